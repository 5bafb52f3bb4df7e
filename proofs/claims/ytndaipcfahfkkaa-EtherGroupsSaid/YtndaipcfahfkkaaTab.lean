/- The functions that the laws reach, as the plain machine has them: each held against the given program by the kernel. -/
import Derived.Test.YtndaipcfahfkkaaVM35
import Derived.Test.YtndaipcfahfkkaaProg
import Derived.Test.YtndaipcfahfkkaaTabA
import Derived.KernelRfl
import Derived.Test.YtndaipcfahfkkaaLib
namespace Go.Proofs.Ytndaipcfahfkkaa
open Go.VM
set_option maxRecDepth 100000
variable {cf : CallF} {sg : Nat → Sig} {m clk : Nat} {tips : Nat → Nat} {lk : Nat → Bool} {bx : BX} {k : Ex → St → Res}

/- exchangepoint/exchangepointref04.Reserved -/
@[simp] def r15_1 : List VOper := [⟨some 1, .boxR 6 (.tmp 0), none⟩, ⟨some 2, .mv (.const (.bool false)), none⟩]
def c15_1 : VC := .region r15_1
@[simp] theorem e15_1 {v0 v1 v2 : V} : execK cf sg m c15_1 ⟨clk, [(0, v0), (1, v1), (2, v2)], tips, lk, bx⟩ k = runK cf sg tips r15_1 ⟨clk + 1, [(0, v0), (1, v1), (2, v2)], tips, lk, bx⟩ (endK 3 k) := execK_region
@[simp] def r15_3 : List VOper := [⟨some 3, .idxA 6 1 (.tmp 1) (.const (.int .i64 5)), none⟩, ⟨some 4, .load (.r 1) false 1 (.tmp 3), none⟩, ⟨some 5, .bin .leq (.tmp 4) (.const (.int .u8 15)), none⟩, ⟨some 6, .mv (.tmp 5), none⟩, ⟨some 7, .load (.r 1) true 6 (.tmp 1), some (6, true)⟩, ⟨some 8, .idxA 6 1 (.tmp 1) (.const (.int .i64 5)), some (6, true)⟩, ⟨some 9, .load (.r 1) false 1 (.tmp 8), some (6, true)⟩, ⟨some 10, .build [.int .u8 0, .int .u8 0, .int .u8 0, .int .u8 0, .int .u8 0, .int .u8 0] [(0, 1, .const (.int .u8 1)), (1, 1, .const (.int .u8 128)), (2, 1, .const (.int .u8 194)), (3, 1, .const (.int .u8 0)), (4, 1, .const (.int .u8 0)), (5, 1, .tmp 9)], some (6, true)⟩, ⟨some 11, .eq false (.flat [.i, .i, .i, .i, .i, .i]) (.tmp 7) (.tmp 10), some (6, true)⟩, ⟨some 12, .pick (.tmp 6) (.tmp 11) (.const (.bool false)), none⟩, ⟨some 2, .mv (.tmp 12), none⟩]
def c15_3 : VC := .region r15_3
@[simp] theorem e15_3 {v0 v1 v2 : V} : execK cf sg m c15_3 ⟨clk, [(0, v0), (1, v1), (2, v2)], tips, lk, bx⟩ k = runK cf sg tips r15_3 ⟨clk + 1, [(0, v0), (1, v1), (2, v2)], tips, lk, bx⟩ (endK 3 k) := execK_region
def c15_4 : VC := .ret
@[simp] theorem e15_4 {e : Env} : execK cf sg m c15_4 ⟨clk, e, tips, lk, bx⟩ k = execK cf sg m (.ret) ⟨clk, e, tips, lk, bx⟩ k := rfl
def c15_2 : VC := .seq c15_3 c15_4
@[simp] theorem e15_2 {e : Env} : execK cf sg m c15_2 ⟨clk, e, tips, lk, bx⟩ k = execK cf sg m (.seq c15_3 c15_4) ⟨clk, e, tips, lk, bx⟩ k := rfl
def c15_0 : VC := .seq c15_1 c15_2
@[simp] theorem e15_0 {e : Env} : execK cf sg m c15_0 ⟨clk, e, tips, lk, bx⟩ k = execK cf sg m (.seq c15_1 c15_2) ⟨clk, e, tips, lk, bx⟩ k := rfl
def hh15 : Hints := { esc := [], rt := [(1, .r 1), (3, .r 1), (8, .r 1)], cut := [], quiet := [], avoid := [] }
def vf15 : VF := ⟨[0, 1, 2], [], true, c15_0, [.tmp 2]⟩
@[simp] theorem res15 : vf15.res = [.tmp 2] := rfl
theorem tab15 : compileFn Try.prog hh15 vf15.kept vf15.cons Try.f15 = some vf15 := by kernel_rfl

/- exchangepoint/ether.Broadcast -/
@[simp] def r16_1 : List VOper := [⟨some 0, .allocR [.int .u8 0, .int .u8 0, .int .u8 0, .int .u8 0, .int .u8 0, .int .u8 0], none⟩]
def c16_1 : VC := .region r16_1
@[simp] theorem e16_1 {v0 : V} : execK cf sg m c16_1 ⟨clk, [(0, v0)], tips, lk, bx⟩ k = runK cf sg tips r16_1 ⟨clk + 1, [(0, v0)], tips, lk, bx⟩ (endK 1 k) := execK_region
@[simp] def r16_3 : List VOper := [⟨some 1, .build [.int .u8 0, .int .u8 0, .int .u8 0, .int .u8 0, .int .u8 0, .int .u8 0] [(0, 1, .const (.int .u8 255)), (1, 1, .const (.int .u8 255)), (2, 1, .const (.int .u8 255)), (3, 1, .const (.int .u8 255)), (4, 1, .const (.int .u8 255)), (5, 1, .const (.int .u8 255))], none⟩, ⟨none, .store (.r 0) 6 (.tmp 0) (.tmp 1), none⟩]
def c16_3 : VC := .region r16_3
@[simp] theorem e16_3 {v0 : V} : execK cf sg m c16_3 ⟨clk, [(0, v0)], tips, lk, bx⟩ k = runK cf sg tips r16_3 ⟨clk + 1, [(0, v0)], tips, lk, bx⟩ (endK 1 k) := execK_region
def c16_4 : VC := .ret
@[simp] theorem e16_4 {e : Env} : execK cf sg m c16_4 ⟨clk, e, tips, lk, bx⟩ k = execK cf sg m (.ret) ⟨clk, e, tips, lk, bx⟩ k := rfl
def c16_2 : VC := .seq c16_3 c16_4
@[simp] theorem e16_2 {e : Env} : execK cf sg m c16_2 ⟨clk, e, tips, lk, bx⟩ k = execK cf sg m (.seq c16_3 c16_4) ⟨clk, e, tips, lk, bx⟩ k := rfl
def c16_0 : VC := .seq c16_1 c16_2
@[simp] theorem e16_0 {e : Env} : execK cf sg m c16_0 ⟨clk, e, tips, lk, bx⟩ k = execK cf sg m (.seq c16_1 c16_2) ⟨clk, e, tips, lk, bx⟩ k := rfl
def hh16 : Hints := { esc := [], rt := [(0, .r 0)], cut := [], quiet := [], avoid := [] }
def vf16 : VF := ⟨[0], [], true, c16_0, [.cell true 6 0]⟩
@[simp] theorem res16 : vf16.res = [.cell true 6 0] := rfl
theorem tab16 : compileFn Try.prog hh16 vf16.kept vf16.cons Try.f16 = some vf16 := by kernel_rfl

/- exchangepoint/exchangepointref04.Broadcast -/
@[simp] def r17_1 : List VOper := [⟨some 0, .allocR [.int .u8 0, .int .u8 0, .int .u8 0, .int .u8 0, .int .u8 0, .int .u8 0], none⟩]
def c17_1 : VC := .region r17_1
@[simp] theorem e17_1 {v0 : V} : execK cf sg m c17_1 ⟨clk, [(0, v0)], tips, lk, bx⟩ k = runK cf sg tips r17_1 ⟨clk + 1, [(0, v0)], tips, lk, bx⟩ (endK 1 k) := execK_region
@[simp] def r17_3 : List VOper := [⟨some 1, .build [.int .u8 0, .int .u8 0, .int .u8 0, .int .u8 0, .int .u8 0, .int .u8 0] [(0, 1, .const (.int .u8 255)), (1, 1, .const (.int .u8 255)), (2, 1, .const (.int .u8 255)), (3, 1, .const (.int .u8 255)), (4, 1, .const (.int .u8 255)), (5, 1, .const (.int .u8 255))], none⟩, ⟨none, .store (.r 0) 6 (.tmp 0) (.tmp 1), none⟩]
def c17_3 : VC := .region r17_3
@[simp] theorem e17_3 {v0 : V} : execK cf sg m c17_3 ⟨clk, [(0, v0)], tips, lk, bx⟩ k = runK cf sg tips r17_3 ⟨clk + 1, [(0, v0)], tips, lk, bx⟩ (endK 1 k) := execK_region
def c17_4 : VC := .ret
@[simp] theorem e17_4 {e : Env} : execK cf sg m c17_4 ⟨clk, e, tips, lk, bx⟩ k = execK cf sg m (.ret) ⟨clk, e, tips, lk, bx⟩ k := rfl
def c17_2 : VC := .seq c17_3 c17_4
@[simp] theorem e17_2 {e : Env} : execK cf sg m c17_2 ⟨clk, e, tips, lk, bx⟩ k = execK cf sg m (.seq c17_3 c17_4) ⟨clk, e, tips, lk, bx⟩ k := rfl
def c17_0 : VC := .seq c17_1 c17_2
@[simp] theorem e17_0 {e : Env} : execK cf sg m c17_0 ⟨clk, e, tips, lk, bx⟩ k = execK cf sg m (.seq c17_1 c17_2) ⟨clk, e, tips, lk, bx⟩ k := rfl
def hh17 : Hints := { esc := [], rt := [(0, .r 0)], cut := [], quiet := [], avoid := [] }
def vf17 : VF := ⟨[0], [], true, c17_0, [.cell true 6 0]⟩
@[simp] theorem res17 : vf17.res = [.cell true 6 0] := rfl
theorem tab17 : compileFn Try.prog hh17 vf17.kept vf17.cons Try.f17 = some vf17 := by kernel_rfl

/- exchangepoint/exchangepointmake.Spoilt -/
@[simp] def r18_1 : List VOper := [⟨some 6, .mv (.const .nils), none⟩]
def c18_1 : VC := .region r18_1
@[simp] theorem e18_1 {v0 v1 v2 v6 v7 v8 v13 v23 v27 v34 v44 : V} : execK cf sg m c18_1 ⟨clk, [(0, v0), (1, v1), (2, v2), (6, v6), (7, v7), (8, v8), (13, v13), (23, v23), (27, v27), (34, v34), (44, v44)], tips, lk, bx⟩ k = runK cf sg tips r18_1 ⟨clk + 1, [(0, v0), (1, v1), (2, v2), (6, v6), (7, v7), (8, v8), (13, v13), (23, v23), (27, v27), (34, v34), (44, v44)], tips, lk, bx⟩ (endK 11 k) := execK_region
@[simp] def r18_3 : List VOper := [⟨some 9, .mv (.tmp 0), none⟩, ⟨some 10, .append 1 1 false (.const .nils) (.tmp 9) [], none⟩, ⟨some 7, .mv (.tmp 10), none⟩]
def c18_3 : VC := .region r18_3
@[simp] theorem e18_3 {v0 v1 v2 v6 v7 v8 v13 v23 v27 v34 v44 : V} : execK cf sg m c18_3 ⟨clk, [(0, v0), (1, v1), (2, v2), (6, v6), (7, v7), (8, v8), (13, v13), (23, v23), (27, v27), (34, v34), (44, v44)], tips, lk, bx⟩ k = runK cf sg tips r18_3 ⟨clk + 1, [(0, v0), (1, v1), (2, v2), (6, v6), (7, v7), (8, v8), (13, v13), (23, v23), (27, v27), (34, v34), (44, v44)], tips, lk, bx⟩ (endK 11 k) := execK_region
@[simp] def r18_6 : List VOper := [⟨some 11, .mv (.tmp 7), none⟩, ⟨some 12, .len false (.tmp 11), none⟩, ⟨some 13, .bin .eql (.tmp 12) (.const (.int .i64 0)), none⟩]
def c18_6 : VC := .region r18_6
@[simp] theorem e18_6 {v0 v1 v2 v6 v7 v8 v13 v23 v27 v34 v44 : V} : execK cf sg m c18_6 ⟨clk, [(0, v0), (1, v1), (2, v2), (6, v6), (7, v7), (8, v8), (13, v13), (23, v23), (27, v27), (34, v34), (44, v44)], tips, lk, bx⟩ k = runK cf sg tips r18_6 ⟨clk + 1, [(0, v0), (1, v1), (2, v2), (6, v6), (7, v7), (8, v8), (13, v13), (23, v23), (27, v27), (34, v34), (44, v44)], tips, lk, bx⟩ (endK 11 k) := execK_region
@[simp] def r18_9 : List VOper := [⟨some 14, .mv (.tmp 2), none⟩, ⟨some 15, .convI .u8 (.tmp 14), none⟩, ⟨some 16, .bslice false 1 1 [.int .u8 0] [(0, 1, .tmp 15)], none⟩, ⟨some 6, .mv (.tmp 16), none⟩]
def c18_9 : VC := .region r18_9
@[simp] theorem e18_9 {v0 v1 v2 v6 v7 v8 v13 v23 v27 v34 v44 : V} : execK cf sg m c18_9 ⟨clk, [(0, v0), (1, v1), (2, v2), (6, v6), (7, v7), (8, v8), (13, v13), (23, v23), (27, v27), (34, v34), (44, v44)], tips, lk, bx⟩ k = runK cf sg (bump tips [(nmOf 16 0)]) r18_9 ⟨clk + 1, [(0, v0), (1, v1), (2, v2), (6, v6), (7, v7), (8, v8), (13, v13), (23, v23), (27, v27), (34, v34), (44, v44)], bump tips [(nmOf 16 0)], updL lk false [(nmOf 16 0)], bx⟩ (endK 11 k) := execK_region
def c18_10 : VC := .ret
@[simp] theorem e18_10 {e : Env} : execK cf sg m c18_10 ⟨clk, e, tips, lk, bx⟩ k = execK cf sg m (.ret) ⟨clk, e, tips, lk, bx⟩ k := rfl
def c18_8 : VC := .seq c18_9 c18_10
@[simp] theorem e18_8 {e : Env} : execK cf sg m c18_8 ⟨clk, e, tips, lk, bx⟩ k = execK cf sg m (.seq c18_9 c18_10) ⟨clk, e, tips, lk, bx⟩ k := rfl
def c18_11 : VC := .skip
@[simp] theorem e18_11 {e : Env} : execK cf sg m c18_11 ⟨clk, e, tips, lk, bx⟩ k = execK cf sg m (.skip) ⟨clk, e, tips, lk, bx⟩ k := rfl
def c18_7 : VC := .cond (.tmp 13) c18_8 c18_11
@[simp] theorem e18_7 {e : Env} : execK cf sg m c18_7 ⟨clk, e, tips, lk, bx⟩ k = execK cf sg m (.cond (.tmp 13) c18_8 c18_11) ⟨clk, e, tips, lk, bx⟩ k := rfl
def c18_5 : VC := .seq c18_6 c18_7
@[simp] theorem e18_5 {e : Env} : execK cf sg m c18_5 ⟨clk, e, tips, lk, bx⟩ k = execK cf sg m (.seq c18_6 c18_7) ⟨clk, e, tips, lk, bx⟩ k := rfl
@[simp] def r18_13 : List VOper := [⟨some 17, .mv (.tmp 1), none⟩, ⟨some 18, .mv (.tmp 7), none⟩, ⟨some 19, .len false (.tmp 18), none⟩, ⟨some 20, .call 9 [.tmp 17, .tmp 19] true [], none⟩, ⟨some 8, .mv (.tmp 20), none⟩]
def c18_13 : VC := .region r18_13
@[simp] theorem e18_13 {v0 v1 v2 v6 v7 v8 v13 v23 v27 v34 v44 : V} : execK cf sg m c18_13 ⟨clk, [(0, v0), (1, v1), (2, v2), (6, v6), (7, v7), (8, v8), (13, v13), (23, v23), (27, v27), (34, v34), (44, v44)], tips, lk, bx⟩ k = runK cf sg tips r18_13 ⟨clk + 1, [(0, v0), (1, v1), (2, v2), (6, v6), (7, v7), (8, v8), (13, v13), (23, v23), (27, v27), (34, v34), (44, v44)], tips, lk, bx⟩ (endK 11 k) := execK_region
@[simp] def r18_16 : List VOper := [⟨some 21, .mv (.tmp 2), none⟩, ⟨some 22, .bin .quo (.tmp 21) (.const (.int .i64 256)), none⟩, ⟨some 23, .call 9 [.tmp 22, .const (.int .i64 4)] true [], none⟩]
def c18_16 : VC := .region r18_16
@[simp] theorem e18_16 {v0 v1 v2 v6 v7 v8 v13 v23 v27 v34 v44 : V} : execK cf sg m c18_16 ⟨clk, [(0, v0), (1, v1), (2, v2), (6, v6), (7, v7), (8, v8), (13, v13), (23, v23), (27, v27), (34, v34), (44, v44)], tips, lk, bx⟩ k = runK cf sg tips r18_16 ⟨clk + 1, [(0, v0), (1, v1), (2, v2), (6, v6), (7, v7), (8, v8), (13, v13), (23, v23), (27, v27), (34, v34), (44, v44)], tips, lk, bx⟩ (endK 11 k) := execK_region
@[simp] def r18_19 : List VOper := [⟨some 28, .bin .eql (.tmp 23) (.const (.int .i64 0)), none⟩, ⟨some 27, .mv (.tmp 28), none⟩]
def c18_19 : VC := .region r18_19
@[simp] theorem e18_19 {v0 v1 v2 v6 v7 v8 v13 v23 v27 v34 v44 : V} : execK cf sg m c18_19 ⟨clk, [(0, v0), (1, v1), (2, v2), (6, v6), (7, v7), (8, v8), (13, v13), (23, v23), (27, v27), (34, v34), (44, v44)], tips, lk, bx⟩ k = runK cf sg tips r18_19 ⟨clk + 1, [(0, v0), (1, v1), (2, v2), (6, v6), (7, v7), (8, v8), (13, v13), (23, v23), (27, v27), (34, v34), (44, v44)], tips, lk, bx⟩ (endK 11 k) := execK_region
@[simp] def r18_21 : List VOper := [⟨some 29, .mv (.tmp 7), none⟩, ⟨some 30, .mv (.tmp 8), none⟩, ⟨some 31, .mv (.tmp 2), none⟩, ⟨some 32, .convI .u8 (.tmp 31), none⟩, ⟨some 33, .idxS 1 (.tmp 29) (.tmp 30), none⟩, ⟨none, .store (.e []) 1 (.tmp 33) (.tmp 32), none⟩]
def c18_21 : VC := .region r18_21
@[simp] theorem e18_21 {v0 v1 v2 v6 v7 v8 v13 v23 v27 v34 v44 : V} : execK cf sg m c18_21 ⟨clk, [(0, v0), (1, v1), (2, v2), (6, v6), (7, v7), (8, v8), (13, v13), (23, v23), (27, v27), (34, v34), (44, v44)], tips, lk, bx⟩ k = runK cf sg tips r18_21 ⟨clk + 1, [(0, v0), (1, v1), (2, v2), (6, v6), (7, v7), (8, v8), (13, v13), (23, v23), (27, v27), (34, v34), (44, v44)], tips, lk, bx⟩ (endK 11 k) := execK_region
@[simp] def r18_23 : List VOper := [⟨some 35, .bin .eql (.tmp 23) (.const (.int .i64 1)), none⟩, ⟨some 34, .mv (.tmp 35), none⟩]
def c18_23 : VC := .region r18_23
@[simp] theorem e18_23 {v0 v1 v2 v6 v7 v8 v13 v23 v27 v34 v44 : V} : execK cf sg m c18_23 ⟨clk, [(0, v0), (1, v1), (2, v2), (6, v6), (7, v7), (8, v8), (13, v13), (23, v23), (27, v27), (34, v34), (44, v44)], tips, lk, bx⟩ k = runK cf sg tips r18_23 ⟨clk + 1, [(0, v0), (1, v1), (2, v2), (6, v6), (7, v7), (8, v8), (13, v13), (23, v23), (27, v27), (34, v34), (44, v44)], tips, lk, bx⟩ (endK 11 k) := execK_region
@[simp] def r18_26 : List VOper := [⟨some 36, .mv (.tmp 7), none⟩, ⟨some 37, .mv (.tmp 8), none⟩, ⟨some 38, .cut 1 (.tmp 36) none (some (.tmp 37)), none⟩, ⟨some 39, .mv (.tmp 7), none⟩, ⟨some 40, .mv (.tmp 8), none⟩, ⟨some 41, .bin .add (.tmp 40) (.const (.int .i64 1)), none⟩, ⟨some 42, .cut 1 (.tmp 39) (some (.tmp 41)) none, none⟩, ⟨some 43, .append 1 1 true (.tmp 38) (.tmp 42) [], none⟩, ⟨some 6, .mv (.tmp 43), none⟩]
def c18_26 : VC := .region r18_26
@[simp] theorem e18_26 {v0 v1 v2 v6 v7 v8 v13 v23 v27 v34 v44 : V} : execK cf sg m c18_26 ⟨clk, [(0, v0), (1, v1), (2, v2), (6, v6), (7, v7), (8, v8), (13, v13), (23, v23), (27, v27), (34, v34), (44, v44)], tips, lk, bx⟩ k = runK cf sg tips r18_26 ⟨clk + 1, [(0, v0), (1, v1), (2, v2), (6, v6), (7, v7), (8, v8), (13, v13), (23, v23), (27, v27), (34, v34), (44, v44)], tips, lk, bx⟩ (endK 11 k) := execK_region
def c18_27 : VC := .ret
@[simp] theorem e18_27 {e : Env} : execK cf sg m c18_27 ⟨clk, e, tips, lk, bx⟩ k = execK cf sg m (.ret) ⟨clk, e, tips, lk, bx⟩ k := rfl
def c18_25 : VC := .seq c18_26 c18_27
@[simp] theorem e18_25 {e : Env} : execK cf sg m c18_25 ⟨clk, e, tips, lk, bx⟩ k = execK cf sg m (.seq c18_26 c18_27) ⟨clk, e, tips, lk, bx⟩ k := rfl
@[simp] def r18_29 : List VOper := [⟨some 45, .bin .eql (.tmp 23) (.const (.int .i64 2)), none⟩, ⟨some 44, .mv (.tmp 45), none⟩]
def c18_29 : VC := .region r18_29
@[simp] theorem e18_29 {v0 v1 v2 v6 v7 v8 v13 v23 v27 v34 v44 : V} : execK cf sg m c18_29 ⟨clk, [(0, v0), (1, v1), (2, v2), (6, v6), (7, v7), (8, v8), (13, v13), (23, v23), (27, v27), (34, v34), (44, v44)], tips, lk, bx⟩ k = runK cf sg tips r18_29 ⟨clk + 1, [(0, v0), (1, v1), (2, v2), (6, v6), (7, v7), (8, v8), (13, v13), (23, v23), (27, v27), (34, v34), (44, v44)], tips, lk, bx⟩ (endK 11 k) := execK_region
@[simp] def r18_32 : List VOper := [⟨some 46, .mv (.tmp 7), none⟩, ⟨some 47, .mv (.tmp 8), none⟩, ⟨some 48, .cut 1 (.tmp 46) none (some (.tmp 47)), none⟩, ⟨some 49, .append 1 1 false (.const .nils) (.tmp 48) [], none⟩, ⟨some 50, .mv (.tmp 2), none⟩, ⟨some 51, .convI .u8 (.tmp 50), none⟩, ⟨some 52, .bslice false 1 1 [.int .u8 0] [(0, 1, .tmp 51)], none⟩, ⟨some 53, .append 1 1 false (.tmp 49) (.tmp 52) [], none⟩, ⟨some 54, .mv (.tmp 7), none⟩, ⟨some 55, .mv (.tmp 8), none⟩, ⟨some 56, .cut 1 (.tmp 54) (some (.tmp 55)) none, none⟩, ⟨some 57, .append 1 1 false (.tmp 53) (.tmp 56) [], none⟩, ⟨some 6, .mv (.tmp 57), none⟩]
def c18_32 : VC := .region r18_32
@[simp] theorem e18_32 {v0 v1 v2 v6 v7 v8 v13 v23 v27 v34 v44 : V} : execK cf sg m c18_32 ⟨clk, [(0, v0), (1, v1), (2, v2), (6, v6), (7, v7), (8, v8), (13, v13), (23, v23), (27, v27), (34, v34), (44, v44)], tips, lk, bx⟩ k = runK cf sg (bump tips [(nmOf 52 0)]) r18_32 ⟨clk + 1, [(0, v0), (1, v1), (2, v2), (6, v6), (7, v7), (8, v8), (13, v13), (23, v23), (27, v27), (34, v34), (44, v44)], bump tips [(nmOf 52 0)], updL lk false [(nmOf 52 0)], bx⟩ (endK 11 k) := execK_region
def c18_33 : VC := .ret
@[simp] theorem e18_33 {e : Env} : execK cf sg m c18_33 ⟨clk, e, tips, lk, bx⟩ k = execK cf sg m (.ret) ⟨clk, e, tips, lk, bx⟩ k := rfl
def c18_31 : VC := .seq c18_32 c18_33
@[simp] theorem e18_31 {e : Env} : execK cf sg m c18_31 ⟨clk, e, tips, lk, bx⟩ k = execK cf sg m (.seq c18_32 c18_33) ⟨clk, e, tips, lk, bx⟩ k := rfl
@[simp] def r18_35 : List VOper := [⟨some 24, .mv (.tmp 7), none⟩, ⟨some 25, .mv (.tmp 8), none⟩, ⟨some 26, .cut 1 (.tmp 24) none (some (.tmp 25)), none⟩, ⟨some 6, .mv (.tmp 26), none⟩]
def c18_35 : VC := .region r18_35
@[simp] theorem e18_35 {v0 v1 v2 v6 v7 v8 v13 v23 v27 v34 v44 : V} : execK cf sg m c18_35 ⟨clk, [(0, v0), (1, v1), (2, v2), (6, v6), (7, v7), (8, v8), (13, v13), (23, v23), (27, v27), (34, v34), (44, v44)], tips, lk, bx⟩ k = runK cf sg tips r18_35 ⟨clk + 1, [(0, v0), (1, v1), (2, v2), (6, v6), (7, v7), (8, v8), (13, v13), (23, v23), (27, v27), (34, v34), (44, v44)], tips, lk, bx⟩ (endK 11 k) := execK_region
def c18_36 : VC := .ret
@[simp] theorem e18_36 {e : Env} : execK cf sg m c18_36 ⟨clk, e, tips, lk, bx⟩ k = execK cf sg m (.ret) ⟨clk, e, tips, lk, bx⟩ k := rfl
def c18_34 : VC := .seq c18_35 c18_36
@[simp] theorem e18_34 {e : Env} : execK cf sg m c18_34 ⟨clk, e, tips, lk, bx⟩ k = execK cf sg m (.seq c18_35 c18_36) ⟨clk, e, tips, lk, bx⟩ k := rfl
def c18_30 : VC := .cond (.tmp 44) c18_31 c18_34
@[simp] theorem e18_30 {e : Env} : execK cf sg m c18_30 ⟨clk, e, tips, lk, bx⟩ k = execK cf sg m (.cond (.tmp 44) c18_31 c18_34) ⟨clk, e, tips, lk, bx⟩ k := rfl
def c18_28 : VC := .seq c18_29 c18_30
@[simp] theorem e18_28 {e : Env} : execK cf sg m c18_28 ⟨clk, e, tips, lk, bx⟩ k = execK cf sg m (.seq c18_29 c18_30) ⟨clk, e, tips, lk, bx⟩ k := rfl
def c18_24 : VC := .cond (.tmp 34) c18_25 c18_28
@[simp] theorem e18_24 {e : Env} : execK cf sg m c18_24 ⟨clk, e, tips, lk, bx⟩ k = execK cf sg m (.cond (.tmp 34) c18_25 c18_28) ⟨clk, e, tips, lk, bx⟩ k := rfl
def c18_22 : VC := .seq c18_23 c18_24
@[simp] theorem e18_22 {e : Env} : execK cf sg m c18_22 ⟨clk, e, tips, lk, bx⟩ k = execK cf sg m (.seq c18_23 c18_24) ⟨clk, e, tips, lk, bx⟩ k := rfl
def c18_20 : VC := .cond (.tmp 27) c18_21 c18_22
@[simp] theorem e18_20 {e : Env} : execK cf sg m c18_20 ⟨clk, e, tips, lk, bx⟩ k = execK cf sg m (.cond (.tmp 27) c18_21 c18_22) ⟨clk, e, tips, lk, bx⟩ k := rfl
def c18_18 : VC := .seq c18_19 c18_20
@[simp] theorem e18_18 {e : Env} : execK cf sg m c18_18 ⟨clk, e, tips, lk, bx⟩ k = execK cf sg m (.seq c18_19 c18_20) ⟨clk, e, tips, lk, bx⟩ k := rfl
def c18_17 : VC := .block 0 c18_18
@[simp] theorem e18_17 {e : Env} : execK cf sg m c18_17 ⟨clk, e, tips, lk, bx⟩ k = execK cf sg m (.block 0 c18_18) ⟨clk, e, tips, lk, bx⟩ k := rfl
def c18_15 : VC := .seq c18_16 c18_17
@[simp] theorem e18_15 {e : Env} : execK cf sg m c18_15 ⟨clk, e, tips, lk, bx⟩ k = execK cf sg m (.seq c18_16 c18_17) ⟨clk, e, tips, lk, bx⟩ k := rfl
@[simp] def r18_38 : List VOper := [⟨some 58, .mv (.tmp 7), none⟩, ⟨some 6, .mv (.tmp 58), none⟩]
def c18_38 : VC := .region r18_38
@[simp] theorem e18_38 {v0 v1 v2 v6 v7 v8 v13 v23 v27 v34 v44 : V} : execK cf sg m c18_38 ⟨clk, [(0, v0), (1, v1), (2, v2), (6, v6), (7, v7), (8, v8), (13, v13), (23, v23), (27, v27), (34, v34), (44, v44)], tips, lk, bx⟩ k = runK cf sg tips r18_38 ⟨clk + 1, [(0, v0), (1, v1), (2, v2), (6, v6), (7, v7), (8, v8), (13, v13), (23, v23), (27, v27), (34, v34), (44, v44)], tips, lk, bx⟩ (endK 11 k) := execK_region
def c18_39 : VC := .ret
@[simp] theorem e18_39 {e : Env} : execK cf sg m c18_39 ⟨clk, e, tips, lk, bx⟩ k = execK cf sg m (.ret) ⟨clk, e, tips, lk, bx⟩ k := rfl
def c18_37 : VC := .seq c18_38 c18_39
@[simp] theorem e18_37 {e : Env} : execK cf sg m c18_37 ⟨clk, e, tips, lk, bx⟩ k = execK cf sg m (.seq c18_38 c18_39) ⟨clk, e, tips, lk, bx⟩ k := rfl
def c18_14 : VC := .seq c18_15 c18_37
@[simp] theorem e18_14 {e : Env} : execK cf sg m c18_14 ⟨clk, e, tips, lk, bx⟩ k = execK cf sg m (.seq c18_15 c18_37) ⟨clk, e, tips, lk, bx⟩ k := rfl
def c18_12 : VC := .seq c18_13 c18_14
@[simp] theorem e18_12 {e : Env} : execK cf sg m c18_12 ⟨clk, e, tips, lk, bx⟩ k = execK cf sg m (.seq c18_13 c18_14) ⟨clk, e, tips, lk, bx⟩ k := rfl
def c18_4 : VC := .seq c18_5 c18_12
@[simp] theorem e18_4 {e : Env} : execK cf sg m c18_4 ⟨clk, e, tips, lk, bx⟩ k = execK cf sg m (.seq c18_5 c18_12) ⟨clk, e, tips, lk, bx⟩ k := rfl
def c18_2 : VC := .seq c18_3 c18_4
@[simp] theorem e18_2 {e : Env} : execK cf sg m c18_2 ⟨clk, e, tips, lk, bx⟩ k = execK cf sg m (.seq c18_3 c18_4) ⟨clk, e, tips, lk, bx⟩ k := rfl
def c18_0 : VC := .seq c18_1 c18_2
@[simp] theorem e18_0 {e : Env} : execK cf sg m c18_0 ⟨clk, e, tips, lk, bx⟩ k = execK cf sg m (.seq c18_1 c18_2) ⟨clk, e, tips, lk, bx⟩ k := rfl
def hh18 : Hints := { esc := [], rt := [(33, .e [])], cut := [43], quiet := [20, 23], avoid := [] }
def vf18 : VF := ⟨[0, 1, 2, 6, 7, 8, 13, 23, 27, 34, 44], [], true, c18_0, [.tmp 6]⟩
@[simp] theorem res18 : vf18.res = [.tmp 6] := rfl
theorem tab18 : compileFn Try.prog hh18 vf18.kept vf18.cons Try.f18 = some vf18 := by kernel_rfl

/- exchangepoint/ether.Parse -/
@[simp] def r19_1 : List VOper := [⟨some 2, .allocR [.int .u8 0, .int .u8 0, .int .u8 0, .int .u8 0, .int .u8 0, .int .u8 0], none⟩, ⟨some 3, .mv (.const (.int .i64 0)), none⟩]
def c19_1 : VC := .region r19_1
@[simp] theorem e19_1 {v0 v2 v3 v4 v5 v6 v7 v10 v12 v13 v38 : V} : execK cf sg m c19_1 ⟨clk, [(0, v0), (2, v2), (3, v3), (4, v4), (5, v5), (6, v6), (7, v7), (10, v10), (12, v12), (13, v13), (38, v38)], tips, lk, bx⟩ k = runK cf sg tips r19_1 ⟨clk + 1, [(0, v0), (2, v2), (3, v3), (4, v4), (5, v5), (6, v6), (7, v7), (10, v10), (12, v12), (13, v13), (38, v38)], tips, lk, bx⟩ (endK 11 k) := execK_region
@[simp] def r19_3 : List VOper := [⟨some 4, .allocR [.int .u8 0, .int .u8 0, .int .u8 0, .int .u8 0, .int .u8 0, .int .u8 0], none⟩]
def c19_3 : VC := .region r19_3
@[simp] theorem e19_3 {v0 v2 v3 v4 v5 v6 v7 v10 v12 v13 v38 : V} : execK cf sg m c19_3 ⟨clk, [(0, v0), (2, v2), (3, v3), (4, v4), (5, v5), (6, v6), (7, v7), (10, v10), (12, v12), (13, v13), (38, v38)], tips, lk, bx⟩ k = runK cf sg tips r19_3 ⟨clk + 1, [(0, v0), (2, v2), (3, v3), (4, v4), (5, v5), (6, v6), (7, v7), (10, v10), (12, v12), (13, v13), (38, v38)], tips, lk, bx⟩ (endK 11 k) := execK_region
@[simp] def r19_6 : List VOper := [⟨some 8, .mv (.tmp 0), none⟩, ⟨some 9, .len true (.tmp 8), none⟩, ⟨some 10, .bin .neq (.tmp 9) (.const (.int .i64 17)), none⟩]
def c19_6 : VC := .region r19_6
@[simp] theorem e19_6 {v0 v2 v3 v4 v5 v6 v7 v10 v12 v13 v38 : V} : execK cf sg m c19_6 ⟨clk, [(0, v0), (2, v2), (3, v3), (4, v4), (5, v5), (6, v6), (7, v7), (10, v10), (12, v12), (13, v13), (38, v38)], tips, lk, bx⟩ k = runK cf sg tips r19_6 ⟨clk + 1, [(0, v0), (2, v2), (3, v3), (4, v4), (5, v5), (6, v6), (7, v7), (10, v10), (12, v12), (13, v13), (38, v38)], tips, lk, bx⟩ (endK 11 k) := execK_region
@[simp] def r19_9 : List VOper := [⟨some 11, .load (.r 4) true 6 (.tmp 4), none⟩, ⟨none, .store (.r 2) 6 (.tmp 2) (.tmp 11), none⟩, ⟨some 3, .mv (.const (.int .i64 2)), none⟩]
def c19_9 : VC := .region r19_9
@[simp] theorem e19_9 {v0 v2 v3 v4 v5 v6 v7 v10 v12 v13 v38 : V} : execK cf sg m c19_9 ⟨clk, [(0, v0), (2, v2), (3, v3), (4, v4), (5, v5), (6, v6), (7, v7), (10, v10), (12, v12), (13, v13), (38, v38)], tips, lk, bx⟩ k = runK cf sg tips r19_9 ⟨clk + 1, [(0, v0), (2, v2), (3, v3), (4, v4), (5, v5), (6, v6), (7, v7), (10, v10), (12, v12), (13, v13), (38, v38)], tips, lk, bx⟩ (endK 11 k) := execK_region
def c19_10 : VC := .ret
@[simp] theorem e19_10 {e : Env} : execK cf sg m c19_10 ⟨clk, e, tips, lk, bx⟩ k = execK cf sg m (.ret) ⟨clk, e, tips, lk, bx⟩ k := rfl
def c19_8 : VC := .seq c19_9 c19_10
@[simp] theorem e19_8 {e : Env} : execK cf sg m c19_8 ⟨clk, e, tips, lk, bx⟩ k = execK cf sg m (.seq c19_9 c19_10) ⟨clk, e, tips, lk, bx⟩ k := rfl
def c19_11 : VC := .skip
@[simp] theorem e19_11 {e : Env} : execK cf sg m c19_11 ⟨clk, e, tips, lk, bx⟩ k = execK cf sg m (.skip) ⟨clk, e, tips, lk, bx⟩ k := rfl
def c19_7 : VC := .cond (.tmp 10) c19_8 c19_11
@[simp] theorem e19_7 {e : Env} : execK cf sg m c19_7 ⟨clk, e, tips, lk, bx⟩ k = execK cf sg m (.cond (.tmp 10) c19_8 c19_11) ⟨clk, e, tips, lk, bx⟩ k := rfl
def c19_5 : VC := .seq c19_6 c19_7
@[simp] theorem e19_5 {e : Env} : execK cf sg m c19_5 ⟨clk, e, tips, lk, bx⟩ k = execK cf sg m (.seq c19_6 c19_7) ⟨clk, e, tips, lk, bx⟩ k := rfl
@[simp] def r19_14 : List VOper := [⟨some 12, .mv (.const (.int .i64 0)), none⟩]
def c19_14 : VC := .region r19_14
@[simp] theorem e19_14 {v0 v2 v3 v4 v5 v6 v7 v10 v12 v13 v38 : V} : execK cf sg m c19_14 ⟨clk, [(0, v0), (2, v2), (3, v3), (4, v4), (5, v5), (6, v6), (7, v7), (10, v10), (12, v12), (13, v13), (38, v38)], tips, lk, bx⟩ k = runK cf sg tips r19_14 ⟨clk + 1, [(0, v0), (2, v2), (3, v3), (4, v4), (5, v5), (6, v6), (7, v7), (10, v10), (12, v12), (13, v13), (38, v38)], tips, lk, bx⟩ (endK 11 k) := execK_region
@[simp] def r19_18 : List VOper := [⟨some 13, .bin .lss (.tmp 12) (.const (.int .i64 6)), none⟩]
def c19_18 : VC := .region r19_18
@[simp] theorem e19_18 {v0 v2 v3 v4 v5 v6 v7 v10 v12 v13 v38 : V} : execK cf sg m c19_18 ⟨clk, [(0, v0), (2, v2), (3, v3), (4, v4), (5, v5), (6, v6), (7, v7), (10, v10), (12, v12), (13, v13), (38, v38)], tips, lk, bx⟩ k = runK cf sg tips r19_18 ⟨clk + 1, [(0, v0), (2, v2), (3, v3), (4, v4), (5, v5), (6, v6), (7, v7), (10, v10), (12, v12), (13, v13), (38, v38)], tips, lk, bx⟩ (endK 11 k) := execK_region
def c19_21 : VC := .skip
@[simp] theorem e19_21 {e : Env} : execK cf sg m c19_21 ⟨clk, e, tips, lk, bx⟩ k = execK cf sg m (.skip) ⟨clk, e, tips, lk, bx⟩ k := rfl
def c19_22 : VC := .exit 0
@[simp] theorem e19_22 {e : Env} : execK cf sg m c19_22 ⟨clk, e, tips, lk, bx⟩ k = execK cf sg m (.exit 0) ⟨clk, e, tips, lk, bx⟩ k := rfl
def c19_20 : VC := .cond (.tmp 13) c19_21 c19_22
@[simp] theorem e19_20 {e : Env} : execK cf sg m c19_20 ⟨clk, e, tips, lk, bx⟩ k = execK cf sg m (.cond (.tmp 13) c19_21 c19_22) ⟨clk, e, tips, lk, bx⟩ k := rfl
@[simp] def r19_26 : List VOper := [⟨some 14, .mv (.tmp 12), none⟩, ⟨some 5, .mv (.tmp 14), none⟩]
def c19_26 : VC := .region r19_26
@[simp] theorem e19_26 {v0 v2 v3 v4 v5 v6 v7 v10 v12 v13 v38 : V} : execK cf sg m c19_26 ⟨clk, [(0, v0), (2, v2), (3, v3), (4, v4), (5, v5), (6, v6), (7, v7), (10, v10), (12, v12), (13, v13), (38, v38)], tips, lk, bx⟩ k = runK cf sg tips r19_26 ⟨clk + 1, [(0, v0), (2, v2), (3, v3), (4, v4), (5, v5), (6, v6), (7, v7), (10, v10), (12, v12), (13, v13), (38, v38)], tips, lk, bx⟩ (endK 11 k) := execK_region
@[simp] def r19_28 : List VOper := [⟨some 15, .mv (.tmp 0), none⟩, ⟨some 16, .mv (.tmp 5), none⟩, ⟨some 17, .bin .mul (.const (.int .i64 3)) (.tmp 16), none⟩, ⟨some 18, .ixS (.tmp 15) (.tmp 17), none⟩, ⟨some 19, .call 35 [.const (.str [48, 49, 50, 51, 52, 53, 54, 55, 56, 57, 97, 98, 99, 100, 101, 102]), .tmp 18] true [], none⟩, ⟨some 6, .mv (.tmp 19), none⟩]
def c19_28 : VC := .region r19_28
@[simp] theorem e19_28 {v0 v2 v3 v4 v5 v6 v7 v10 v12 v13 v38 : V} : execK cf sg m c19_28 ⟨clk, [(0, v0), (2, v2), (3, v3), (4, v4), (5, v5), (6, v6), (7, v7), (10, v10), (12, v12), (13, v13), (38, v38)], tips, lk, bx⟩ k = runK cf sg tips r19_28 ⟨clk + 1, [(0, v0), (2, v2), (3, v3), (4, v4), (5, v5), (6, v6), (7, v7), (10, v10), (12, v12), (13, v13), (38, v38)], tips, lk, bx⟩ (endK 11 k) := execK_region
@[simp] def r19_30 : List VOper := [⟨some 20, .mv (.tmp 0), none⟩, ⟨some 21, .mv (.tmp 5), none⟩, ⟨some 22, .bin .mul (.const (.int .i64 3)) (.tmp 21), none⟩, ⟨some 23, .bin .add (.tmp 22) (.const (.int .i64 1)), none⟩, ⟨some 24, .ixS (.tmp 20) (.tmp 23), none⟩, ⟨some 25, .call 35 [.const (.str [48, 49, 50, 51, 52, 53, 54, 55, 56, 57, 97, 98, 99, 100, 101, 102]), .tmp 24] true [], none⟩, ⟨some 7, .mv (.tmp 25), none⟩]
def c19_30 : VC := .region r19_30
@[simp] theorem e19_30 {v0 v2 v3 v4 v5 v6 v7 v10 v12 v13 v38 : V} : execK cf sg m c19_30 ⟨clk, [(0, v0), (2, v2), (3, v3), (4, v4), (5, v5), (6, v6), (7, v7), (10, v10), (12, v12), (13, v13), (38, v38)], tips, lk, bx⟩ k = runK cf sg tips r19_30 ⟨clk + 1, [(0, v0), (2, v2), (3, v3), (4, v4), (5, v5), (6, v6), (7, v7), (10, v10), (12, v12), (13, v13), (38, v38)], tips, lk, bx⟩ (endK 11 k) := execK_region
@[simp] def r19_31 : List VOper := [⟨some 26, .mv (.tmp 5), none⟩, ⟨some 27, .mv (.tmp 6), none⟩, ⟨some 28, .bin .shl (.tmp 27) (.const (.int .u64 4)), none⟩, ⟨some 29, .mv (.tmp 7), none⟩, ⟨some 30, .bin .and (.tmp 29) (.const (.int .i64 15)), none⟩, ⟨some 31, .bin .or (.tmp 28) (.tmp 30), none⟩, ⟨some 32, .convI .u8 (.tmp 31), none⟩, ⟨some 33, .idxA 6 1 (.tmp 4) (.tmp 26), none⟩, ⟨none, .store (.r 4) 1 (.tmp 33) (.tmp 32), none⟩]
def c19_31 : VC := .region r19_31
@[simp] theorem e19_31 {v0 v2 v3 v4 v5 v6 v7 v10 v12 v13 v38 : V} : execK cf sg m c19_31 ⟨clk, [(0, v0), (2, v2), (3, v3), (4, v4), (5, v5), (6, v6), (7, v7), (10, v10), (12, v12), (13, v13), (38, v38)], tips, lk, bx⟩ k = runK cf sg tips r19_31 ⟨clk + 1, [(0, v0), (2, v2), (3, v3), (4, v4), (5, v5), (6, v6), (7, v7), (10, v10), (12, v12), (13, v13), (38, v38)], tips, lk, bx⟩ (endK 11 k) := execK_region
def c19_29 : VC := .seq c19_30 c19_31
@[simp] theorem e19_29 {e : Env} : execK cf sg m c19_29 ⟨clk, e, tips, lk, bx⟩ k = execK cf sg m (.seq c19_30 c19_31) ⟨clk, e, tips, lk, bx⟩ k := rfl
def c19_27 : VC := .seq c19_28 c19_29
@[simp] theorem e19_27 {e : Env} : execK cf sg m c19_27 ⟨clk, e, tips, lk, bx⟩ k = execK cf sg m (.seq c19_28 c19_29) ⟨clk, e, tips, lk, bx⟩ k := rfl
def c19_25 : VC := .seq c19_26 c19_27
@[simp] theorem e19_25 {e : Env} : execK cf sg m c19_25 ⟨clk, e, tips, lk, bx⟩ k = execK cf sg m (.seq c19_26 c19_27) ⟨clk, e, tips, lk, bx⟩ k := rfl
def c19_24 : VC := .block 1 c19_25
@[simp] theorem e19_24 {e : Env} : execK cf sg m c19_24 ⟨clk, e, tips, lk, bx⟩ k = execK cf sg m (.block 1 c19_25) ⟨clk, e, tips, lk, bx⟩ k := rfl
@[simp] def r19_32 : List VOper := [⟨some 34, .bin .add (.tmp 12) (.const (.int .i64 1)), none⟩, ⟨some 12, .mv (.tmp 34), none⟩]
def c19_32 : VC := .region r19_32
@[simp] theorem e19_32 {v0 v2 v3 v4 v5 v6 v7 v10 v12 v13 v38 : V} : execK cf sg m c19_32 ⟨clk, [(0, v0), (2, v2), (3, v3), (4, v4), (5, v5), (6, v6), (7, v7), (10, v10), (12, v12), (13, v13), (38, v38)], tips, lk, bx⟩ k = runK cf sg tips r19_32 ⟨clk + 1, [(0, v0), (2, v2), (3, v3), (4, v4), (5, v5), (6, v6), (7, v7), (10, v10), (12, v12), (13, v13), (38, v38)], tips, lk, bx⟩ (endK 11 k) := execK_region
def c19_23 : VC := .seq c19_24 c19_32
@[simp] theorem e19_23 {e : Env} : execK cf sg m c19_23 ⟨clk, e, tips, lk, bx⟩ k = execK cf sg m (.seq c19_24 c19_32) ⟨clk, e, tips, lk, bx⟩ k := rfl
def c19_19 : VC := .seq c19_20 c19_23
@[simp] theorem e19_19 {e : Env} : execK cf sg m c19_19 ⟨clk, e, tips, lk, bx⟩ k = execK cf sg m (.seq c19_20 c19_23) ⟨clk, e, tips, lk, bx⟩ k := rfl
def c19_17 : VC := .seq c19_18 c19_19
@[simp] theorem e19_17 {e : Env} : execK cf sg m c19_17 ⟨clk, e, tips, lk, bx⟩ k = execK cf sg m (.seq c19_18 c19_19) ⟨clk, e, tips, lk, bx⟩ k := rfl
def c19_16 : VC := .loop c19_17
@[simp] theorem e19_16 {e : Env} : execK cf sg m c19_16 ⟨clk, e, tips, lk, bx⟩ k = execK cf sg m (.loop c19_17) ⟨clk, e, tips, lk, bx⟩ k := rfl
def c19_15 : VC := .block 0 c19_16
@[simp] theorem e19_15 {e : Env} : execK cf sg m c19_15 ⟨clk, e, tips, lk, bx⟩ k = execK cf sg m (.block 0 c19_16) ⟨clk, e, tips, lk, bx⟩ k := rfl
def c19_13 : VC := .seq c19_14 c19_15
@[simp] theorem e19_13 {e : Env} : execK cf sg m c19_13 ⟨clk, e, tips, lk, bx⟩ k = execK cf sg m (.seq c19_14 c19_15) ⟨clk, e, tips, lk, bx⟩ k := rfl
@[simp] def r19_35 : List VOper := [⟨some 35, .load (.r 4) true 6 (.tmp 4), none⟩, ⟨some 36, .call 10 [.tmp 35] true [], none⟩, ⟨some 37, .mv (.tmp 0), none⟩, ⟨some 38, .bin .neq (.tmp 36) (.tmp 37), none⟩]
def c19_35 : VC := .region r19_35
@[simp] theorem e19_35 {v0 v2 v3 v4 v5 v6 v7 v10 v12 v13 v38 : V} : execK cf sg m c19_35 ⟨clk, [(0, v0), (2, v2), (3, v3), (4, v4), (5, v5), (6, v6), (7, v7), (10, v10), (12, v12), (13, v13), (38, v38)], tips, lk, bx⟩ k = runK cf sg tips r19_35 ⟨clk + 1, [(0, v0), (2, v2), (3, v3), (4, v4), (5, v5), (6, v6), (7, v7), (10, v10), (12, v12), (13, v13), (38, v38)], tips, lk, bx⟩ (endK 11 k) := execK_region
@[simp] def r19_38 : List VOper := [⟨some 39, .build [.int .u8 0, .int .u8 0, .int .u8 0, .int .u8 0, .int .u8 0, .int .u8 0] [], none⟩, ⟨none, .store (.r 2) 6 (.tmp 2) (.tmp 39), none⟩, ⟨some 3, .mv (.const (.int .i64 2)), none⟩]
def c19_38 : VC := .region r19_38
@[simp] theorem e19_38 {v0 v2 v3 v4 v5 v6 v7 v10 v12 v13 v38 : V} : execK cf sg m c19_38 ⟨clk, [(0, v0), (2, v2), (3, v3), (4, v4), (5, v5), (6, v6), (7, v7), (10, v10), (12, v12), (13, v13), (38, v38)], tips, lk, bx⟩ k = runK cf sg tips r19_38 ⟨clk + 1, [(0, v0), (2, v2), (3, v3), (4, v4), (5, v5), (6, v6), (7, v7), (10, v10), (12, v12), (13, v13), (38, v38)], tips, lk, bx⟩ (endK 11 k) := execK_region
def c19_39 : VC := .ret
@[simp] theorem e19_39 {e : Env} : execK cf sg m c19_39 ⟨clk, e, tips, lk, bx⟩ k = execK cf sg m (.ret) ⟨clk, e, tips, lk, bx⟩ k := rfl
def c19_37 : VC := .seq c19_38 c19_39
@[simp] theorem e19_37 {e : Env} : execK cf sg m c19_37 ⟨clk, e, tips, lk, bx⟩ k = execK cf sg m (.seq c19_38 c19_39) ⟨clk, e, tips, lk, bx⟩ k := rfl
def c19_40 : VC := .skip
@[simp] theorem e19_40 {e : Env} : execK cf sg m c19_40 ⟨clk, e, tips, lk, bx⟩ k = execK cf sg m (.skip) ⟨clk, e, tips, lk, bx⟩ k := rfl
def c19_36 : VC := .cond (.tmp 38) c19_37 c19_40
@[simp] theorem e19_36 {e : Env} : execK cf sg m c19_36 ⟨clk, e, tips, lk, bx⟩ k = execK cf sg m (.cond (.tmp 38) c19_37 c19_40) ⟨clk, e, tips, lk, bx⟩ k := rfl
def c19_34 : VC := .seq c19_35 c19_36
@[simp] theorem e19_34 {e : Env} : execK cf sg m c19_34 ⟨clk, e, tips, lk, bx⟩ k = execK cf sg m (.seq c19_35 c19_36) ⟨clk, e, tips, lk, bx⟩ k := rfl
@[simp] def r19_42 : List VOper := [⟨some 40, .load (.r 4) true 6 (.tmp 4), none⟩, ⟨none, .store (.r 2) 6 (.tmp 2) (.tmp 40), none⟩, ⟨some 3, .mv (.const (.int .i64 0)), none⟩]
def c19_42 : VC := .region r19_42
@[simp] theorem e19_42 {v0 v2 v3 v4 v5 v6 v7 v10 v12 v13 v38 : V} : execK cf sg m c19_42 ⟨clk, [(0, v0), (2, v2), (3, v3), (4, v4), (5, v5), (6, v6), (7, v7), (10, v10), (12, v12), (13, v13), (38, v38)], tips, lk, bx⟩ k = runK cf sg tips r19_42 ⟨clk + 1, [(0, v0), (2, v2), (3, v3), (4, v4), (5, v5), (6, v6), (7, v7), (10, v10), (12, v12), (13, v13), (38, v38)], tips, lk, bx⟩ (endK 11 k) := execK_region
def c19_43 : VC := .ret
@[simp] theorem e19_43 {e : Env} : execK cf sg m c19_43 ⟨clk, e, tips, lk, bx⟩ k = execK cf sg m (.ret) ⟨clk, e, tips, lk, bx⟩ k := rfl
def c19_41 : VC := .seq c19_42 c19_43
@[simp] theorem e19_41 {e : Env} : execK cf sg m c19_41 ⟨clk, e, tips, lk, bx⟩ k = execK cf sg m (.seq c19_42 c19_43) ⟨clk, e, tips, lk, bx⟩ k := rfl
def c19_33 : VC := .seq c19_34 c19_41
@[simp] theorem e19_33 {e : Env} : execK cf sg m c19_33 ⟨clk, e, tips, lk, bx⟩ k = execK cf sg m (.seq c19_34 c19_41) ⟨clk, e, tips, lk, bx⟩ k := rfl
def c19_12 : VC := .seq c19_13 c19_33
@[simp] theorem e19_12 {e : Env} : execK cf sg m c19_12 ⟨clk, e, tips, lk, bx⟩ k = execK cf sg m (.seq c19_13 c19_33) ⟨clk, e, tips, lk, bx⟩ k := rfl
def c19_4 : VC := .seq c19_5 c19_12
@[simp] theorem e19_4 {e : Env} : execK cf sg m c19_4 ⟨clk, e, tips, lk, bx⟩ k = execK cf sg m (.seq c19_5 c19_12) ⟨clk, e, tips, lk, bx⟩ k := rfl
def c19_2 : VC := .seq c19_3 c19_4
@[simp] theorem e19_2 {e : Env} : execK cf sg m c19_2 ⟨clk, e, tips, lk, bx⟩ k = execK cf sg m (.seq c19_3 c19_4) ⟨clk, e, tips, lk, bx⟩ k := rfl
def c19_0 : VC := .seq c19_1 c19_2
@[simp] theorem e19_0 {e : Env} : execK cf sg m c19_0 ⟨clk, e, tips, lk, bx⟩ k = execK cf sg m (.seq c19_1 c19_2) ⟨clk, e, tips, lk, bx⟩ k := rfl
def hh19 : Hints := { esc := [], rt := [(2, .r 2), (4, .r 4), (33, .r 4)], cut := [], quiet := [19, 25, 36], avoid := [] }
def vf19 : VF := ⟨[0, 2, 3, 4, 5, 6, 7, 10, 12, 13, 38], [], true, c19_0, [.cell true 6 2, .tmp 3]⟩
@[simp] theorem res19 : vf19.res = [.cell true 6 2, .tmp 3] := rfl
theorem tab19 : compileFn Try.prog hh19 vf19.kept vf19.cons Try.f19 = some vf19 := by kernel_rfl

/- exchangepoint/exchangepointref04.Parse -/
@[simp] def r20_1 : List VOper := [⟨some 2, .allocR [.int .u8 0, .int .u8 0, .int .u8 0, .int .u8 0, .int .u8 0, .int .u8 0], none⟩, ⟨some 3, .mv (.const (.int .i64 0)), none⟩]
def c20_1 : VC := .region r20_1
@[simp] theorem e20_1 {v0 v2 v3 v4 v5 v6 v7 v10 v12 v13 v43 : V} : execK cf sg m c20_1 ⟨clk, [(0, v0), (2, v2), (3, v3), (4, v4), (5, v5), (6, v6), (7, v7), (10, v10), (12, v12), (13, v13), (43, v43)], tips, lk, bx⟩ k = runK cf sg tips r20_1 ⟨clk + 1, [(0, v0), (2, v2), (3, v3), (4, v4), (5, v5), (6, v6), (7, v7), (10, v10), (12, v12), (13, v13), (43, v43)], tips, lk, bx⟩ (endK 11 k) := execK_region
@[simp] def r20_4 : List VOper := [⟨some 8, .mv (.tmp 0), none⟩, ⟨some 9, .len true (.tmp 8), none⟩, ⟨some 10, .bin .neq (.tmp 9) (.const (.int .i64 17)), none⟩]
def c20_4 : VC := .region r20_4
@[simp] theorem e20_4 {v0 v2 v3 v4 v5 v6 v7 v10 v12 v13 v43 : V} : execK cf sg m c20_4 ⟨clk, [(0, v0), (2, v2), (3, v3), (4, v4), (5, v5), (6, v6), (7, v7), (10, v10), (12, v12), (13, v13), (43, v43)], tips, lk, bx⟩ k = runK cf sg tips r20_4 ⟨clk + 1, [(0, v0), (2, v2), (3, v3), (4, v4), (5, v5), (6, v6), (7, v7), (10, v10), (12, v12), (13, v13), (43, v43)], tips, lk, bx⟩ (endK 11 k) := execK_region
@[simp] def r20_7 : List VOper := [⟨some 11, .build [.int .u8 0, .int .u8 0, .int .u8 0, .int .u8 0, .int .u8 0, .int .u8 0] [], none⟩, ⟨none, .store (.r 2) 6 (.tmp 2) (.tmp 11), none⟩, ⟨some 3, .mv (.const (.int .i64 2)), none⟩]
def c20_7 : VC := .region r20_7
@[simp] theorem e20_7 {v0 v2 v3 v4 v5 v6 v7 v10 v12 v13 v43 : V} : execK cf sg m c20_7 ⟨clk, [(0, v0), (2, v2), (3, v3), (4, v4), (5, v5), (6, v6), (7, v7), (10, v10), (12, v12), (13, v13), (43, v43)], tips, lk, bx⟩ k = runK cf sg tips r20_7 ⟨clk + 1, [(0, v0), (2, v2), (3, v3), (4, v4), (5, v5), (6, v6), (7, v7), (10, v10), (12, v12), (13, v13), (43, v43)], tips, lk, bx⟩ (endK 11 k) := execK_region
def c20_8 : VC := .ret
@[simp] theorem e20_8 {e : Env} : execK cf sg m c20_8 ⟨clk, e, tips, lk, bx⟩ k = execK cf sg m (.ret) ⟨clk, e, tips, lk, bx⟩ k := rfl
def c20_6 : VC := .seq c20_7 c20_8
@[simp] theorem e20_6 {e : Env} : execK cf sg m c20_6 ⟨clk, e, tips, lk, bx⟩ k = execK cf sg m (.seq c20_7 c20_8) ⟨clk, e, tips, lk, bx⟩ k := rfl
def c20_9 : VC := .skip
@[simp] theorem e20_9 {e : Env} : execK cf sg m c20_9 ⟨clk, e, tips, lk, bx⟩ k = execK cf sg m (.skip) ⟨clk, e, tips, lk, bx⟩ k := rfl
def c20_5 : VC := .cond (.tmp 10) c20_6 c20_9
@[simp] theorem e20_5 {e : Env} : execK cf sg m c20_5 ⟨clk, e, tips, lk, bx⟩ k = execK cf sg m (.cond (.tmp 10) c20_6 c20_9) ⟨clk, e, tips, lk, bx⟩ k := rfl
def c20_3 : VC := .seq c20_4 c20_5
@[simp] theorem e20_3 {e : Env} : execK cf sg m c20_3 ⟨clk, e, tips, lk, bx⟩ k = execK cf sg m (.seq c20_4 c20_5) ⟨clk, e, tips, lk, bx⟩ k := rfl
@[simp] def r20_11 : List VOper := [⟨some 4, .allocR [.int .u8 0, .int .u8 0, .int .u8 0, .int .u8 0, .int .u8 0, .int .u8 0], none⟩]
def c20_11 : VC := .region r20_11
@[simp] theorem e20_11 {v0 v2 v3 v4 v5 v6 v7 v10 v12 v13 v43 : V} : execK cf sg m c20_11 ⟨clk, [(0, v0), (2, v2), (3, v3), (4, v4), (5, v5), (6, v6), (7, v7), (10, v10), (12, v12), (13, v13), (43, v43)], tips, lk, bx⟩ k = runK cf sg tips r20_11 ⟨clk + 1, [(0, v0), (2, v2), (3, v3), (4, v4), (5, v5), (6, v6), (7, v7), (10, v10), (12, v12), (13, v13), (43, v43)], tips, lk, bx⟩ (endK 11 k) := execK_region
@[simp] def r20_14 : List VOper := [⟨some 12, .mv (.const (.int .i64 0)), none⟩]
def c20_14 : VC := .region r20_14
@[simp] theorem e20_14 {v0 v2 v3 v4 v5 v6 v7 v10 v12 v13 v43 : V} : execK cf sg m c20_14 ⟨clk, [(0, v0), (2, v2), (3, v3), (4, v4), (5, v5), (6, v6), (7, v7), (10, v10), (12, v12), (13, v13), (43, v43)], tips, lk, bx⟩ k = runK cf sg tips r20_14 ⟨clk + 1, [(0, v0), (2, v2), (3, v3), (4, v4), (5, v5), (6, v6), (7, v7), (10, v10), (12, v12), (13, v13), (43, v43)], tips, lk, bx⟩ (endK 11 k) := execK_region
@[simp] def r20_18 : List VOper := [⟨some 13, .bin .lss (.tmp 12) (.const (.int .i64 6)), none⟩]
def c20_18 : VC := .region r20_18
@[simp] theorem e20_18 {v0 v2 v3 v4 v5 v6 v7 v10 v12 v13 v43 : V} : execK cf sg m c20_18 ⟨clk, [(0, v0), (2, v2), (3, v3), (4, v4), (5, v5), (6, v6), (7, v7), (10, v10), (12, v12), (13, v13), (43, v43)], tips, lk, bx⟩ k = runK cf sg tips r20_18 ⟨clk + 1, [(0, v0), (2, v2), (3, v3), (4, v4), (5, v5), (6, v6), (7, v7), (10, v10), (12, v12), (13, v13), (43, v43)], tips, lk, bx⟩ (endK 11 k) := execK_region
def c20_21 : VC := .skip
@[simp] theorem e20_21 {e : Env} : execK cf sg m c20_21 ⟨clk, e, tips, lk, bx⟩ k = execK cf sg m (.skip) ⟨clk, e, tips, lk, bx⟩ k := rfl
def c20_22 : VC := .exit 0
@[simp] theorem e20_22 {e : Env} : execK cf sg m c20_22 ⟨clk, e, tips, lk, bx⟩ k = execK cf sg m (.exit 0) ⟨clk, e, tips, lk, bx⟩ k := rfl
def c20_20 : VC := .cond (.tmp 13) c20_21 c20_22
@[simp] theorem e20_20 {e : Env} : execK cf sg m c20_20 ⟨clk, e, tips, lk, bx⟩ k = execK cf sg m (.cond (.tmp 13) c20_21 c20_22) ⟨clk, e, tips, lk, bx⟩ k := rfl
@[simp] def r20_26 : List VOper := [⟨some 14, .mv (.tmp 12), none⟩, ⟨some 5, .mv (.tmp 14), none⟩]
def c20_26 : VC := .region r20_26
@[simp] theorem e20_26 {v0 v2 v3 v4 v5 v6 v7 v10 v12 v13 v43 : V} : execK cf sg m c20_26 ⟨clk, [(0, v0), (2, v2), (3, v3), (4, v4), (5, v5), (6, v6), (7, v7), (10, v10), (12, v12), (13, v13), (43, v43)], tips, lk, bx⟩ k = runK cf sg tips r20_26 ⟨clk + 1, [(0, v0), (2, v2), (3, v3), (4, v4), (5, v5), (6, v6), (7, v7), (10, v10), (12, v12), (13, v13), (43, v43)], tips, lk, bx⟩ (endK 11 k) := execK_region
@[simp] def r20_28 : List VOper := [⟨some 15, .mv (.tmp 0), none⟩, ⟨some 16, .mv (.tmp 5), none⟩, ⟨some 17, .bin .mul (.const (.int .i64 3)) (.tmp 16), none⟩, ⟨some 18, .ixS (.tmp 15) (.tmp 17), none⟩, ⟨some 19, .call 36 [.tmp 18] true [], none⟩, ⟨some 20, .mv (.tmp 0), none⟩, ⟨some 21, .mv (.tmp 5), none⟩, ⟨some 22, .bin .mul (.const (.int .i64 3)) (.tmp 21), none⟩, ⟨some 23, .bin .add (.tmp 22) (.const (.int .i64 1)), none⟩, ⟨some 24, .ixS (.tmp 20) (.tmp 23), none⟩, ⟨some 25, .call 36 [.tmp 24] true [], none⟩, ⟨some 6, .mv (.tmp 19), none⟩, ⟨some 7, .mv (.tmp 25), none⟩]
def c20_28 : VC := .region r20_28
@[simp] theorem e20_28 {v0 v2 v3 v4 v5 v6 v7 v10 v12 v13 v43 : V} : execK cf sg m c20_28 ⟨clk, [(0, v0), (2, v2), (3, v3), (4, v4), (5, v5), (6, v6), (7, v7), (10, v10), (12, v12), (13, v13), (43, v43)], tips, lk, bx⟩ k = runK cf sg tips r20_28 ⟨clk + 1, [(0, v0), (2, v2), (3, v3), (4, v4), (5, v5), (6, v6), (7, v7), (10, v10), (12, v12), (13, v13), (43, v43)], tips, lk, bx⟩ (endK 11 k) := execK_region
@[simp] def r20_31 : List VOper := [⟨some 26, .mv (.tmp 6), none⟩, ⟨some 27, .bin .lss (.tmp 26) (.const (.int .i64 0)), none⟩, ⟨some 28, .mv (.tmp 27), none⟩, ⟨some 29, .mv (.tmp 7), some (28, false)⟩, ⟨some 30, .bin .lss (.tmp 29) (.const (.int .i64 0)), some (28, false)⟩, ⟨some 31, .pick (.tmp 28) (.const (.bool true)) (.tmp 30), none⟩, ⟨some 32, .mv (.tmp 31), none⟩, ⟨some 33, .mv (.tmp 5), some (32, false)⟩, ⟨some 34, .bin .lss (.tmp 33) (.const (.int .i64 5)), some (32, false)⟩, ⟨some 35, .mv (.tmp 34), some (32, false)⟩, ⟨some 36, .mv (.tmp 0), some (35, true)⟩, ⟨some 37, .mv (.tmp 5), some (35, true)⟩, ⟨some 38, .bin .mul (.const (.int .i64 3)) (.tmp 37), some (35, true)⟩, ⟨some 39, .bin .add (.tmp 38) (.const (.int .i64 2)), some (35, true)⟩, ⟨some 40, .ixS (.tmp 36) (.tmp 39), some (35, true)⟩, ⟨some 41, .bin .neq (.tmp 40) (.const (.int .u8 58)), some (35, true)⟩, ⟨some 42, .pick (.tmp 35) (.tmp 41) (.const (.bool false)), some (32, false)⟩, ⟨some 43, .pick (.tmp 32) (.const (.bool true)) (.tmp 42), none⟩]
def c20_31 : VC := .region r20_31
@[simp] theorem e20_31 {v0 v2 v3 v4 v5 v6 v7 v10 v12 v13 v43 : V} : execK cf sg m c20_31 ⟨clk, [(0, v0), (2, v2), (3, v3), (4, v4), (5, v5), (6, v6), (7, v7), (10, v10), (12, v12), (13, v13), (43, v43)], tips, lk, bx⟩ k = runK cf sg tips r20_31 ⟨clk + 1, [(0, v0), (2, v2), (3, v3), (4, v4), (5, v5), (6, v6), (7, v7), (10, v10), (12, v12), (13, v13), (43, v43)], tips, lk, bx⟩ (endK 11 k) := execK_region
@[simp] def r20_34 : List VOper := [⟨some 44, .build [.int .u8 0, .int .u8 0, .int .u8 0, .int .u8 0, .int .u8 0, .int .u8 0] [], none⟩, ⟨none, .store (.r 2) 6 (.tmp 2) (.tmp 44), none⟩, ⟨some 3, .mv (.const (.int .i64 2)), none⟩]
def c20_34 : VC := .region r20_34
@[simp] theorem e20_34 {v0 v2 v3 v4 v5 v6 v7 v10 v12 v13 v43 : V} : execK cf sg m c20_34 ⟨clk, [(0, v0), (2, v2), (3, v3), (4, v4), (5, v5), (6, v6), (7, v7), (10, v10), (12, v12), (13, v13), (43, v43)], tips, lk, bx⟩ k = runK cf sg tips r20_34 ⟨clk + 1, [(0, v0), (2, v2), (3, v3), (4, v4), (5, v5), (6, v6), (7, v7), (10, v10), (12, v12), (13, v13), (43, v43)], tips, lk, bx⟩ (endK 11 k) := execK_region
def c20_35 : VC := .ret
@[simp] theorem e20_35 {e : Env} : execK cf sg m c20_35 ⟨clk, e, tips, lk, bx⟩ k = execK cf sg m (.ret) ⟨clk, e, tips, lk, bx⟩ k := rfl
def c20_33 : VC := .seq c20_34 c20_35
@[simp] theorem e20_33 {e : Env} : execK cf sg m c20_33 ⟨clk, e, tips, lk, bx⟩ k = execK cf sg m (.seq c20_34 c20_35) ⟨clk, e, tips, lk, bx⟩ k := rfl
def c20_36 : VC := .skip
@[simp] theorem e20_36 {e : Env} : execK cf sg m c20_36 ⟨clk, e, tips, lk, bx⟩ k = execK cf sg m (.skip) ⟨clk, e, tips, lk, bx⟩ k := rfl
def c20_32 : VC := .cond (.tmp 43) c20_33 c20_36
@[simp] theorem e20_32 {e : Env} : execK cf sg m c20_32 ⟨clk, e, tips, lk, bx⟩ k = execK cf sg m (.cond (.tmp 43) c20_33 c20_36) ⟨clk, e, tips, lk, bx⟩ k := rfl
def c20_30 : VC := .seq c20_31 c20_32
@[simp] theorem e20_30 {e : Env} : execK cf sg m c20_30 ⟨clk, e, tips, lk, bx⟩ k = execK cf sg m (.seq c20_31 c20_32) ⟨clk, e, tips, lk, bx⟩ k := rfl
@[simp] def r20_37 : List VOper := [⟨some 45, .mv (.tmp 5), none⟩, ⟨some 46, .mv (.tmp 6), none⟩, ⟨some 47, .bin .mul (.const (.int .i64 16)) (.tmp 46), none⟩, ⟨some 48, .mv (.tmp 7), none⟩, ⟨some 49, .bin .add (.tmp 47) (.tmp 48), none⟩, ⟨some 50, .convI .u8 (.tmp 49), none⟩, ⟨some 51, .idxA 6 1 (.tmp 4) (.tmp 45), none⟩, ⟨none, .store (.r 4) 1 (.tmp 51) (.tmp 50), none⟩]
def c20_37 : VC := .region r20_37
@[simp] theorem e20_37 {v0 v2 v3 v4 v5 v6 v7 v10 v12 v13 v43 : V} : execK cf sg m c20_37 ⟨clk, [(0, v0), (2, v2), (3, v3), (4, v4), (5, v5), (6, v6), (7, v7), (10, v10), (12, v12), (13, v13), (43, v43)], tips, lk, bx⟩ k = runK cf sg tips r20_37 ⟨clk + 1, [(0, v0), (2, v2), (3, v3), (4, v4), (5, v5), (6, v6), (7, v7), (10, v10), (12, v12), (13, v13), (43, v43)], tips, lk, bx⟩ (endK 11 k) := execK_region
def c20_29 : VC := .seq c20_30 c20_37
@[simp] theorem e20_29 {e : Env} : execK cf sg m c20_29 ⟨clk, e, tips, lk, bx⟩ k = execK cf sg m (.seq c20_30 c20_37) ⟨clk, e, tips, lk, bx⟩ k := rfl
def c20_27 : VC := .seq c20_28 c20_29
@[simp] theorem e20_27 {e : Env} : execK cf sg m c20_27 ⟨clk, e, tips, lk, bx⟩ k = execK cf sg m (.seq c20_28 c20_29) ⟨clk, e, tips, lk, bx⟩ k := rfl
def c20_25 : VC := .seq c20_26 c20_27
@[simp] theorem e20_25 {e : Env} : execK cf sg m c20_25 ⟨clk, e, tips, lk, bx⟩ k = execK cf sg m (.seq c20_26 c20_27) ⟨clk, e, tips, lk, bx⟩ k := rfl
def c20_24 : VC := .block 1 c20_25
@[simp] theorem e20_24 {e : Env} : execK cf sg m c20_24 ⟨clk, e, tips, lk, bx⟩ k = execK cf sg m (.block 1 c20_25) ⟨clk, e, tips, lk, bx⟩ k := rfl
@[simp] def r20_38 : List VOper := [⟨some 52, .bin .add (.tmp 12) (.const (.int .i64 1)), none⟩, ⟨some 12, .mv (.tmp 52), none⟩]
def c20_38 : VC := .region r20_38
@[simp] theorem e20_38 {v0 v2 v3 v4 v5 v6 v7 v10 v12 v13 v43 : V} : execK cf sg m c20_38 ⟨clk, [(0, v0), (2, v2), (3, v3), (4, v4), (5, v5), (6, v6), (7, v7), (10, v10), (12, v12), (13, v13), (43, v43)], tips, lk, bx⟩ k = runK cf sg tips r20_38 ⟨clk + 1, [(0, v0), (2, v2), (3, v3), (4, v4), (5, v5), (6, v6), (7, v7), (10, v10), (12, v12), (13, v13), (43, v43)], tips, lk, bx⟩ (endK 11 k) := execK_region
def c20_23 : VC := .seq c20_24 c20_38
@[simp] theorem e20_23 {e : Env} : execK cf sg m c20_23 ⟨clk, e, tips, lk, bx⟩ k = execK cf sg m (.seq c20_24 c20_38) ⟨clk, e, tips, lk, bx⟩ k := rfl
def c20_19 : VC := .seq c20_20 c20_23
@[simp] theorem e20_19 {e : Env} : execK cf sg m c20_19 ⟨clk, e, tips, lk, bx⟩ k = execK cf sg m (.seq c20_20 c20_23) ⟨clk, e, tips, lk, bx⟩ k := rfl
def c20_17 : VC := .seq c20_18 c20_19
@[simp] theorem e20_17 {e : Env} : execK cf sg m c20_17 ⟨clk, e, tips, lk, bx⟩ k = execK cf sg m (.seq c20_18 c20_19) ⟨clk, e, tips, lk, bx⟩ k := rfl
def c20_16 : VC := .loop c20_17
@[simp] theorem e20_16 {e : Env} : execK cf sg m c20_16 ⟨clk, e, tips, lk, bx⟩ k = execK cf sg m (.loop c20_17) ⟨clk, e, tips, lk, bx⟩ k := rfl
def c20_15 : VC := .block 0 c20_16
@[simp] theorem e20_15 {e : Env} : execK cf sg m c20_15 ⟨clk, e, tips, lk, bx⟩ k = execK cf sg m (.block 0 c20_16) ⟨clk, e, tips, lk, bx⟩ k := rfl
def c20_13 : VC := .seq c20_14 c20_15
@[simp] theorem e20_13 {e : Env} : execK cf sg m c20_13 ⟨clk, e, tips, lk, bx⟩ k = execK cf sg m (.seq c20_14 c20_15) ⟨clk, e, tips, lk, bx⟩ k := rfl
@[simp] def r20_40 : List VOper := [⟨some 53, .load (.r 4) true 6 (.tmp 4), none⟩, ⟨none, .store (.r 2) 6 (.tmp 2) (.tmp 53), none⟩, ⟨some 3, .mv (.const (.int .i64 0)), none⟩]
def c20_40 : VC := .region r20_40
@[simp] theorem e20_40 {v0 v2 v3 v4 v5 v6 v7 v10 v12 v13 v43 : V} : execK cf sg m c20_40 ⟨clk, [(0, v0), (2, v2), (3, v3), (4, v4), (5, v5), (6, v6), (7, v7), (10, v10), (12, v12), (13, v13), (43, v43)], tips, lk, bx⟩ k = runK cf sg tips r20_40 ⟨clk + 1, [(0, v0), (2, v2), (3, v3), (4, v4), (5, v5), (6, v6), (7, v7), (10, v10), (12, v12), (13, v13), (43, v43)], tips, lk, bx⟩ (endK 11 k) := execK_region
def c20_41 : VC := .ret
@[simp] theorem e20_41 {e : Env} : execK cf sg m c20_41 ⟨clk, e, tips, lk, bx⟩ k = execK cf sg m (.ret) ⟨clk, e, tips, lk, bx⟩ k := rfl
def c20_39 : VC := .seq c20_40 c20_41
@[simp] theorem e20_39 {e : Env} : execK cf sg m c20_39 ⟨clk, e, tips, lk, bx⟩ k = execK cf sg m (.seq c20_40 c20_41) ⟨clk, e, tips, lk, bx⟩ k := rfl
def c20_12 : VC := .seq c20_13 c20_39
@[simp] theorem e20_12 {e : Env} : execK cf sg m c20_12 ⟨clk, e, tips, lk, bx⟩ k = execK cf sg m (.seq c20_13 c20_39) ⟨clk, e, tips, lk, bx⟩ k := rfl
def c20_10 : VC := .seq c20_11 c20_12
@[simp] theorem e20_10 {e : Env} : execK cf sg m c20_10 ⟨clk, e, tips, lk, bx⟩ k = execK cf sg m (.seq c20_11 c20_12) ⟨clk, e, tips, lk, bx⟩ k := rfl
def c20_2 : VC := .seq c20_3 c20_10
@[simp] theorem e20_2 {e : Env} : execK cf sg m c20_2 ⟨clk, e, tips, lk, bx⟩ k = execK cf sg m (.seq c20_3 c20_10) ⟨clk, e, tips, lk, bx⟩ k := rfl
def c20_0 : VC := .seq c20_1 c20_2
@[simp] theorem e20_0 {e : Env} : execK cf sg m c20_0 ⟨clk, e, tips, lk, bx⟩ k = execK cf sg m (.seq c20_1 c20_2) ⟨clk, e, tips, lk, bx⟩ k := rfl
def hh20 : Hints := { esc := [], rt := [(2, .r 2), (4, .r 4), (51, .r 4)], cut := [], quiet := [19, 25], avoid := [] }
def vf20 : VF := ⟨[0, 2, 3, 4, 5, 6, 7, 10, 12, 13, 43], [], true, c20_0, [.cell true 6 2, .tmp 3]⟩
@[simp] theorem res20 : vf20.res = [.cell true 6 2, .tmp 3] := rfl
theorem tab20 : compileFn Try.prog hh20 vf20.kept vf20.cons Try.f20 = some vf20 := by kernel_rfl

/- exchangepoint/ether.Solicited -/
@[simp] def r21_1 : List VOper := [⟨some 1, .boxR 3 (.tmp 0), none⟩, ⟨some 2, .allocR [.int .u8 0, .int .u8 0, .int .u8 0, .int .u8 0, .int .u8 0, .int .u8 0], none⟩]
def c21_1 : VC := .region r21_1
@[simp] theorem e21_1 {v0 v1 v2 v5 : V} : execK cf sg m c21_1 ⟨clk, [(0, v0), (1, v1), (2, v2), (5, v5)], tips, lk, bx⟩ k = runK cf sg tips r21_1 ⟨clk + 1, [(0, v0), (1, v1), (2, v2), (5, v5)], tips, lk, bx⟩ (endK 4 k) := execK_region
@[simp] def r21_4 : List VOper := [⟨some 3, .fieldA 0 (.tmp 1), none⟩, ⟨some 4, .load (.r 1) false 1 (.tmp 3), none⟩, ⟨some 5, .unop .not (.tmp 4), none⟩]
def c21_4 : VC := .region r21_4
@[simp] theorem e21_4 {v0 v1 v2 v5 : V} : execK cf sg m c21_4 ⟨clk, [(0, v0), (1, v1), (2, v2), (5, v5)], tips, lk, bx⟩ k = runK cf sg tips r21_4 ⟨clk + 1, [(0, v0), (1, v1), (2, v2), (5, v5)], tips, lk, bx⟩ (endK 4 k) := execK_region
@[simp] def r21_7 : List VOper := [⟨some 6, .build [.int .u8 0, .int .u8 0, .int .u8 0, .int .u8 0, .int .u8 0, .int .u8 0] [], none⟩, ⟨none, .store (.r 2) 6 (.tmp 2) (.tmp 6), none⟩]
def c21_7 : VC := .region r21_7
@[simp] theorem e21_7 {v0 v1 v2 v5 : V} : execK cf sg m c21_7 ⟨clk, [(0, v0), (1, v1), (2, v2), (5, v5)], tips, lk, bx⟩ k = runK cf sg tips r21_7 ⟨clk + 1, [(0, v0), (1, v1), (2, v2), (5, v5)], tips, lk, bx⟩ (endK 4 k) := execK_region
def c21_8 : VC := .ret
@[simp] theorem e21_8 {e : Env} : execK cf sg m c21_8 ⟨clk, e, tips, lk, bx⟩ k = execK cf sg m (.ret) ⟨clk, e, tips, lk, bx⟩ k := rfl
def c21_6 : VC := .seq c21_7 c21_8
@[simp] theorem e21_6 {e : Env} : execK cf sg m c21_6 ⟨clk, e, tips, lk, bx⟩ k = execK cf sg m (.seq c21_7 c21_8) ⟨clk, e, tips, lk, bx⟩ k := rfl
def c21_9 : VC := .skip
@[simp] theorem e21_9 {e : Env} : execK cf sg m c21_9 ⟨clk, e, tips, lk, bx⟩ k = execK cf sg m (.skip) ⟨clk, e, tips, lk, bx⟩ k := rfl
def c21_5 : VC := .cond (.tmp 5) c21_6 c21_9
@[simp] theorem e21_5 {e : Env} : execK cf sg m c21_5 ⟨clk, e, tips, lk, bx⟩ k = execK cf sg m (.cond (.tmp 5) c21_6 c21_9) ⟨clk, e, tips, lk, bx⟩ k := rfl
def c21_3 : VC := .seq c21_4 c21_5
@[simp] theorem e21_3 {e : Env} : execK cf sg m c21_3 ⟨clk, e, tips, lk, bx⟩ k = execK cf sg m (.seq c21_4 c21_5) ⟨clk, e, tips, lk, bx⟩ k := rfl
@[simp] def r21_11 : List VOper := [⟨some 7, .fieldA 2 (.tmp 1), none⟩, ⟨some 8, .load (.r 1) false 1 (.tmp 7), none⟩, ⟨some 9, .bin .shr (.tmp 8) (.const (.int .u64 16)), none⟩, ⟨some 10, .convI .u8 (.tmp 9), none⟩, ⟨some 11, .fieldA 2 (.tmp 1), none⟩, ⟨some 12, .load (.r 1) false 1 (.tmp 11), none⟩, ⟨some 13, .bin .shr (.tmp 12) (.const (.int .u64 8)), none⟩, ⟨some 14, .convI .u8 (.tmp 13), none⟩, ⟨some 15, .fieldA 2 (.tmp 1), none⟩, ⟨some 16, .load (.r 1) false 1 (.tmp 15), none⟩, ⟨some 17, .convI .u8 (.tmp 16), none⟩, ⟨some 18, .build [.int .u8 0, .int .u8 0, .int .u8 0, .int .u8 0, .int .u8 0, .int .u8 0] [(0, 1, .const (.int .u8 51)), (1, 1, .const (.int .u8 51)), (2, 1, .const (.int .u8 255)), (3, 1, .tmp 10), (4, 1, .tmp 14), (5, 1, .tmp 17)], none⟩, ⟨none, .store (.r 2) 6 (.tmp 2) (.tmp 18), none⟩]
def c21_11 : VC := .region r21_11
@[simp] theorem e21_11 {v0 v1 v2 v5 : V} : execK cf sg m c21_11 ⟨clk, [(0, v0), (1, v1), (2, v2), (5, v5)], tips, lk, bx⟩ k = runK cf sg tips r21_11 ⟨clk + 1, [(0, v0), (1, v1), (2, v2), (5, v5)], tips, lk, bx⟩ (endK 4 k) := execK_region
def c21_12 : VC := .ret
@[simp] theorem e21_12 {e : Env} : execK cf sg m c21_12 ⟨clk, e, tips, lk, bx⟩ k = execK cf sg m (.ret) ⟨clk, e, tips, lk, bx⟩ k := rfl
def c21_10 : VC := .seq c21_11 c21_12
@[simp] theorem e21_10 {e : Env} : execK cf sg m c21_10 ⟨clk, e, tips, lk, bx⟩ k = execK cf sg m (.seq c21_11 c21_12) ⟨clk, e, tips, lk, bx⟩ k := rfl
def c21_2 : VC := .seq c21_3 c21_10
@[simp] theorem e21_2 {e : Env} : execK cf sg m c21_2 ⟨clk, e, tips, lk, bx⟩ k = execK cf sg m (.seq c21_3 c21_10) ⟨clk, e, tips, lk, bx⟩ k := rfl
def c21_0 : VC := .seq c21_1 c21_2
@[simp] theorem e21_0 {e : Env} : execK cf sg m c21_0 ⟨clk, e, tips, lk, bx⟩ k = execK cf sg m (.seq c21_1 c21_2) ⟨clk, e, tips, lk, bx⟩ k := rfl
def hh21 : Hints := { esc := [], rt := [(2, .r 2), (3, .r 1), (7, .r 1), (11, .r 1), (15, .r 1)], cut := [], quiet := [], avoid := [] }
def vf21 : VF := ⟨[0, 1, 2, 5], [], true, c21_0, [.cell true 6 2]⟩
@[simp] theorem res21 : vf21.res = [.cell true 6 2] := rfl
theorem tab21 : compileFn Try.prog hh21 vf21.kept vf21.cons Try.f21 = some vf21 := by kernel_rfl

/- exchangepoint/exchangepointref04.Solicited -/
@[simp] def r22_1 : List VOper := [⟨some 1, .boxR 3 (.tmp 0), none⟩, ⟨some 2, .allocR [.int .u8 0, .int .u8 0, .int .u8 0, .int .u8 0, .int .u8 0, .int .u8 0], none⟩]
def c22_1 : VC := .region r22_1
@[simp] theorem e22_1 {v0 v1 v2 v5 : V} : execK cf sg m c22_1 ⟨clk, [(0, v0), (1, v1), (2, v2), (5, v5)], tips, lk, bx⟩ k = runK cf sg tips r22_1 ⟨clk + 1, [(0, v0), (1, v1), (2, v2), (5, v5)], tips, lk, bx⟩ (endK 4 k) := execK_region
@[simp] def r22_4 : List VOper := [⟨some 3, .fieldA 0 (.tmp 1), none⟩, ⟨some 4, .load (.r 1) false 1 (.tmp 3), none⟩, ⟨some 5, .unop .not (.tmp 4), none⟩]
def c22_4 : VC := .region r22_4
@[simp] theorem e22_4 {v0 v1 v2 v5 : V} : execK cf sg m c22_4 ⟨clk, [(0, v0), (1, v1), (2, v2), (5, v5)], tips, lk, bx⟩ k = runK cf sg tips r22_4 ⟨clk + 1, [(0, v0), (1, v1), (2, v2), (5, v5)], tips, lk, bx⟩ (endK 4 k) := execK_region
@[simp] def r22_7 : List VOper := [⟨some 6, .build [.int .u8 0, .int .u8 0, .int .u8 0, .int .u8 0, .int .u8 0, .int .u8 0] [], none⟩, ⟨none, .store (.r 2) 6 (.tmp 2) (.tmp 6), none⟩]
def c22_7 : VC := .region r22_7
@[simp] theorem e22_7 {v0 v1 v2 v5 : V} : execK cf sg m c22_7 ⟨clk, [(0, v0), (1, v1), (2, v2), (5, v5)], tips, lk, bx⟩ k = runK cf sg tips r22_7 ⟨clk + 1, [(0, v0), (1, v1), (2, v2), (5, v5)], tips, lk, bx⟩ (endK 4 k) := execK_region
def c22_8 : VC := .ret
@[simp] theorem e22_8 {e : Env} : execK cf sg m c22_8 ⟨clk, e, tips, lk, bx⟩ k = execK cf sg m (.ret) ⟨clk, e, tips, lk, bx⟩ k := rfl
def c22_6 : VC := .seq c22_7 c22_8
@[simp] theorem e22_6 {e : Env} : execK cf sg m c22_6 ⟨clk, e, tips, lk, bx⟩ k = execK cf sg m (.seq c22_7 c22_8) ⟨clk, e, tips, lk, bx⟩ k := rfl
def c22_9 : VC := .skip
@[simp] theorem e22_9 {e : Env} : execK cf sg m c22_9 ⟨clk, e, tips, lk, bx⟩ k = execK cf sg m (.skip) ⟨clk, e, tips, lk, bx⟩ k := rfl
def c22_5 : VC := .cond (.tmp 5) c22_6 c22_9
@[simp] theorem e22_5 {e : Env} : execK cf sg m c22_5 ⟨clk, e, tips, lk, bx⟩ k = execK cf sg m (.cond (.tmp 5) c22_6 c22_9) ⟨clk, e, tips, lk, bx⟩ k := rfl
def c22_3 : VC := .seq c22_4 c22_5
@[simp] theorem e22_3 {e : Env} : execK cf sg m c22_3 ⟨clk, e, tips, lk, bx⟩ k = execK cf sg m (.seq c22_4 c22_5) ⟨clk, e, tips, lk, bx⟩ k := rfl
@[simp] def r22_11 : List VOper := [⟨some 7, .fieldA 2 (.tmp 1), none⟩, ⟨some 8, .load (.r 1) false 1 (.tmp 7), none⟩, ⟨some 9, .bin .shr (.tmp 8) (.const (.int .u64 16)), none⟩, ⟨some 10, .convI .u8 (.tmp 9), none⟩, ⟨some 11, .fieldA 2 (.tmp 1), none⟩, ⟨some 12, .load (.r 1) false 1 (.tmp 11), none⟩, ⟨some 13, .bin .shr (.tmp 12) (.const (.int .u64 8)), none⟩, ⟨some 14, .convI .u8 (.tmp 13), none⟩, ⟨some 15, .fieldA 2 (.tmp 1), none⟩, ⟨some 16, .load (.r 1) false 1 (.tmp 15), none⟩, ⟨some 17, .convI .u8 (.tmp 16), none⟩, ⟨some 18, .build [.int .u8 0, .int .u8 0, .int .u8 0, .int .u8 0, .int .u8 0, .int .u8 0] [(0, 1, .const (.int .u8 51)), (1, 1, .const (.int .u8 51)), (2, 1, .const (.int .u8 255)), (3, 1, .tmp 10), (4, 1, .tmp 14), (5, 1, .tmp 17)], none⟩, ⟨none, .store (.r 2) 6 (.tmp 2) (.tmp 18), none⟩]
def c22_11 : VC := .region r22_11
@[simp] theorem e22_11 {v0 v1 v2 v5 : V} : execK cf sg m c22_11 ⟨clk, [(0, v0), (1, v1), (2, v2), (5, v5)], tips, lk, bx⟩ k = runK cf sg tips r22_11 ⟨clk + 1, [(0, v0), (1, v1), (2, v2), (5, v5)], tips, lk, bx⟩ (endK 4 k) := execK_region
def c22_12 : VC := .ret
@[simp] theorem e22_12 {e : Env} : execK cf sg m c22_12 ⟨clk, e, tips, lk, bx⟩ k = execK cf sg m (.ret) ⟨clk, e, tips, lk, bx⟩ k := rfl
def c22_10 : VC := .seq c22_11 c22_12
@[simp] theorem e22_10 {e : Env} : execK cf sg m c22_10 ⟨clk, e, tips, lk, bx⟩ k = execK cf sg m (.seq c22_11 c22_12) ⟨clk, e, tips, lk, bx⟩ k := rfl
def c22_2 : VC := .seq c22_3 c22_10
@[simp] theorem e22_2 {e : Env} : execK cf sg m c22_2 ⟨clk, e, tips, lk, bx⟩ k = execK cf sg m (.seq c22_3 c22_10) ⟨clk, e, tips, lk, bx⟩ k := rfl
def c22_0 : VC := .seq c22_1 c22_2
@[simp] theorem e22_0 {e : Env} : execK cf sg m c22_0 ⟨clk, e, tips, lk, bx⟩ k = execK cf sg m (.seq c22_1 c22_2) ⟨clk, e, tips, lk, bx⟩ k := rfl
def hh22 : Hints := { esc := [], rt := [(2, .r 2), (3, .r 1), (7, .r 1), (11, .r 1), (15, .r 1)], cut := [], quiet := [], avoid := [] }
def vf22 : VF := ⟨[0, 1, 2, 5], [], true, c22_0, [.cell true 6 2]⟩
@[simp] theorem res22 : vf22.res = [.cell true 6 2] := rfl
theorem tab22 : compileFn Try.prog hh22 vf22.kept vf22.cons Try.f22 = some vf22 := by kernel_rfl

/- exchangepoint/exchangepointmake.MAC -/
@[simp] def r23_1 : List VOper := [⟨some 2, .allocR [.int .u8 0, .int .u8 0, .int .u8 0, .int .u8 0, .int .u8 0, .int .u8 0], none⟩]
def c23_1 : VC := .region r23_1
@[simp] theorem e23_1 {v0 v2 : V} : execK cf sg m c23_1 ⟨clk, [(0, v0), (2, v2)], tips, lk, bx⟩ k = runK cf sg tips r23_1 ⟨clk + 1, [(0, v0), (2, v2)], tips, lk, bx⟩ (endK 2 k) := execK_region
@[simp] def r23_3 : List VOper := [⟨some 3, .mv (.tmp 0), none⟩, ⟨some 4, .bin .shr (.tmp 3) (.const (.int .u64 24)), none⟩, ⟨some 5, .convI .u8 (.tmp 4), none⟩, ⟨some 6, .mv (.tmp 0), none⟩, ⟨some 7, .bin .shr (.tmp 6) (.const (.int .u64 16)), none⟩, ⟨some 8, .convI .u8 (.tmp 7), none⟩, ⟨some 9, .mv (.tmp 0), none⟩, ⟨some 10, .bin .shr (.tmp 9) (.const (.int .u64 8)), none⟩, ⟨some 11, .convI .u8 (.tmp 10), none⟩, ⟨some 12, .mv (.tmp 0), none⟩, ⟨some 13, .convI .u8 (.tmp 12), none⟩, ⟨some 14, .build [.int .u8 0, .int .u8 0, .int .u8 0, .int .u8 0, .int .u8 0, .int .u8 0] [(0, 1, .const (.int .u8 2)), (1, 1, .const (.int .u8 0)), (2, 1, .tmp 5), (3, 1, .tmp 8), (4, 1, .tmp 11), (5, 1, .tmp 13)], none⟩, ⟨none, .store (.r 2) 6 (.tmp 2) (.tmp 14), none⟩]
def c23_3 : VC := .region r23_3
@[simp] theorem e23_3 {v0 v2 : V} : execK cf sg m c23_3 ⟨clk, [(0, v0), (2, v2)], tips, lk, bx⟩ k = runK cf sg tips r23_3 ⟨clk + 1, [(0, v0), (2, v2)], tips, lk, bx⟩ (endK 2 k) := execK_region
def c23_4 : VC := .ret
@[simp] theorem e23_4 {e : Env} : execK cf sg m c23_4 ⟨clk, e, tips, lk, bx⟩ k = execK cf sg m (.ret) ⟨clk, e, tips, lk, bx⟩ k := rfl
def c23_2 : VC := .seq c23_3 c23_4
@[simp] theorem e23_2 {e : Env} : execK cf sg m c23_2 ⟨clk, e, tips, lk, bx⟩ k = execK cf sg m (.seq c23_3 c23_4) ⟨clk, e, tips, lk, bx⟩ k := rfl
def c23_0 : VC := .seq c23_1 c23_2
@[simp] theorem e23_0 {e : Env} : execK cf sg m c23_0 ⟨clk, e, tips, lk, bx⟩ k = execK cf sg m (.seq c23_1 c23_2) ⟨clk, e, tips, lk, bx⟩ k := rfl
def hh23 : Hints := { esc := [], rt := [(2, .r 2)], cut := [], quiet := [], avoid := [] }
def vf23 : VF := ⟨[0, 2], [], true, c23_0, [.cell true 6 2]⟩
@[simp] theorem res23 : vf23.res = [.cell true 6 2] := rfl
theorem tab23 : compileFn Try.prog hh23 vf23.kept vf23.cons Try.f23 = some vf23 := by kernel_rfl

/- exchangepoint/exchangepointmake.Short -/
@[simp] def r24_1 : List VOper := [⟨some 2, .mv (.const (.bool false)), none⟩]
def c24_1 : VC := .region r24_1
@[simp] theorem e24_1 {v0 v2 : V} : execK cf sg m c24_1 ⟨clk, [(0, v0), (2, v2)], tips, lk, bx⟩ k = runK cf sg tips r24_1 ⟨clk + 1, [(0, v0), (2, v2)], tips, lk, bx⟩ (endK 2 k) := execK_region
@[simp] def r24_3 : List VOper := [⟨some 3, .mv (.tmp 0), none⟩, ⟨some 4, .len false (.tmp 3), none⟩, ⟨some 5, .bin .leq (.tmp 4) (.const (.int .i64 600)), none⟩, ⟨some 2, .mv (.tmp 5), none⟩]
def c24_3 : VC := .region r24_3
@[simp] theorem e24_3 {v0 v2 : V} : execK cf sg m c24_3 ⟨clk, [(0, v0), (2, v2)], tips, lk, bx⟩ k = runK cf sg tips r24_3 ⟨clk + 1, [(0, v0), (2, v2)], tips, lk, bx⟩ (endK 2 k) := execK_region
def c24_4 : VC := .ret
@[simp] theorem e24_4 {e : Env} : execK cf sg m c24_4 ⟨clk, e, tips, lk, bx⟩ k = execK cf sg m (.ret) ⟨clk, e, tips, lk, bx⟩ k := rfl
def c24_2 : VC := .seq c24_3 c24_4
@[simp] theorem e24_2 {e : Env} : execK cf sg m c24_2 ⟨clk, e, tips, lk, bx⟩ k = execK cf sg m (.seq c24_3 c24_4) ⟨clk, e, tips, lk, bx⟩ k := rfl
def c24_0 : VC := .seq c24_1 c24_2
@[simp] theorem e24_0 {e : Env} : execK cf sg m c24_0 ⟨clk, e, tips, lk, bx⟩ k = execK cf sg m (.seq c24_1 c24_2) ⟨clk, e, tips, lk, bx⟩ k := rfl
def hh24 : Hints := { esc := [], rt := [], cut := [], quiet := [], avoid := [] }
def vf24 : VF := ⟨[0, 2], [], true, c24_0, [.tmp 2]⟩
@[simp] theorem res24 : vf24.res = [.tmp 2] := rfl
theorem tab24 : compileFn Try.prog hh24 vf24.kept vf24.cons Try.f24 = some vf24 := by kernel_rfl

/- exchangepoint/exchangepointlaw04.frame -/
@[simp] def r25_1 : List VOper := [⟨some 2, .allocR [.int .u8 0, .int .u8 0, .int .u8 0, .int .u8 0, .int .u8 0, .int .u8 0, .int .u8 0, .int .u8 0, .int .u8 0, .int .u8 0, .int .u8 0, .int .u8 0, .int .i64 0, .int .i64 0, .nils], none⟩]
def c25_1 : VC := .region r25_1
@[simp] theorem e25_1 {v0 v2 v3 v20 v29 : V} : execK cf sg m c25_1 ⟨clk, [(0, v0), (2, v2), (3, v3), (20, v20), (29, v29)], tips, lk, bx⟩ k = runK cf sg tips r25_1 ⟨clk + 1, [(0, v0), (2, v2), (3, v3), (20, v20), (29, v29)], tips, lk, bx⟩ (endK 5 k) := execK_region
@[simp] def r25_3 : List VOper := [⟨some 4, .mv (.tmp 0), none⟩, ⟨some 5, .call 37 [.tmp 4, .const (.int .i64 300)] false [3], none⟩, ⟨some 6, .call 23 [.tmp 5] true [3], none⟩, ⟨some 7, .mv (.tmp 0), none⟩, ⟨some 8, .call 37 [.tmp 7, .const (.int .i64 300)] false [3], none⟩, ⟨some 9, .call 23 [.tmp 8] true [3], none⟩, ⟨some 10, .bslice false 1 6 [.int .i64 0] [(0, 1, .const (.int .i64 2048)), (1, 1, .const (.int .i64 1536)), (2, 1, .const (.int .i64 65535)), (3, 1, .const (.int .i64 2054)), (4, 1, .const (.int .i64 1535)), (5, 1, .const (.int .i64 33024))], none⟩, ⟨some 11, .mv (.tmp 0), none⟩, ⟨some 12, .call 37 [.tmp 11, .const (.int .i64 6)] false [3], none⟩, ⟨some 13, .idxS 1 (.tmp 10) (.tmp 12), none⟩, ⟨some 14, .load (.e [3]) false 1 (.tmp 13), none⟩, ⟨some 15, .mv (.tmp 0), none⟩, ⟨some 16, .call 38 [.tmp 15, .const (.int .i64 30)] false [3], none⟩, ⟨some 17, .build [.int .u8 0, .int .u8 0, .int .u8 0, .int .u8 0, .int .u8 0, .int .u8 0, .int .u8 0, .int .u8 0, .int .u8 0, .int .u8 0, .int .u8 0, .int .u8 0, .int .i64 0, .int .i64 0, .nils] [(0, 6, .tmp 6), (6, 6, .tmp 9), (13, 1, .tmp 14), (14, 1, .tmp 16)], none⟩, ⟨some 3, .allocR [.int .u8 0, .int .u8 0, .int .u8 0, .int .u8 0, .int .u8 0, .int .u8 0, .int .u8 0, .int .u8 0, .int .u8 0, .int .u8 0, .int .u8 0, .int .u8 0, .int .i64 0, .int .i64 0, .nils], none⟩, ⟨none, .store (.r 3) 15 (.tmp 3) (.tmp 17), none⟩]
def c25_3 : VC := .region r25_3
@[simp] theorem e25_3 {v0 v2 v3 v20 v29 : V} : execK cf sg m c25_3 ⟨clk, [(0, v0), (2, v2), (3, v3), (20, v20), (29, v29)], tips, lk, bx⟩ k = runK cf sg (bump tips [(nmOf 10 0)]) r25_3 ⟨clk + 1, [(0, v0), (2, v2), (3, v3), (20, v20), (29, v29)], bump tips [(nmOf 10 0)], updL lk false [(nmOf 10 0)], bx⟩ (endK 5 k) := execK_region
@[simp] def r25_6 : List VOper := [⟨some 18, .mv (.tmp 0), none⟩, ⟨some 19, .call 37 [.tmp 18, .const (.int .i64 2)] false [], none⟩, ⟨some 20, .bin .eql (.tmp 19) (.const (.int .i64 1)), none⟩]
def c25_6 : VC := .region r25_6
@[simp] theorem e25_6 {v0 v2 v3 v20 v29 : V} : execK cf sg m c25_6 ⟨clk, [(0, v0), (2, v2), (3, v3), (20, v20), (29, v29)], tips, lk, bx⟩ k = runK cf sg tips r25_6 ⟨clk + 1, [(0, v0), (2, v2), (3, v3), (20, v20), (29, v29)], tips, lk, bx⟩ (endK 5 k) := execK_region
@[simp] def r25_8 : List VOper := [⟨some 21, .bslice false 1 4 [.int .i64 0] [(0, 1, .const (.int .i64 1)), (1, 1, .const (.int .i64 4094)), (2, 1, .const (.int .i64 4095)), (3, 1, .const (.int .i64 100))], none⟩, ⟨some 22, .mv (.tmp 0), none⟩, ⟨some 23, .call 37 [.tmp 22, .const (.int .i64 4)] false [], none⟩, ⟨some 24, .idxS 1 (.tmp 21) (.tmp 23), none⟩, ⟨some 25, .load (.e []) false 1 (.tmp 24), none⟩, ⟨some 26, .fieldA 12 (.tmp 3), none⟩, ⟨none, .store (.r 3) 1 (.tmp 26) (.tmp 25), none⟩]
def c25_8 : VC := .region r25_8
@[simp] theorem e25_8 {v0 v2 v3 v20 v29 : V} : execK cf sg m c25_8 ⟨clk, [(0, v0), (2, v2), (3, v3), (20, v20), (29, v29)], tips, lk, bx⟩ k = runK cf sg (bump tips [(nmOf 21 0)]) r25_8 ⟨clk + 1, [(0, v0), (2, v2), (3, v3), (20, v20), (29, v29)], bump tips [(nmOf 21 0)], updL lk false [(nmOf 21 0)], bx⟩ (endK 5 k) := execK_region
def c25_9 : VC := .skip
@[simp] theorem e25_9 {e : Env} : execK cf sg m c25_9 ⟨clk, e, tips, lk, bx⟩ k = execK cf sg m (.skip) ⟨clk, e, tips, lk, bx⟩ k := rfl
def c25_7 : VC := .cond (.tmp 20) c25_8 c25_9
@[simp] theorem e25_7 {e : Env} : execK cf sg m c25_7 ⟨clk, e, tips, lk, bx⟩ k = execK cf sg m (.cond (.tmp 20) c25_8 c25_9) ⟨clk, e, tips, lk, bx⟩ k := rfl
def c25_5 : VC := .seq c25_6 c25_7
@[simp] theorem e25_5 {e : Env} : execK cf sg m c25_5 ⟨clk, e, tips, lk, bx⟩ k = execK cf sg m (.seq c25_6 c25_7) ⟨clk, e, tips, lk, bx⟩ k := rfl
@[simp] def r25_12 : List VOper := [⟨some 27, .mv (.tmp 0), none⟩, ⟨some 28, .call 37 [.tmp 27, .const (.int .i64 12)] false [], none⟩, ⟨some 29, .bin .eql (.tmp 28) (.const (.int .i64 11)), none⟩]
def c25_12 : VC := .region r25_12
@[simp] theorem e25_12 {v0 v2 v3 v20 v29 : V} : execK cf sg m c25_12 ⟨clk, [(0, v0), (2, v2), (3, v3), (20, v20), (29, v29)], tips, lk, bx⟩ k = runK cf sg tips r25_12 ⟨clk + 1, [(0, v0), (2, v2), (3, v3), (20, v20), (29, v29)], tips, lk, bx⟩ (endK 5 k) := execK_region
@[simp] def r25_14 : List VOper := [⟨some 30, .mv (.tmp 0), none⟩, ⟨some 31, .call 37 [.tmp 30, .const (.int .i64 2)] false [], none⟩, ⟨some 32, .bin .add (.const (.int .i64 1500)) (.tmp 31), none⟩, ⟨some 33, .mkslice 1 1 [.int .u8 0] (.tmp 32) (.tmp 32), none⟩, ⟨some 34, .fieldA 14 (.tmp 3), none⟩, ⟨none, .store (.r 3) 1 (.tmp 34) (.tmp 33), none⟩]
def c25_14 : VC := .region r25_14
@[simp] theorem e25_14 {v0 v2 v3 v20 v29 : V} : execK cf sg m c25_14 ⟨clk, [(0, v0), (2, v2), (3, v3), (20, v20), (29, v29)], tips, lk, bx⟩ k = runK cf sg (bump tips [(nmOf 33 0)]) r25_14 ⟨clk + 1, [(0, v0), (2, v2), (3, v3), (20, v20), (29, v29)], bump tips [(nmOf 33 0)], updL lk false [(nmOf 33 0)], bx⟩ (endK 5 k) := execK_region
def c25_15 : VC := .skip
@[simp] theorem e25_15 {e : Env} : execK cf sg m c25_15 ⟨clk, e, tips, lk, bx⟩ k = execK cf sg m (.skip) ⟨clk, e, tips, lk, bx⟩ k := rfl
def c25_13 : VC := .cond (.tmp 29) c25_14 c25_15
@[simp] theorem e25_13 {e : Env} : execK cf sg m c25_13 ⟨clk, e, tips, lk, bx⟩ k = execK cf sg m (.cond (.tmp 29) c25_14 c25_15) ⟨clk, e, tips, lk, bx⟩ k := rfl
def c25_11 : VC := .seq c25_12 c25_13
@[simp] theorem e25_11 {e : Env} : execK cf sg m c25_11 ⟨clk, e, tips, lk, bx⟩ k = execK cf sg m (.seq c25_12 c25_13) ⟨clk, e, tips, lk, bx⟩ k := rfl
@[simp] def r25_17 : List VOper := [⟨some 35, .load (.r 3) true 15 (.tmp 3), none⟩, ⟨none, .store (.r 2) 15 (.tmp 2) (.tmp 35), none⟩]
def c25_17 : VC := .region r25_17
@[simp] theorem e25_17 {v0 v2 v3 v20 v29 : V} : execK cf sg m c25_17 ⟨clk, [(0, v0), (2, v2), (3, v3), (20, v20), (29, v29)], tips, lk, bx⟩ k = runK cf sg tips r25_17 ⟨clk + 1, [(0, v0), (2, v2), (3, v3), (20, v20), (29, v29)], tips, lk, bx⟩ (endK 5 k) := execK_region
def c25_18 : VC := .ret
@[simp] theorem e25_18 {e : Env} : execK cf sg m c25_18 ⟨clk, e, tips, lk, bx⟩ k = execK cf sg m (.ret) ⟨clk, e, tips, lk, bx⟩ k := rfl
def c25_16 : VC := .seq c25_17 c25_18
@[simp] theorem e25_16 {e : Env} : execK cf sg m c25_16 ⟨clk, e, tips, lk, bx⟩ k = execK cf sg m (.seq c25_17 c25_18) ⟨clk, e, tips, lk, bx⟩ k := rfl
def c25_10 : VC := .seq c25_11 c25_16
@[simp] theorem e25_10 {e : Env} : execK cf sg m c25_10 ⟨clk, e, tips, lk, bx⟩ k = execK cf sg m (.seq c25_11 c25_16) ⟨clk, e, tips, lk, bx⟩ k := rfl
def c25_4 : VC := .seq c25_5 c25_10
@[simp] theorem e25_4 {e : Env} : execK cf sg m c25_4 ⟨clk, e, tips, lk, bx⟩ k = execK cf sg m (.seq c25_5 c25_10) ⟨clk, e, tips, lk, bx⟩ k := rfl
def c25_2 : VC := .seq c25_3 c25_4
@[simp] theorem e25_2 {e : Env} : execK cf sg m c25_2 ⟨clk, e, tips, lk, bx⟩ k = execK cf sg m (.seq c25_3 c25_4) ⟨clk, e, tips, lk, bx⟩ k := rfl
def c25_0 : VC := .seq c25_1 c25_2
@[simp] theorem e25_0 {e : Env} : execK cf sg m c25_0 ⟨clk, e, tips, lk, bx⟩ k = execK cf sg m (.seq c25_1 c25_2) ⟨clk, e, tips, lk, bx⟩ k := rfl
def hh25 : Hints := { esc := [], rt := [(2, .r 2), (13, .e []), (3, .r 3), (24, .e []), (26, .r 3), (34, .r 3)], cut := [], quiet := [6, 9], avoid := [(5, [3]), (6, [3]), (8, [3]), (9, [3]), (12, [3]), (14, [3]), (16, [3])] }
def vf25 : VF := ⟨[0, 2, 3, 20, 29], [], false, c25_0, [.cell true 15 2]⟩
@[simp] theorem res25 : vf25.res = [.cell true 15 2] := rfl
theorem tab25 : compileFn Try.prog hh25 vf25.kept vf25.cons Try.f25 = some vf25 := by kernel_rfl

/- exchangepoint/exchangepointmake.New -/
@[simp] def r26_1 : List VOper := [⟨some 2, .mv (.const .nilp), none⟩]
def c26_1 : VC := .region r26_1
@[simp] theorem e26_1 {v0 v2 : V} : execK cf sg m c26_1 ⟨clk, [(0, v0), (2, v2)], tips, lk, bx⟩ k = runK cf sg tips r26_1 ⟨clk + 1, [(0, v0), (2, v2)], tips, lk, bx⟩ (endK 2 k) := execK_region
@[simp] def r26_3 : List VOper := [⟨some 3, .mv (.tmp 0), none⟩, ⟨some 4, .build [.nils, .int .i64 0] [(0, 1, .tmp 3)], none⟩, ⟨some 5, .boxB 2 (.tmp 4), none⟩, ⟨some 2, .mv (.tmp 5), none⟩]
def c26_3 : VC := .region r26_3
@[simp] theorem e26_3 {v0 v2 : V} : execK cf sg m c26_3 ⟨clk, [(0, v0), (2, v2)], tips, lk, bx⟩ k = runK cf sg tips r26_3 ⟨clk + 1, [(0, v0), (2, v2)], tips, lk, bx⟩ (endK 2 k) := execK_region
def c26_4 : VC := .ret
@[simp] theorem e26_4 {e : Env} : execK cf sg m c26_4 ⟨clk, e, tips, lk, bx⟩ k = execK cf sg m (.ret) ⟨clk, e, tips, lk, bx⟩ k := rfl
def c26_2 : VC := .seq c26_3 c26_4
@[simp] theorem e26_2 {e : Env} : execK cf sg m c26_2 ⟨clk, e, tips, lk, bx⟩ k = execK cf sg m (.seq c26_3 c26_4) ⟨clk, e, tips, lk, bx⟩ k := rfl
def c26_0 : VC := .seq c26_1 c26_2
@[simp] theorem e26_0 {e : Env} : execK cf sg m c26_0 ⟨clk, e, tips, lk, bx⟩ k = execK cf sg m (.seq c26_1 c26_2) ⟨clk, e, tips, lk, bx⟩ k := rfl
def hh26 : Hints := { esc := [5], rt := [], cut := [], quiet := [], avoid := [] }
def vf26 : VF := ⟨[0, 2], [], true, c26_0, [.tmp 2]⟩
@[simp] theorem res26 : vf26.res = [.tmp 2] := rfl
theorem tab26 : compileFn Try.prog hh26 vf26.kept vf26.cons Try.f26 = some vf26 := by kernel_rfl

/- exchangepoint/ether.Encode -/
@[simp] def r27_1 : List VOper := [⟨some 1, .boxR 15 (.tmp 0), none⟩, ⟨some 2, .mv (.const .nils), none⟩, ⟨some 3, .mv (.const (.int .i64 0)), none⟩]
def c27_1 : VC := .region r27_1
@[simp] theorem e27_1 {v0 v1 v2 v3 v4 v7 v18 : V} : execK cf sg m c27_1 ⟨clk, [(0, v0), (1, v1), (2, v2), (3, v3), (4, v4), (7, v7), (18, v18)], tips, lk, bx⟩ k = runK cf sg tips r27_1 ⟨clk + 1, [(0, v0), (1, v1), (2, v2), (3, v3), (4, v4), (7, v7), (18, v18)], tips, lk, bx⟩ (endK 7 k) := execK_region
@[simp] def r27_4 : List VOper := [⟨some 5, .load (.r 1) true 15 (.tmp 1), none⟩, ⟨some 6, .call 29 [.tmp 5] true [], none⟩, ⟨some 7, .unop .not (.tmp 6), none⟩]
def c27_4 : VC := .region r27_4
@[simp] theorem e27_4 {v0 v1 v2 v3 v4 v7 v18 : V} : execK cf sg m c27_4 ⟨clk, [(0, v0), (1, v1), (2, v2), (3, v3), (4, v4), (7, v7), (18, v18)], tips, lk, bx⟩ k = runK cf sg tips r27_4 ⟨clk + 1, [(0, v0), (1, v1), (2, v2), (3, v3), (4, v4), (7, v7), (18, v18)], tips, lk, bx⟩ (endK 7 k) := execK_region
@[simp] def r27_7 : List VOper := [⟨some 2, .mv (.const .nils), none⟩, ⟨some 3, .mv (.const (.int .i64 1)), none⟩]
def c27_7 : VC := .region r27_7
@[simp] theorem e27_7 {v0 v1 v2 v3 v4 v7 v18 : V} : execK cf sg m c27_7 ⟨clk, [(0, v0), (1, v1), (2, v2), (3, v3), (4, v4), (7, v7), (18, v18)], tips, lk, bx⟩ k = runK cf sg tips r27_7 ⟨clk + 1, [(0, v0), (1, v1), (2, v2), (3, v3), (4, v4), (7, v7), (18, v18)], tips, lk, bx⟩ (endK 7 k) := execK_region
def c27_8 : VC := .ret
@[simp] theorem e27_8 {e : Env} : execK cf sg m c27_8 ⟨clk, e, tips, lk, bx⟩ k = execK cf sg m (.ret) ⟨clk, e, tips, lk, bx⟩ k := rfl
def c27_6 : VC := .seq c27_7 c27_8
@[simp] theorem e27_6 {e : Env} : execK cf sg m c27_6 ⟨clk, e, tips, lk, bx⟩ k = execK cf sg m (.seq c27_7 c27_8) ⟨clk, e, tips, lk, bx⟩ k := rfl
def c27_9 : VC := .skip
@[simp] theorem e27_9 {e : Env} : execK cf sg m c27_9 ⟨clk, e, tips, lk, bx⟩ k = execK cf sg m (.skip) ⟨clk, e, tips, lk, bx⟩ k := rfl
def c27_5 : VC := .cond (.tmp 7) c27_6 c27_9
@[simp] theorem e27_5 {e : Env} : execK cf sg m c27_5 ⟨clk, e, tips, lk, bx⟩ k = execK cf sg m (.cond (.tmp 7) c27_6 c27_9) ⟨clk, e, tips, lk, bx⟩ k := rfl
def c27_3 : VC := .seq c27_4 c27_5
@[simp] theorem e27_3 {e : Env} : execK cf sg m c27_3 ⟨clk, e, tips, lk, bx⟩ k = execK cf sg m (.seq c27_4 c27_5) ⟨clk, e, tips, lk, bx⟩ k := rfl
@[simp] def r27_11 : List VOper := [⟨some 4, .mv (.const .nils), none⟩]
def c27_11 : VC := .region r27_11
@[simp] theorem e27_11 {v0 v1 v2 v3 v4 v7 v18 : V} : execK cf sg m c27_11 ⟨clk, [(0, v0), (1, v1), (2, v2), (3, v3), (4, v4), (7, v7), (18, v18)], tips, lk, bx⟩ k = runK cf sg tips r27_11 ⟨clk + 1, [(0, v0), (1, v1), (2, v2), (3, v3), (4, v4), (7, v7), (18, v18)], tips, lk, bx⟩ (endK 7 k) := execK_region
@[simp] def r27_13 : List VOper := [⟨some 8, .mv (.tmp 4), none⟩, ⟨some 9, .fieldA 0 (.tmp 1), none⟩, ⟨some 10, .cutR 1 6 1 (.tmp 9) none none, none⟩, ⟨some 11, .append 1 1 false (.tmp 8) (.tmp 10) [], none⟩, ⟨some 4, .mv (.tmp 11), none⟩]
def c27_13 : VC := .region r27_13
@[simp] theorem e27_13 {v0 v1 v2 v3 v4 v7 v18 : V} : execK cf sg m c27_13 ⟨clk, [(0, v0), (1, v1), (2, v2), (3, v3), (4, v4), (7, v7), (18, v18)], tips, lk, bx⟩ k = runK cf sg tips r27_13 ⟨clk + 1, [(0, v0), (1, v1), (2, v2), (3, v3), (4, v4), (7, v7), (18, v18)], tips, lk, bx⟩ (endK 7 k) := execK_region
@[simp] def r27_15 : List VOper := [⟨some 12, .mv (.tmp 4), none⟩, ⟨some 13, .fieldA 6 (.tmp 1), none⟩, ⟨some 14, .cutR 1 6 1 (.tmp 13) none none, none⟩, ⟨some 15, .append 1 1 false (.tmp 12) (.tmp 14) [], none⟩, ⟨some 4, .mv (.tmp 15), none⟩]
def c27_15 : VC := .region r27_15
@[simp] theorem e27_15 {v0 v1 v2 v3 v4 v7 v18 : V} : execK cf sg m c27_15 ⟨clk, [(0, v0), (1, v1), (2, v2), (3, v3), (4, v4), (7, v7), (18, v18)], tips, lk, bx⟩ k = runK cf sg tips r27_15 ⟨clk + 1, [(0, v0), (1, v1), (2, v2), (3, v3), (4, v4), (7, v7), (18, v18)], tips, lk, bx⟩ (endK 7 k) := execK_region
@[simp] def r27_18 : List VOper := [⟨some 16, .fieldA 12 (.tmp 1), none⟩, ⟨some 17, .load (.r 1) false 1 (.tmp 16), none⟩, ⟨some 18, .bin .neq (.tmp 17) (.const (.int .i64 0)), none⟩]
def c27_18 : VC := .region r27_18
@[simp] theorem e27_18 {v0 v1 v2 v3 v4 v7 v18 : V} : execK cf sg m c27_18 ⟨clk, [(0, v0), (1, v1), (2, v2), (3, v3), (4, v4), (7, v7), (18, v18)], tips, lk, bx⟩ k = runK cf sg tips r27_18 ⟨clk + 1, [(0, v0), (1, v1), (2, v2), (3, v3), (4, v4), (7, v7), (18, v18)], tips, lk, bx⟩ (endK 7 k) := execK_region
@[simp] def r27_20 : List VOper := [⟨some 19, .mv (.tmp 4), none⟩, ⟨some 20, .call 39 [.tmp 19, .const (.int .i64 33024)] true [], none⟩, ⟨some 21, .fieldA 12 (.tmp 1), none⟩, ⟨some 22, .load (.r 1) false 1 (.tmp 21), none⟩, ⟨some 23, .call 39 [.tmp 20, .tmp 22] true [], none⟩, ⟨some 4, .mv (.tmp 23), none⟩]
def c27_20 : VC := .region r27_20
@[simp] theorem e27_20 {v0 v1 v2 v3 v4 v7 v18 : V} : execK cf sg m c27_20 ⟨clk, [(0, v0), (1, v1), (2, v2), (3, v3), (4, v4), (7, v7), (18, v18)], tips, lk, bx⟩ k = runK cf sg tips r27_20 ⟨clk + 1, [(0, v0), (1, v1), (2, v2), (3, v3), (4, v4), (7, v7), (18, v18)], tips, lk, bx⟩ (endK 7 k) := execK_region
def c27_21 : VC := .skip
@[simp] theorem e27_21 {e : Env} : execK cf sg m c27_21 ⟨clk, e, tips, lk, bx⟩ k = execK cf sg m (.skip) ⟨clk, e, tips, lk, bx⟩ k := rfl
def c27_19 : VC := .cond (.tmp 18) c27_20 c27_21
@[simp] theorem e27_19 {e : Env} : execK cf sg m c27_19 ⟨clk, e, tips, lk, bx⟩ k = execK cf sg m (.cond (.tmp 18) c27_20 c27_21) ⟨clk, e, tips, lk, bx⟩ k := rfl
def c27_17 : VC := .seq c27_18 c27_19
@[simp] theorem e27_17 {e : Env} : execK cf sg m c27_17 ⟨clk, e, tips, lk, bx⟩ k = execK cf sg m (.seq c27_18 c27_19) ⟨clk, e, tips, lk, bx⟩ k := rfl
@[simp] def r27_23 : List VOper := [⟨some 24, .mv (.tmp 4), none⟩, ⟨some 25, .fieldA 13 (.tmp 1), none⟩, ⟨some 26, .load (.r 1) false 1 (.tmp 25), none⟩, ⟨some 27, .call 39 [.tmp 24, .tmp 26] true [], none⟩, ⟨some 28, .fieldA 14 (.tmp 1), none⟩, ⟨some 29, .load (.r 1) false 1 (.tmp 28), none⟩, ⟨some 30, .append 1 1 false (.tmp 27) (.tmp 29) [], none⟩, ⟨some 2, .mv (.tmp 30), none⟩, ⟨some 3, .mv (.const (.int .i64 0)), none⟩]
def c27_23 : VC := .region r27_23
@[simp] theorem e27_23 {v0 v1 v2 v3 v4 v7 v18 : V} : execK cf sg m c27_23 ⟨clk, [(0, v0), (1, v1), (2, v2), (3, v3), (4, v4), (7, v7), (18, v18)], tips, lk, bx⟩ k = runK cf sg tips r27_23 ⟨clk + 1, [(0, v0), (1, v1), (2, v2), (3, v3), (4, v4), (7, v7), (18, v18)], tips, lk, bx⟩ (endK 7 k) := execK_region
def c27_24 : VC := .ret
@[simp] theorem e27_24 {e : Env} : execK cf sg m c27_24 ⟨clk, e, tips, lk, bx⟩ k = execK cf sg m (.ret) ⟨clk, e, tips, lk, bx⟩ k := rfl
def c27_22 : VC := .seq c27_23 c27_24
@[simp] theorem e27_22 {e : Env} : execK cf sg m c27_22 ⟨clk, e, tips, lk, bx⟩ k = execK cf sg m (.seq c27_23 c27_24) ⟨clk, e, tips, lk, bx⟩ k := rfl
def c27_16 : VC := .seq c27_17 c27_22
@[simp] theorem e27_16 {e : Env} : execK cf sg m c27_16 ⟨clk, e, tips, lk, bx⟩ k = execK cf sg m (.seq c27_17 c27_22) ⟨clk, e, tips, lk, bx⟩ k := rfl
def c27_14 : VC := .seq c27_15 c27_16
@[simp] theorem e27_14 {e : Env} : execK cf sg m c27_14 ⟨clk, e, tips, lk, bx⟩ k = execK cf sg m (.seq c27_15 c27_16) ⟨clk, e, tips, lk, bx⟩ k := rfl
def c27_12 : VC := .seq c27_13 c27_14
@[simp] theorem e27_12 {e : Env} : execK cf sg m c27_12 ⟨clk, e, tips, lk, bx⟩ k = execK cf sg m (.seq c27_13 c27_14) ⟨clk, e, tips, lk, bx⟩ k := rfl
def c27_10 : VC := .seq c27_11 c27_12
@[simp] theorem e27_10 {e : Env} : execK cf sg m c27_10 ⟨clk, e, tips, lk, bx⟩ k = execK cf sg m (.seq c27_11 c27_12) ⟨clk, e, tips, lk, bx⟩ k := rfl
def c27_2 : VC := .seq c27_3 c27_10
@[simp] theorem e27_2 {e : Env} : execK cf sg m c27_2 ⟨clk, e, tips, lk, bx⟩ k = execK cf sg m (.seq c27_3 c27_10) ⟨clk, e, tips, lk, bx⟩ k := rfl
def c27_0 : VC := .seq c27_1 c27_2
@[simp] theorem e27_0 {e : Env} : execK cf sg m c27_0 ⟨clk, e, tips, lk, bx⟩ k = execK cf sg m (.seq c27_1 c27_2) ⟨clk, e, tips, lk, bx⟩ k := rfl
def hh27 : Hints := { esc := [], rt := [(1, .r 1), (9, .r 1), (13, .r 1), (16, .r 1), (21, .r 1), (25, .r 1), (28, .r 1)], cut := [], quiet := [6, 20, 23, 27], avoid := [] }
def vf27 : VF := ⟨[0, 1, 2, 3, 4, 7, 18], [], true, c27_0, [.tmp 2, .tmp 3]⟩
@[simp] theorem res27 : vf27.res = [.tmp 2, .tmp 3] := rfl
theorem tab27 : compileFn Try.prog hh27 vf27.kept vf27.cons Try.f27 = some vf27 := by kernel_rfl

/- exchangepoint/exchangepointref04.Encode -/
@[simp] def r28_1 : List VOper := [⟨some 1, .boxR 15 (.tmp 0), none⟩, ⟨some 2, .mv (.const .nils), none⟩, ⟨some 3, .mv (.const (.int .i64 0)), none⟩]
def c28_1 : VC := .region r28_1
@[simp] theorem e28_1 {v0 v1 v2 v3 v4 v7 v16 : V} : execK cf sg m c28_1 ⟨clk, [(0, v0), (1, v1), (2, v2), (3, v3), (4, v4), (7, v7), (16, v16)], tips, lk, bx⟩ k = runK cf sg tips r28_1 ⟨clk + 1, [(0, v0), (1, v1), (2, v2), (3, v3), (4, v4), (7, v7), (16, v16)], tips, lk, bx⟩ (endK 7 k) := execK_region
@[simp] def r28_4 : List VOper := [⟨some 5, .load (.r 1) true 15 (.tmp 1), none⟩, ⟨some 6, .call 30 [.tmp 5] true [], none⟩, ⟨some 7, .unop .not (.tmp 6), none⟩]
def c28_4 : VC := .region r28_4
@[simp] theorem e28_4 {v0 v1 v2 v3 v4 v7 v16 : V} : execK cf sg m c28_4 ⟨clk, [(0, v0), (1, v1), (2, v2), (3, v3), (4, v4), (7, v7), (16, v16)], tips, lk, bx⟩ k = runK cf sg tips r28_4 ⟨clk + 1, [(0, v0), (1, v1), (2, v2), (3, v3), (4, v4), (7, v7), (16, v16)], tips, lk, bx⟩ (endK 7 k) := execK_region
@[simp] def r28_7 : List VOper := [⟨some 2, .mv (.const .nils), none⟩, ⟨some 3, .mv (.const (.int .i64 1)), none⟩]
def c28_7 : VC := .region r28_7
@[simp] theorem e28_7 {v0 v1 v2 v3 v4 v7 v16 : V} : execK cf sg m c28_7 ⟨clk, [(0, v0), (1, v1), (2, v2), (3, v3), (4, v4), (7, v7), (16, v16)], tips, lk, bx⟩ k = runK cf sg tips r28_7 ⟨clk + 1, [(0, v0), (1, v1), (2, v2), (3, v3), (4, v4), (7, v7), (16, v16)], tips, lk, bx⟩ (endK 7 k) := execK_region
def c28_8 : VC := .ret
@[simp] theorem e28_8 {e : Env} : execK cf sg m c28_8 ⟨clk, e, tips, lk, bx⟩ k = execK cf sg m (.ret) ⟨clk, e, tips, lk, bx⟩ k := rfl
def c28_6 : VC := .seq c28_7 c28_8
@[simp] theorem e28_6 {e : Env} : execK cf sg m c28_6 ⟨clk, e, tips, lk, bx⟩ k = execK cf sg m (.seq c28_7 c28_8) ⟨clk, e, tips, lk, bx⟩ k := rfl
def c28_9 : VC := .skip
@[simp] theorem e28_9 {e : Env} : execK cf sg m c28_9 ⟨clk, e, tips, lk, bx⟩ k = execK cf sg m (.skip) ⟨clk, e, tips, lk, bx⟩ k := rfl
def c28_5 : VC := .cond (.tmp 7) c28_6 c28_9
@[simp] theorem e28_5 {e : Env} : execK cf sg m c28_5 ⟨clk, e, tips, lk, bx⟩ k = execK cf sg m (.cond (.tmp 7) c28_6 c28_9) ⟨clk, e, tips, lk, bx⟩ k := rfl
def c28_3 : VC := .seq c28_4 c28_5
@[simp] theorem e28_3 {e : Env} : execK cf sg m c28_3 ⟨clk, e, tips, lk, bx⟩ k = execK cf sg m (.seq c28_4 c28_5) ⟨clk, e, tips, lk, bx⟩ k := rfl
@[simp] def r28_11 : List VOper := [⟨some 8, .fieldA 0 (.tmp 1), none⟩, ⟨some 9, .cutR 1 6 1 (.tmp 8) none none, none⟩, ⟨some 10, .append 1 1 false (.const .nils) (.tmp 9) [], none⟩, ⟨some 11, .fieldA 6 (.tmp 1), none⟩, ⟨some 12, .cutR 1 6 1 (.tmp 11) none none, none⟩, ⟨some 13, .append 1 1 false (.tmp 10) (.tmp 12) [], none⟩, ⟨some 4, .mv (.tmp 13), none⟩]
def c28_11 : VC := .region r28_11
@[simp] theorem e28_11 {v0 v1 v2 v3 v4 v7 v16 : V} : execK cf sg m c28_11 ⟨clk, [(0, v0), (1, v1), (2, v2), (3, v3), (4, v4), (7, v7), (16, v16)], tips, lk, bx⟩ k = runK cf sg tips r28_11 ⟨clk + 1, [(0, v0), (1, v1), (2, v2), (3, v3), (4, v4), (7, v7), (16, v16)], tips, lk, bx⟩ (endK 7 k) := execK_region
@[simp] def r28_14 : List VOper := [⟨some 14, .fieldA 12 (.tmp 1), none⟩, ⟨some 15, .load (.r 1) false 1 (.tmp 14), none⟩, ⟨some 16, .bin .gtr (.tmp 15) (.const (.int .i64 0)), none⟩]
def c28_14 : VC := .region r28_14
@[simp] theorem e28_14 {v0 v1 v2 v3 v4 v7 v16 : V} : execK cf sg m c28_14 ⟨clk, [(0, v0), (1, v1), (2, v2), (3, v3), (4, v4), (7, v7), (16, v16)], tips, lk, bx⟩ k = runK cf sg tips r28_14 ⟨clk + 1, [(0, v0), (1, v1), (2, v2), (3, v3), (4, v4), (7, v7), (16, v16)], tips, lk, bx⟩ (endK 7 k) := execK_region
@[simp] def r28_16 : List VOper := [⟨some 17, .mv (.tmp 4), none⟩, ⟨some 18, .fieldA 12 (.tmp 1), none⟩, ⟨some 19, .load (.r 1) false 1 (.tmp 18), none⟩, ⟨some 20, .bin .shr (.tmp 19) (.const (.int .u64 8)), none⟩, ⟨some 21, .convI .u8 (.tmp 20), none⟩, ⟨some 22, .fieldA 12 (.tmp 1), none⟩, ⟨some 23, .load (.r 1) false 1 (.tmp 22), none⟩, ⟨some 24, .convI .u8 (.tmp 23), none⟩, ⟨some 25, .bslice false 1 4 [.int .u8 0] [(0, 1, .const (.int .u8 129)), (1, 1, .const (.int .u8 0)), (2, 1, .tmp 21), (3, 1, .tmp 24)], none⟩, ⟨some 26, .append 1 1 false (.tmp 17) (.tmp 25) [], none⟩, ⟨some 4, .mv (.tmp 26), none⟩]
def c28_16 : VC := .region r28_16
@[simp] theorem e28_16 {v0 v1 v2 v3 v4 v7 v16 : V} : execK cf sg m c28_16 ⟨clk, [(0, v0), (1, v1), (2, v2), (3, v3), (4, v4), (7, v7), (16, v16)], tips, lk, bx⟩ k = runK cf sg (bump tips [(nmOf 25 0)]) r28_16 ⟨clk + 1, [(0, v0), (1, v1), (2, v2), (3, v3), (4, v4), (7, v7), (16, v16)], bump tips [(nmOf 25 0)], updL lk false [(nmOf 25 0)], bx⟩ (endK 7 k) := execK_region
def c28_17 : VC := .skip
@[simp] theorem e28_17 {e : Env} : execK cf sg m c28_17 ⟨clk, e, tips, lk, bx⟩ k = execK cf sg m (.skip) ⟨clk, e, tips, lk, bx⟩ k := rfl
def c28_15 : VC := .cond (.tmp 16) c28_16 c28_17
@[simp] theorem e28_15 {e : Env} : execK cf sg m c28_15 ⟨clk, e, tips, lk, bx⟩ k = execK cf sg m (.cond (.tmp 16) c28_16 c28_17) ⟨clk, e, tips, lk, bx⟩ k := rfl
def c28_13 : VC := .seq c28_14 c28_15
@[simp] theorem e28_13 {e : Env} : execK cf sg m c28_13 ⟨clk, e, tips, lk, bx⟩ k = execK cf sg m (.seq c28_14 c28_15) ⟨clk, e, tips, lk, bx⟩ k := rfl
@[simp] def r28_19 : List VOper := [⟨some 27, .mv (.tmp 4), none⟩, ⟨some 28, .fieldA 13 (.tmp 1), none⟩, ⟨some 29, .load (.r 1) false 1 (.tmp 28), none⟩, ⟨some 30, .bin .shr (.tmp 29) (.const (.int .u64 8)), none⟩, ⟨some 31, .convI .u8 (.tmp 30), none⟩, ⟨some 32, .fieldA 13 (.tmp 1), none⟩, ⟨some 33, .load (.r 1) false 1 (.tmp 32), none⟩, ⟨some 34, .convI .u8 (.tmp 33), none⟩, ⟨some 35, .bslice false 1 2 [.int .u8 0] [(0, 1, .tmp 31), (1, 1, .tmp 34)], none⟩, ⟨some 36, .append 1 1 false (.tmp 27) (.tmp 35) [], none⟩, ⟨some 37, .fieldA 14 (.tmp 1), none⟩, ⟨some 38, .load (.r 1) false 1 (.tmp 37), none⟩, ⟨some 39, .append 1 1 false (.tmp 36) (.tmp 38) [], none⟩, ⟨some 2, .mv (.tmp 39), none⟩, ⟨some 3, .mv (.const (.int .i64 0)), none⟩]
def c28_19 : VC := .region r28_19
@[simp] theorem e28_19 {v0 v1 v2 v3 v4 v7 v16 : V} : execK cf sg m c28_19 ⟨clk, [(0, v0), (1, v1), (2, v2), (3, v3), (4, v4), (7, v7), (16, v16)], tips, lk, bx⟩ k = runK cf sg (bump tips [(nmOf 35 0)]) r28_19 ⟨clk + 1, [(0, v0), (1, v1), (2, v2), (3, v3), (4, v4), (7, v7), (16, v16)], bump tips [(nmOf 35 0)], updL lk false [(nmOf 35 0)], bx⟩ (endK 7 k) := execK_region
def c28_20 : VC := .ret
@[simp] theorem e28_20 {e : Env} : execK cf sg m c28_20 ⟨clk, e, tips, lk, bx⟩ k = execK cf sg m (.ret) ⟨clk, e, tips, lk, bx⟩ k := rfl
def c28_18 : VC := .seq c28_19 c28_20
@[simp] theorem e28_18 {e : Env} : execK cf sg m c28_18 ⟨clk, e, tips, lk, bx⟩ k = execK cf sg m (.seq c28_19 c28_20) ⟨clk, e, tips, lk, bx⟩ k := rfl
def c28_12 : VC := .seq c28_13 c28_18
@[simp] theorem e28_12 {e : Env} : execK cf sg m c28_12 ⟨clk, e, tips, lk, bx⟩ k = execK cf sg m (.seq c28_13 c28_18) ⟨clk, e, tips, lk, bx⟩ k := rfl
def c28_10 : VC := .seq c28_11 c28_12
@[simp] theorem e28_10 {e : Env} : execK cf sg m c28_10 ⟨clk, e, tips, lk, bx⟩ k = execK cf sg m (.seq c28_11 c28_12) ⟨clk, e, tips, lk, bx⟩ k := rfl
def c28_2 : VC := .seq c28_3 c28_10
@[simp] theorem e28_2 {e : Env} : execK cf sg m c28_2 ⟨clk, e, tips, lk, bx⟩ k = execK cf sg m (.seq c28_3 c28_10) ⟨clk, e, tips, lk, bx⟩ k := rfl
def c28_0 : VC := .seq c28_1 c28_2
@[simp] theorem e28_0 {e : Env} : execK cf sg m c28_0 ⟨clk, e, tips, lk, bx⟩ k = execK cf sg m (.seq c28_1 c28_2) ⟨clk, e, tips, lk, bx⟩ k := rfl
def hh28 : Hints := { esc := [], rt := [(1, .r 1), (8, .r 1), (11, .r 1), (14, .r 1), (18, .r 1), (22, .r 1), (28, .r 1), (32, .r 1), (37, .r 1)], cut := [], quiet := [6], avoid := [] }
def vf28 : VF := ⟨[0, 1, 2, 3, 4, 7, 16], [], true, c28_0, [.tmp 2, .tmp 3]⟩
@[simp] theorem res28 : vf28.res = [.tmp 2, .tmp 3] := rfl
theorem tab28 : compileFn Try.prog hh28 vf28.kept vf28.cons Try.f28 = some vf28 := by kernel_rfl

/- exchangepoint/ether.Valid -/
@[simp] def r29_1 : List VOper := [⟨some 1, .boxR 15 (.tmp 0), none⟩, ⟨some 2, .mv (.const (.bool false)), none⟩]
def c29_1 : VC := .region r29_1
@[simp] theorem e29_1 {v0 v1 v2 : V} : execK cf sg m c29_1 ⟨clk, [(0, v0), (1, v1), (2, v2)], tips, lk, bx⟩ k = runK cf sg tips r29_1 ⟨clk + 1, [(0, v0), (1, v1), (2, v2)], tips, lk, bx⟩ (endK 3 k) := execK_region
@[simp] def r29_3 : List VOper := [⟨some 3, .fieldA 12 (.tmp 1), none⟩, ⟨some 4, .load (.r 1) false 1 (.tmp 3), none⟩, ⟨some 5, .bin .geq (.tmp 4) (.const (.int .i64 0)), none⟩, ⟨some 6, .mv (.tmp 5), none⟩, ⟨some 7, .fieldA 12 (.tmp 1), some (6, true)⟩, ⟨some 8, .load (.r 1) false 1 (.tmp 7), some (6, true)⟩, ⟨some 9, .bin .leq (.tmp 8) (.const (.int .i64 4094)), some (6, true)⟩, ⟨some 10, .pick (.tmp 6) (.tmp 9) (.const (.bool false)), none⟩, ⟨some 11, .mv (.tmp 10), none⟩, ⟨some 12, .fieldA 13 (.tmp 1), some (11, true)⟩, ⟨some 13, .load (.r 1) false 1 (.tmp 12), some (11, true)⟩, ⟨some 14, .bin .geq (.tmp 13) (.const (.int .i64 1536)), some (11, true)⟩, ⟨some 15, .pick (.tmp 11) (.tmp 14) (.const (.bool false)), none⟩, ⟨some 16, .mv (.tmp 15), none⟩, ⟨some 17, .fieldA 13 (.tmp 1), some (16, true)⟩, ⟨some 18, .load (.r 1) false 1 (.tmp 17), some (16, true)⟩, ⟨some 19, .bin .leq (.tmp 18) (.const (.int .i64 65535)), some (16, true)⟩, ⟨some 20, .pick (.tmp 16) (.tmp 19) (.const (.bool false)), none⟩, ⟨some 21, .mv (.tmp 20), none⟩, ⟨some 22, .fieldA 13 (.tmp 1), some (21, true)⟩, ⟨some 23, .load (.r 1) false 1 (.tmp 22), some (21, true)⟩, ⟨some 24, .bin .neq (.tmp 23) (.const (.int .i64 33024)), some (21, true)⟩, ⟨some 25, .pick (.tmp 21) (.tmp 24) (.const (.bool false)), none⟩, ⟨some 26, .mv (.tmp 25), none⟩, ⟨some 27, .fieldA 14 (.tmp 1), some (26, true)⟩, ⟨some 28, .load (.r 1) false 1 (.tmp 27), some (26, true)⟩, ⟨some 29, .len false (.tmp 28), some (26, true)⟩, ⟨some 30, .bin .leq (.tmp 29) (.const (.int .i64 1500)), some (26, true)⟩, ⟨some 31, .pick (.tmp 26) (.tmp 30) (.const (.bool false)), none⟩, ⟨some 2, .mv (.tmp 31), none⟩]
def c29_3 : VC := .region r29_3
@[simp] theorem e29_3 {v0 v1 v2 : V} : execK cf sg m c29_3 ⟨clk, [(0, v0), (1, v1), (2, v2)], tips, lk, bx⟩ k = runK cf sg tips r29_3 ⟨clk + 1, [(0, v0), (1, v1), (2, v2)], tips, lk, bx⟩ (endK 3 k) := execK_region
def c29_4 : VC := .ret
@[simp] theorem e29_4 {e : Env} : execK cf sg m c29_4 ⟨clk, e, tips, lk, bx⟩ k = execK cf sg m (.ret) ⟨clk, e, tips, lk, bx⟩ k := rfl
def c29_2 : VC := .seq c29_3 c29_4
@[simp] theorem e29_2 {e : Env} : execK cf sg m c29_2 ⟨clk, e, tips, lk, bx⟩ k = execK cf sg m (.seq c29_3 c29_4) ⟨clk, e, tips, lk, bx⟩ k := rfl
def c29_0 : VC := .seq c29_1 c29_2
@[simp] theorem e29_0 {e : Env} : execK cf sg m c29_0 ⟨clk, e, tips, lk, bx⟩ k = execK cf sg m (.seq c29_1 c29_2) ⟨clk, e, tips, lk, bx⟩ k := rfl
def hh29 : Hints := { esc := [], rt := [(3, .r 1), (7, .r 1), (12, .r 1), (17, .r 1), (22, .r 1), (27, .r 1)], cut := [], quiet := [], avoid := [] }
def vf29 : VF := ⟨[0, 1, 2], [], true, c29_0, [.tmp 2]⟩
@[simp] theorem res29 : vf29.res = [.tmp 2] := rfl
theorem tab29 : compileFn Try.prog hh29 vf29.kept vf29.cons Try.f29 = some vf29 := by kernel_rfl

/- exchangepoint/exchangepointref04.Valid -/
@[simp] def r30_1 : List VOper := [⟨some 1, .boxR 15 (.tmp 0), none⟩, ⟨some 2, .mv (.const (.bool false)), none⟩]
def c30_1 : VC := .region r30_1
@[simp] theorem e30_1 {v0 v1 v2 : V} : execK cf sg m c30_1 ⟨clk, [(0, v0), (1, v1), (2, v2)], tips, lk, bx⟩ k = runK cf sg tips r30_1 ⟨clk + 1, [(0, v0), (1, v1), (2, v2)], tips, lk, bx⟩ (endK 3 k) := execK_region
@[simp] def r30_3 : List VOper := [⟨some 3, .fieldA 12 (.tmp 1), none⟩, ⟨some 4, .load (.r 1) false 1 (.tmp 3), none⟩, ⟨some 5, .bin .geq (.tmp 4) (.const (.int .i64 0)), none⟩, ⟨some 6, .mv (.tmp 5), none⟩, ⟨some 7, .fieldA 12 (.tmp 1), some (6, true)⟩, ⟨some 8, .load (.r 1) false 1 (.tmp 7), some (6, true)⟩, ⟨some 9, .bin .leq (.tmp 8) (.const (.int .i64 4094)), some (6, true)⟩, ⟨some 10, .pick (.tmp 6) (.tmp 9) (.const (.bool false)), none⟩, ⟨some 11, .mv (.tmp 10), none⟩, ⟨some 12, .fieldA 13 (.tmp 1), some (11, true)⟩, ⟨some 13, .load (.r 1) false 1 (.tmp 12), some (11, true)⟩, ⟨some 14, .bin .geq (.tmp 13) (.const (.int .i64 1536)), some (11, true)⟩, ⟨some 15, .pick (.tmp 11) (.tmp 14) (.const (.bool false)), none⟩, ⟨some 16, .mv (.tmp 15), none⟩, ⟨some 17, .fieldA 13 (.tmp 1), some (16, true)⟩, ⟨some 18, .load (.r 1) false 1 (.tmp 17), some (16, true)⟩, ⟨some 19, .bin .leq (.tmp 18) (.const (.int .i64 65535)), some (16, true)⟩, ⟨some 20, .pick (.tmp 16) (.tmp 19) (.const (.bool false)), none⟩, ⟨some 21, .mv (.tmp 20), none⟩, ⟨some 22, .fieldA 13 (.tmp 1), some (21, true)⟩, ⟨some 23, .load (.r 1) false 1 (.tmp 22), some (21, true)⟩, ⟨some 24, .bin .neq (.tmp 23) (.const (.int .i64 33024)), some (21, true)⟩, ⟨some 25, .pick (.tmp 21) (.tmp 24) (.const (.bool false)), none⟩, ⟨some 26, .mv (.tmp 25), none⟩, ⟨some 27, .fieldA 14 (.tmp 1), some (26, true)⟩, ⟨some 28, .load (.r 1) false 1 (.tmp 27), some (26, true)⟩, ⟨some 29, .len false (.tmp 28), some (26, true)⟩, ⟨some 30, .bin .leq (.tmp 29) (.const (.int .i64 1500)), some (26, true)⟩, ⟨some 31, .pick (.tmp 26) (.tmp 30) (.const (.bool false)), none⟩, ⟨some 2, .mv (.tmp 31), none⟩]
def c30_3 : VC := .region r30_3
@[simp] theorem e30_3 {v0 v1 v2 : V} : execK cf sg m c30_3 ⟨clk, [(0, v0), (1, v1), (2, v2)], tips, lk, bx⟩ k = runK cf sg tips r30_3 ⟨clk + 1, [(0, v0), (1, v1), (2, v2)], tips, lk, bx⟩ (endK 3 k) := execK_region
def c30_4 : VC := .ret
@[simp] theorem e30_4 {e : Env} : execK cf sg m c30_4 ⟨clk, e, tips, lk, bx⟩ k = execK cf sg m (.ret) ⟨clk, e, tips, lk, bx⟩ k := rfl
def c30_2 : VC := .seq c30_3 c30_4
@[simp] theorem e30_2 {e : Env} : execK cf sg m c30_2 ⟨clk, e, tips, lk, bx⟩ k = execK cf sg m (.seq c30_3 c30_4) ⟨clk, e, tips, lk, bx⟩ k := rfl
def c30_0 : VC := .seq c30_1 c30_2
@[simp] theorem e30_0 {e : Env} : execK cf sg m c30_0 ⟨clk, e, tips, lk, bx⟩ k = execK cf sg m (.seq c30_1 c30_2) ⟨clk, e, tips, lk, bx⟩ k := rfl
def hh30 : Hints := { esc := [], rt := [(3, .r 1), (7, .r 1), (12, .r 1), (17, .r 1), (22, .r 1), (27, .r 1)], cut := [], quiet := [], avoid := [] }
def vf30 : VF := ⟨[0, 1, 2], [], true, c30_0, [.tmp 2]⟩
@[simp] theorem res30 : vf30.res = [.tmp 2] := rfl
theorem tab30 : compileFn Try.prog hh30 vf30.kept vf30.cons Try.f30 = some vf30 := by kernel_rfl

/- exchangepoint/ether.Decode -/
@[simp] def r31_1 : List VOper := [⟨some 2, .allocR [.int .u8 0, .int .u8 0, .int .u8 0, .int .u8 0, .int .u8 0, .int .u8 0, .int .u8 0, .int .u8 0, .int .u8 0, .int .u8 0, .int .u8 0, .int .u8 0, .int .i64 0, .int .i64 0, .nils], none⟩, ⟨some 3, .mv (.const (.int .i64 0)), none⟩]
def c31_1 : VC := .region r31_1
@[simp] theorem e31_1 {v0 v2 v3 v4 v5 v8 v23 v26 v42 v47 v57 : V} : execK cf sg m c31_1 ⟨clk, [(0, v0), (2, v2), (3, v3), (4, v4), (5, v5), (8, v8), (23, v23), (26, v26), (42, v42), (47, v47), (57, v57)], tips, lk, bx⟩ k = runK cf sg tips r31_1 ⟨clk + 1, [(0, v0), (2, v2), (3, v3), (4, v4), (5, v5), (8, v8), (23, v23), (26, v26), (42, v42), (47, v47), (57, v57)], tips, lk, bx⟩ (endK 11 k) := execK_region
@[simp] def r31_4 : List VOper := [⟨some 6, .mv (.tmp 0), none⟩, ⟨some 7, .len false (.tmp 6), none⟩, ⟨some 8, .bin .lss (.tmp 7) (.const (.int .i64 14)), none⟩]
def c31_4 : VC := .region r31_4
@[simp] theorem e31_4 {v0 v2 v3 v4 v5 v8 v23 v26 v42 v47 v57 : V} : execK cf sg m c31_4 ⟨clk, [(0, v0), (2, v2), (3, v3), (4, v4), (5, v5), (8, v8), (23, v23), (26, v26), (42, v42), (47, v47), (57, v57)], tips, lk, bx⟩ k = runK cf sg tips r31_4 ⟨clk + 1, [(0, v0), (2, v2), (3, v3), (4, v4), (5, v5), (8, v8), (23, v23), (26, v26), (42, v42), (47, v47), (57, v57)], tips, lk, bx⟩ (endK 11 k) := execK_region
@[simp] def r31_7 : List VOper := [⟨some 9, .build [.int .u8 0, .int .u8 0, .int .u8 0, .int .u8 0, .int .u8 0, .int .u8 0, .int .u8 0, .int .u8 0, .int .u8 0, .int .u8 0, .int .u8 0, .int .u8 0, .int .i64 0, .int .i64 0, .nils] [], none⟩, ⟨none, .store (.r 2) 15 (.tmp 2) (.tmp 9), none⟩, ⟨some 3, .mv (.const (.int .i64 4)), none⟩]
def c31_7 : VC := .region r31_7
@[simp] theorem e31_7 {v0 v2 v3 v4 v5 v8 v23 v26 v42 v47 v57 : V} : execK cf sg m c31_7 ⟨clk, [(0, v0), (2, v2), (3, v3), (4, v4), (5, v5), (8, v8), (23, v23), (26, v26), (42, v42), (47, v47), (57, v57)], tips, lk, bx⟩ k = runK cf sg tips r31_7 ⟨clk + 1, [(0, v0), (2, v2), (3, v3), (4, v4), (5, v5), (8, v8), (23, v23), (26, v26), (42, v42), (47, v47), (57, v57)], tips, lk, bx⟩ (endK 11 k) := execK_region
def c31_8 : VC := .ret
@[simp] theorem e31_8 {e : Env} : execK cf sg m c31_8 ⟨clk, e, tips, lk, bx⟩ k = execK cf sg m (.ret) ⟨clk, e, tips, lk, bx⟩ k := rfl
def c31_6 : VC := .seq c31_7 c31_8
@[simp] theorem e31_6 {e : Env} : execK cf sg m c31_6 ⟨clk, e, tips, lk, bx⟩ k = execK cf sg m (.seq c31_7 c31_8) ⟨clk, e, tips, lk, bx⟩ k := rfl
def c31_9 : VC := .skip
@[simp] theorem e31_9 {e : Env} : execK cf sg m c31_9 ⟨clk, e, tips, lk, bx⟩ k = execK cf sg m (.skip) ⟨clk, e, tips, lk, bx⟩ k := rfl
def c31_5 : VC := .cond (.tmp 8) c31_6 c31_9
@[simp] theorem e31_5 {e : Env} : execK cf sg m c31_5 ⟨clk, e, tips, lk, bx⟩ k = execK cf sg m (.cond (.tmp 8) c31_6 c31_9) ⟨clk, e, tips, lk, bx⟩ k := rfl
def c31_3 : VC := .seq c31_4 c31_5
@[simp] theorem e31_3 {e : Env} : execK cf sg m c31_3 ⟨clk, e, tips, lk, bx⟩ k = execK cf sg m (.seq c31_4 c31_5) ⟨clk, e, tips, lk, bx⟩ k := rfl
@[simp] def r31_11 : List VOper := [⟨some 10, .mv (.tmp 0), none⟩, ⟨some 11, .cut 1 (.tmp 10) none (some (.const (.int .i64 6))), none⟩, ⟨some 12, .arrptr 6 1 (.tmp 11), none⟩, ⟨some 13, .load (.e [4]) true 6 (.tmp 12), none⟩, ⟨some 14, .mv (.tmp 0), none⟩, ⟨some 15, .cut 1 (.tmp 14) (some (.const (.int .i64 6))) (some (.const (.int .i64 12))), none⟩, ⟨some 16, .arrptr 6 1 (.tmp 15), none⟩, ⟨some 17, .load (.e [4]) true 6 (.tmp 16), none⟩, ⟨some 18, .build [.int .u8 0, .int .u8 0, .int .u8 0, .int .u8 0, .int .u8 0, .int .u8 0, .int .u8 0, .int .u8 0, .int .u8 0, .int .u8 0, .int .u8 0, .int .u8 0, .int .i64 0, .int .i64 0, .nils] [(0, 6, .tmp 13), (6, 6, .tmp 17)], none⟩, ⟨some 4, .allocR [.int .u8 0, .int .u8 0, .int .u8 0, .int .u8 0, .int .u8 0, .int .u8 0, .int .u8 0, .int .u8 0, .int .u8 0, .int .u8 0, .int .u8 0, .int .u8 0, .int .i64 0, .int .i64 0, .nils], none⟩, ⟨none, .store (.r 4) 15 (.tmp 4) (.tmp 18), none⟩]
def c31_11 : VC := .region r31_11
@[simp] theorem e31_11 {v0 v2 v3 v4 v5 v8 v23 v26 v42 v47 v57 : V} : execK cf sg m c31_11 ⟨clk, [(0, v0), (2, v2), (3, v3), (4, v4), (5, v5), (8, v8), (23, v23), (26, v26), (42, v42), (47, v47), (57, v57)], tips, lk, bx⟩ k = runK cf sg tips r31_11 ⟨clk + 1, [(0, v0), (2, v2), (3, v3), (4, v4), (5, v5), (8, v8), (23, v23), (26, v26), (42, v42), (47, v47), (57, v57)], tips, lk, bx⟩ (endK 11 k) := execK_region
@[simp] def r31_13 : List VOper := [⟨some 19, .mv (.tmp 0), none⟩, ⟨some 20, .cut 1 (.tmp 19) (some (.const (.int .i64 12))) none, none⟩, ⟨some 5, .mv (.tmp 20), none⟩]
def c31_13 : VC := .region r31_13
@[simp] theorem e31_13 {v0 v2 v3 v4 v5 v8 v23 v26 v42 v47 v57 : V} : execK cf sg m c31_13 ⟨clk, [(0, v0), (2, v2), (3, v3), (4, v4), (5, v5), (8, v8), (23, v23), (26, v26), (42, v42), (47, v47), (57, v57)], tips, lk, bx⟩ k = runK cf sg tips r31_13 ⟨clk + 1, [(0, v0), (2, v2), (3, v3), (4, v4), (5, v5), (8, v8), (23, v23), (26, v26), (42, v42), (47, v47), (57, v57)], tips, lk, bx⟩ (endK 11 k) := execK_region
@[simp] def r31_16 : List VOper := [⟨some 21, .mv (.tmp 5), none⟩, ⟨some 22, .call 40 [.tmp 21] true [], none⟩, ⟨some 23, .bin .eql (.tmp 22) (.const (.int .i64 33024)), none⟩]
def c31_16 : VC := .region r31_16
@[simp] theorem e31_16 {v0 v2 v3 v4 v5 v8 v23 v26 v42 v47 v57 : V} : execK cf sg m c31_16 ⟨clk, [(0, v0), (2, v2), (3, v3), (4, v4), (5, v5), (8, v8), (23, v23), (26, v26), (42, v42), (47, v47), (57, v57)], tips, lk, bx⟩ k = runK cf sg tips r31_16 ⟨clk + 1, [(0, v0), (2, v2), (3, v3), (4, v4), (5, v5), (8, v8), (23, v23), (26, v26), (42, v42), (47, v47), (57, v57)], tips, lk, bx⟩ (endK 11 k) := execK_region
@[simp] def r31_20 : List VOper := [⟨some 24, .mv (.tmp 0), none⟩, ⟨some 25, .len false (.tmp 24), none⟩, ⟨some 26, .bin .lss (.tmp 25) (.const (.int .i64 18)), none⟩]
def c31_20 : VC := .region r31_20
@[simp] theorem e31_20 {v0 v2 v3 v4 v5 v8 v23 v26 v42 v47 v57 : V} : execK cf sg m c31_20 ⟨clk, [(0, v0), (2, v2), (3, v3), (4, v4), (5, v5), (8, v8), (23, v23), (26, v26), (42, v42), (47, v47), (57, v57)], tips, lk, bx⟩ k = runK cf sg tips r31_20 ⟨clk + 1, [(0, v0), (2, v2), (3, v3), (4, v4), (5, v5), (8, v8), (23, v23), (26, v26), (42, v42), (47, v47), (57, v57)], tips, lk, bx⟩ (endK 11 k) := execK_region
@[simp] def r31_23 : List VOper := [⟨some 27, .build [.int .u8 0, .int .u8 0, .int .u8 0, .int .u8 0, .int .u8 0, .int .u8 0, .int .u8 0, .int .u8 0, .int .u8 0, .int .u8 0, .int .u8 0, .int .u8 0, .int .i64 0, .int .i64 0, .nils] [], none⟩, ⟨none, .store (.r 2) 15 (.tmp 2) (.tmp 27), none⟩, ⟨some 3, .mv (.const (.int .i64 4)), none⟩]
def c31_23 : VC := .region r31_23
@[simp] theorem e31_23 {v0 v2 v3 v4 v5 v8 v23 v26 v42 v47 v57 : V} : execK cf sg m c31_23 ⟨clk, [(0, v0), (2, v2), (3, v3), (4, v4), (5, v5), (8, v8), (23, v23), (26, v26), (42, v42), (47, v47), (57, v57)], tips, lk, bx⟩ k = runK cf sg tips r31_23 ⟨clk + 1, [(0, v0), (2, v2), (3, v3), (4, v4), (5, v5), (8, v8), (23, v23), (26, v26), (42, v42), (47, v47), (57, v57)], tips, lk, bx⟩ (endK 11 k) := execK_region
def c31_24 : VC := .ret
@[simp] theorem e31_24 {e : Env} : execK cf sg m c31_24 ⟨clk, e, tips, lk, bx⟩ k = execK cf sg m (.ret) ⟨clk, e, tips, lk, bx⟩ k := rfl
def c31_22 : VC := .seq c31_23 c31_24
@[simp] theorem e31_22 {e : Env} : execK cf sg m c31_22 ⟨clk, e, tips, lk, bx⟩ k = execK cf sg m (.seq c31_23 c31_24) ⟨clk, e, tips, lk, bx⟩ k := rfl
def c31_25 : VC := .skip
@[simp] theorem e31_25 {e : Env} : execK cf sg m c31_25 ⟨clk, e, tips, lk, bx⟩ k = execK cf sg m (.skip) ⟨clk, e, tips, lk, bx⟩ k := rfl
def c31_21 : VC := .cond (.tmp 26) c31_22 c31_25
@[simp] theorem e31_21 {e : Env} : execK cf sg m c31_21 ⟨clk, e, tips, lk, bx⟩ k = execK cf sg m (.cond (.tmp 26) c31_22 c31_25) ⟨clk, e, tips, lk, bx⟩ k := rfl
def c31_19 : VC := .seq c31_20 c31_21
@[simp] theorem e31_19 {e : Env} : execK cf sg m c31_19 ⟨clk, e, tips, lk, bx⟩ k = execK cf sg m (.seq c31_20 c31_21) ⟨clk, e, tips, lk, bx⟩ k := rfl
@[simp] def r31_27 : List VOper := [⟨some 28, .mv (.tmp 5), none⟩, ⟨some 29, .cut 1 (.tmp 28) (some (.const (.int .i64 2))) none, none⟩, ⟨some 30, .call 40 [.tmp 29] true [], none⟩, ⟨some 31, .bin .and (.tmp 30) (.const (.int .i64 4095)), none⟩, ⟨some 32, .fieldA 12 (.tmp 4), none⟩, ⟨none, .store (.r 4) 1 (.tmp 32) (.tmp 31), none⟩]
def c31_27 : VC := .region r31_27
@[simp] theorem e31_27 {v0 v2 v3 v4 v5 v8 v23 v26 v42 v47 v57 : V} : execK cf sg m c31_27 ⟨clk, [(0, v0), (2, v2), (3, v3), (4, v4), (5, v5), (8, v8), (23, v23), (26, v26), (42, v42), (47, v47), (57, v57)], tips, lk, bx⟩ k = runK cf sg tips r31_27 ⟨clk + 1, [(0, v0), (2, v2), (3, v3), (4, v4), (5, v5), (8, v8), (23, v23), (26, v26), (42, v42), (47, v47), (57, v57)], tips, lk, bx⟩ (endK 11 k) := execK_region
@[simp] def r31_29 : List VOper := [⟨some 33, .mv (.tmp 5), none⟩, ⟨some 34, .cut 1 (.tmp 33) (some (.const (.int .i64 4))) none, none⟩, ⟨some 5, .mv (.tmp 34), none⟩]
def c31_29 : VC := .region r31_29
@[simp] theorem e31_29 {v0 v2 v3 v4 v5 v8 v23 v26 v42 v47 v57 : V} : execK cf sg m c31_29 ⟨clk, [(0, v0), (2, v2), (3, v3), (4, v4), (5, v5), (8, v8), (23, v23), (26, v26), (42, v42), (47, v47), (57, v57)], tips, lk, bx⟩ k = runK cf sg tips r31_29 ⟨clk + 1, [(0, v0), (2, v2), (3, v3), (4, v4), (5, v5), (8, v8), (23, v23), (26, v26), (42, v42), (47, v47), (57, v57)], tips, lk, bx⟩ (endK 11 k) := execK_region
@[simp] def r31_31 : List VOper := [⟨some 35, .fieldA 12 (.tmp 4), none⟩, ⟨some 36, .load (.r 4) false 1 (.tmp 35), none⟩, ⟨some 37, .bin .eql (.tmp 36) (.const (.int .i64 0)), none⟩, ⟨some 38, .mv (.tmp 37), none⟩, ⟨some 39, .fieldA 12 (.tmp 4), some (38, false)⟩, ⟨some 40, .load (.r 4) false 1 (.tmp 39), some (38, false)⟩, ⟨some 41, .bin .gtr (.tmp 40) (.const (.int .i64 4094)), some (38, false)⟩, ⟨some 42, .pick (.tmp 38) (.const (.bool true)) (.tmp 41), none⟩]
def c31_31 : VC := .region r31_31
@[simp] theorem e31_31 {v0 v2 v3 v4 v5 v8 v23 v26 v42 v47 v57 : V} : execK cf sg m c31_31 ⟨clk, [(0, v0), (2, v2), (3, v3), (4, v4), (5, v5), (8, v8), (23, v23), (26, v26), (42, v42), (47, v47), (57, v57)], tips, lk, bx⟩ k = runK cf sg tips r31_31 ⟨clk + 1, [(0, v0), (2, v2), (3, v3), (4, v4), (5, v5), (8, v8), (23, v23), (26, v26), (42, v42), (47, v47), (57, v57)], tips, lk, bx⟩ (endK 11 k) := execK_region
@[simp] def r31_34 : List VOper := [⟨some 43, .build [.int .u8 0, .int .u8 0, .int .u8 0, .int .u8 0, .int .u8 0, .int .u8 0, .int .u8 0, .int .u8 0, .int .u8 0, .int .u8 0, .int .u8 0, .int .u8 0, .int .i64 0, .int .i64 0, .nils] [], none⟩, ⟨none, .store (.r 2) 15 (.tmp 2) (.tmp 43), none⟩, ⟨some 3, .mv (.const (.int .i64 5)), none⟩]
def c31_34 : VC := .region r31_34
@[simp] theorem e31_34 {v0 v2 v3 v4 v5 v8 v23 v26 v42 v47 v57 : V} : execK cf sg m c31_34 ⟨clk, [(0, v0), (2, v2), (3, v3), (4, v4), (5, v5), (8, v8), (23, v23), (26, v26), (42, v42), (47, v47), (57, v57)], tips, lk, bx⟩ k = runK cf sg tips r31_34 ⟨clk + 1, [(0, v0), (2, v2), (3, v3), (4, v4), (5, v5), (8, v8), (23, v23), (26, v26), (42, v42), (47, v47), (57, v57)], tips, lk, bx⟩ (endK 11 k) := execK_region
def c31_35 : VC := .ret
@[simp] theorem e31_35 {e : Env} : execK cf sg m c31_35 ⟨clk, e, tips, lk, bx⟩ k = execK cf sg m (.ret) ⟨clk, e, tips, lk, bx⟩ k := rfl
def c31_33 : VC := .seq c31_34 c31_35
@[simp] theorem e31_33 {e : Env} : execK cf sg m c31_33 ⟨clk, e, tips, lk, bx⟩ k = execK cf sg m (.seq c31_34 c31_35) ⟨clk, e, tips, lk, bx⟩ k := rfl
def c31_36 : VC := .skip
@[simp] theorem e31_36 {e : Env} : execK cf sg m c31_36 ⟨clk, e, tips, lk, bx⟩ k = execK cf sg m (.skip) ⟨clk, e, tips, lk, bx⟩ k := rfl
def c31_32 : VC := .cond (.tmp 42) c31_33 c31_36
@[simp] theorem e31_32 {e : Env} : execK cf sg m c31_32 ⟨clk, e, tips, lk, bx⟩ k = execK cf sg m (.cond (.tmp 42) c31_33 c31_36) ⟨clk, e, tips, lk, bx⟩ k := rfl
def c31_30 : VC := .seq c31_31 c31_32
@[simp] theorem e31_30 {e : Env} : execK cf sg m c31_30 ⟨clk, e, tips, lk, bx⟩ k = execK cf sg m (.seq c31_31 c31_32) ⟨clk, e, tips, lk, bx⟩ k := rfl
def c31_28 : VC := .seq c31_29 c31_30
@[simp] theorem e31_28 {e : Env} : execK cf sg m c31_28 ⟨clk, e, tips, lk, bx⟩ k = execK cf sg m (.seq c31_29 c31_30) ⟨clk, e, tips, lk, bx⟩ k := rfl
def c31_26 : VC := .seq c31_27 c31_28
@[simp] theorem e31_26 {e : Env} : execK cf sg m c31_26 ⟨clk, e, tips, lk, bx⟩ k = execK cf sg m (.seq c31_27 c31_28) ⟨clk, e, tips, lk, bx⟩ k := rfl
def c31_18 : VC := .seq c31_19 c31_26
@[simp] theorem e31_18 {e : Env} : execK cf sg m c31_18 ⟨clk, e, tips, lk, bx⟩ k = execK cf sg m (.seq c31_19 c31_26) ⟨clk, e, tips, lk, bx⟩ k := rfl
def c31_37 : VC := .skip
@[simp] theorem e31_37 {e : Env} : execK cf sg m c31_37 ⟨clk, e, tips, lk, bx⟩ k = execK cf sg m (.skip) ⟨clk, e, tips, lk, bx⟩ k := rfl
def c31_17 : VC := .cond (.tmp 23) c31_18 c31_37
@[simp] theorem e31_17 {e : Env} : execK cf sg m c31_17 ⟨clk, e, tips, lk, bx⟩ k = execK cf sg m (.cond (.tmp 23) c31_18 c31_37) ⟨clk, e, tips, lk, bx⟩ k := rfl
def c31_15 : VC := .seq c31_16 c31_17
@[simp] theorem e31_15 {e : Env} : execK cf sg m c31_15 ⟨clk, e, tips, lk, bx⟩ k = execK cf sg m (.seq c31_16 c31_17) ⟨clk, e, tips, lk, bx⟩ k := rfl
@[simp] def r31_39 : List VOper := [⟨some 44, .mv (.tmp 5), none⟩, ⟨some 45, .call 40 [.tmp 44] true [], none⟩, ⟨some 46, .fieldA 13 (.tmp 4), none⟩, ⟨none, .store (.r 4) 1 (.tmp 46) (.tmp 45), none⟩]
def c31_39 : VC := .region r31_39
@[simp] theorem e31_39 {v0 v2 v3 v4 v5 v8 v23 v26 v42 v47 v57 : V} : execK cf sg m c31_39 ⟨clk, [(0, v0), (2, v2), (3, v3), (4, v4), (5, v5), (8, v8), (23, v23), (26, v26), (42, v42), (47, v47), (57, v57)], tips, lk, bx⟩ k = runK cf sg tips r31_39 ⟨clk + 1, [(0, v0), (2, v2), (3, v3), (4, v4), (5, v5), (8, v8), (23, v23), (26, v26), (42, v42), (47, v47), (57, v57)], tips, lk, bx⟩ (endK 11 k) := execK_region
@[simp] def r31_43 : List VOper := [⟨some 48, .fieldA 13 (.tmp 4), none⟩, ⟨some 49, .load (.r 4) false 1 (.tmp 48), none⟩, ⟨some 50, .bin .lss (.tmp 49) (.const (.int .i64 1536)), none⟩, ⟨some 51, .mv (.tmp 50), none⟩, ⟨some 52, .fieldA 13 (.tmp 4), some (51, false)⟩, ⟨some 53, .load (.r 4) false 1 (.tmp 52), some (51, false)⟩, ⟨some 54, .bin .eql (.tmp 53) (.const (.int .i64 33024)), some (51, false)⟩, ⟨some 55, .pick (.tmp 51) (.const (.bool true)) (.tmp 54), none⟩, ⟨some 47, .mv (.tmp 55), none⟩]
def c31_43 : VC := .region r31_43
@[simp] theorem e31_43 {v0 v2 v3 v4 v5 v8 v23 v26 v42 v47 v57 : V} : execK cf sg m c31_43 ⟨clk, [(0, v0), (2, v2), (3, v3), (4, v4), (5, v5), (8, v8), (23, v23), (26, v26), (42, v42), (47, v47), (57, v57)], tips, lk, bx⟩ k = runK cf sg tips r31_43 ⟨clk + 1, [(0, v0), (2, v2), (3, v3), (4, v4), (5, v5), (8, v8), (23, v23), (26, v26), (42, v42), (47, v47), (57, v57)], tips, lk, bx⟩ (endK 11 k) := execK_region
@[simp] def r31_46 : List VOper := [⟨some 56, .build [.int .u8 0, .int .u8 0, .int .u8 0, .int .u8 0, .int .u8 0, .int .u8 0, .int .u8 0, .int .u8 0, .int .u8 0, .int .u8 0, .int .u8 0, .int .u8 0, .int .i64 0, .int .i64 0, .nils] [], none⟩, ⟨none, .store (.r 2) 15 (.tmp 2) (.tmp 56), none⟩, ⟨some 3, .mv (.const (.int .i64 5)), none⟩]
def c31_46 : VC := .region r31_46
@[simp] theorem e31_46 {v0 v2 v3 v4 v5 v8 v23 v26 v42 v47 v57 : V} : execK cf sg m c31_46 ⟨clk, [(0, v0), (2, v2), (3, v3), (4, v4), (5, v5), (8, v8), (23, v23), (26, v26), (42, v42), (47, v47), (57, v57)], tips, lk, bx⟩ k = runK cf sg tips r31_46 ⟨clk + 1, [(0, v0), (2, v2), (3, v3), (4, v4), (5, v5), (8, v8), (23, v23), (26, v26), (42, v42), (47, v47), (57, v57)], tips, lk, bx⟩ (endK 11 k) := execK_region
def c31_47 : VC := .ret
@[simp] theorem e31_47 {e : Env} : execK cf sg m c31_47 ⟨clk, e, tips, lk, bx⟩ k = execK cf sg m (.ret) ⟨clk, e, tips, lk, bx⟩ k := rfl
def c31_45 : VC := .seq c31_46 c31_47
@[simp] theorem e31_45 {e : Env} : execK cf sg m c31_45 ⟨clk, e, tips, lk, bx⟩ k = execK cf sg m (.seq c31_46 c31_47) ⟨clk, e, tips, lk, bx⟩ k := rfl
@[simp] def r31_49 : List VOper := [⟨some 58, .mv (.tmp 5), none⟩, ⟨some 59, .len false (.tmp 58), none⟩, ⟨some 60, .bin .sub (.tmp 59) (.const (.int .i64 2)), none⟩, ⟨some 61, .bin .gtr (.tmp 60) (.const (.int .i64 1500)), none⟩, ⟨some 57, .mv (.tmp 61), none⟩]
def c31_49 : VC := .region r31_49
@[simp] theorem e31_49 {v0 v2 v3 v4 v5 v8 v23 v26 v42 v47 v57 : V} : execK cf sg m c31_49 ⟨clk, [(0, v0), (2, v2), (3, v3), (4, v4), (5, v5), (8, v8), (23, v23), (26, v26), (42, v42), (47, v47), (57, v57)], tips, lk, bx⟩ k = runK cf sg tips r31_49 ⟨clk + 1, [(0, v0), (2, v2), (3, v3), (4, v4), (5, v5), (8, v8), (23, v23), (26, v26), (42, v42), (47, v47), (57, v57)], tips, lk, bx⟩ (endK 11 k) := execK_region
@[simp] def r31_52 : List VOper := [⟨some 62, .build [.int .u8 0, .int .u8 0, .int .u8 0, .int .u8 0, .int .u8 0, .int .u8 0, .int .u8 0, .int .u8 0, .int .u8 0, .int .u8 0, .int .u8 0, .int .u8 0, .int .i64 0, .int .i64 0, .nils] [], none⟩, ⟨none, .store (.r 2) 15 (.tmp 2) (.tmp 62), none⟩, ⟨some 3, .mv (.const (.int .i64 3)), none⟩]
def c31_52 : VC := .region r31_52
@[simp] theorem e31_52 {v0 v2 v3 v4 v5 v8 v23 v26 v42 v47 v57 : V} : execK cf sg m c31_52 ⟨clk, [(0, v0), (2, v2), (3, v3), (4, v4), (5, v5), (8, v8), (23, v23), (26, v26), (42, v42), (47, v47), (57, v57)], tips, lk, bx⟩ k = runK cf sg tips r31_52 ⟨clk + 1, [(0, v0), (2, v2), (3, v3), (4, v4), (5, v5), (8, v8), (23, v23), (26, v26), (42, v42), (47, v47), (57, v57)], tips, lk, bx⟩ (endK 11 k) := execK_region
def c31_53 : VC := .ret
@[simp] theorem e31_53 {e : Env} : execK cf sg m c31_53 ⟨clk, e, tips, lk, bx⟩ k = execK cf sg m (.ret) ⟨clk, e, tips, lk, bx⟩ k := rfl
def c31_51 : VC := .seq c31_52 c31_53
@[simp] theorem e31_51 {e : Env} : execK cf sg m c31_51 ⟨clk, e, tips, lk, bx⟩ k = execK cf sg m (.seq c31_52 c31_53) ⟨clk, e, tips, lk, bx⟩ k := rfl
def c31_54 : VC := .skip
@[simp] theorem e31_54 {e : Env} : execK cf sg m c31_54 ⟨clk, e, tips, lk, bx⟩ k = execK cf sg m (.skip) ⟨clk, e, tips, lk, bx⟩ k := rfl
def c31_50 : VC := .cond (.tmp 57) c31_51 c31_54
@[simp] theorem e31_50 {e : Env} : execK cf sg m c31_50 ⟨clk, e, tips, lk, bx⟩ k = execK cf sg m (.cond (.tmp 57) c31_51 c31_54) ⟨clk, e, tips, lk, bx⟩ k := rfl
def c31_48 : VC := .seq c31_49 c31_50
@[simp] theorem e31_48 {e : Env} : execK cf sg m c31_48 ⟨clk, e, tips, lk, bx⟩ k = execK cf sg m (.seq c31_49 c31_50) ⟨clk, e, tips, lk, bx⟩ k := rfl
def c31_44 : VC := .cond (.tmp 47) c31_45 c31_48
@[simp] theorem e31_44 {e : Env} : execK cf sg m c31_44 ⟨clk, e, tips, lk, bx⟩ k = execK cf sg m (.cond (.tmp 47) c31_45 c31_48) ⟨clk, e, tips, lk, bx⟩ k := rfl
def c31_42 : VC := .seq c31_43 c31_44
@[simp] theorem e31_42 {e : Env} : execK cf sg m c31_42 ⟨clk, e, tips, lk, bx⟩ k = execK cf sg m (.seq c31_43 c31_44) ⟨clk, e, tips, lk, bx⟩ k := rfl
def c31_41 : VC := .block 0 c31_42
@[simp] theorem e31_41 {e : Env} : execK cf sg m c31_41 ⟨clk, e, tips, lk, bx⟩ k = execK cf sg m (.block 0 c31_42) ⟨clk, e, tips, lk, bx⟩ k := rfl
@[simp] def r31_56 : List VOper := [⟨some 63, .fieldA 14 (.tmp 4), none⟩, ⟨some 64, .load (.r 4) false 1 (.tmp 63), none⟩, ⟨some 65, .mv (.tmp 5), none⟩, ⟨some 66, .cut 1 (.tmp 65) (some (.const (.int .i64 2))) none, none⟩, ⟨some 67, .append 1 1 false (.tmp 64) (.tmp 66) [], none⟩, ⟨some 68, .fieldA 14 (.tmp 4), none⟩, ⟨none, .store (.r 4) 1 (.tmp 68) (.tmp 67), none⟩]
def c31_56 : VC := .region r31_56
@[simp] theorem e31_56 {v0 v2 v3 v4 v5 v8 v23 v26 v42 v47 v57 : V} : execK cf sg m c31_56 ⟨clk, [(0, v0), (2, v2), (3, v3), (4, v4), (5, v5), (8, v8), (23, v23), (26, v26), (42, v42), (47, v47), (57, v57)], tips, lk, bx⟩ k = runK cf sg tips r31_56 ⟨clk + 1, [(0, v0), (2, v2), (3, v3), (4, v4), (5, v5), (8, v8), (23, v23), (26, v26), (42, v42), (47, v47), (57, v57)], tips, lk, bx⟩ (endK 11 k) := execK_region
@[simp] def r31_58 : List VOper := [⟨some 69, .load (.r 4) true 15 (.tmp 4), none⟩, ⟨none, .store (.r 2) 15 (.tmp 2) (.tmp 69), none⟩, ⟨some 3, .mv (.const (.int .i64 0)), none⟩]
def c31_58 : VC := .region r31_58
@[simp] theorem e31_58 {v0 v2 v3 v4 v5 v8 v23 v26 v42 v47 v57 : V} : execK cf sg m c31_58 ⟨clk, [(0, v0), (2, v2), (3, v3), (4, v4), (5, v5), (8, v8), (23, v23), (26, v26), (42, v42), (47, v47), (57, v57)], tips, lk, bx⟩ k = runK cf sg tips r31_58 ⟨clk + 1, [(0, v0), (2, v2), (3, v3), (4, v4), (5, v5), (8, v8), (23, v23), (26, v26), (42, v42), (47, v47), (57, v57)], tips, lk, bx⟩ (endK 11 k) := execK_region
def c31_59 : VC := .ret
@[simp] theorem e31_59 {e : Env} : execK cf sg m c31_59 ⟨clk, e, tips, lk, bx⟩ k = execK cf sg m (.ret) ⟨clk, e, tips, lk, bx⟩ k := rfl
def c31_57 : VC := .seq c31_58 c31_59
@[simp] theorem e31_57 {e : Env} : execK cf sg m c31_57 ⟨clk, e, tips, lk, bx⟩ k = execK cf sg m (.seq c31_58 c31_59) ⟨clk, e, tips, lk, bx⟩ k := rfl
def c31_55 : VC := .seq c31_56 c31_57
@[simp] theorem e31_55 {e : Env} : execK cf sg m c31_55 ⟨clk, e, tips, lk, bx⟩ k = execK cf sg m (.seq c31_56 c31_57) ⟨clk, e, tips, lk, bx⟩ k := rfl
def c31_40 : VC := .seq c31_41 c31_55
@[simp] theorem e31_40 {e : Env} : execK cf sg m c31_40 ⟨clk, e, tips, lk, bx⟩ k = execK cf sg m (.seq c31_41 c31_55) ⟨clk, e, tips, lk, bx⟩ k := rfl
def c31_38 : VC := .seq c31_39 c31_40
@[simp] theorem e31_38 {e : Env} : execK cf sg m c31_38 ⟨clk, e, tips, lk, bx⟩ k = execK cf sg m (.seq c31_39 c31_40) ⟨clk, e, tips, lk, bx⟩ k := rfl
def c31_14 : VC := .seq c31_15 c31_38
@[simp] theorem e31_14 {e : Env} : execK cf sg m c31_14 ⟨clk, e, tips, lk, bx⟩ k = execK cf sg m (.seq c31_15 c31_38) ⟨clk, e, tips, lk, bx⟩ k := rfl
def c31_12 : VC := .seq c31_13 c31_14
@[simp] theorem e31_12 {e : Env} : execK cf sg m c31_12 ⟨clk, e, tips, lk, bx⟩ k = execK cf sg m (.seq c31_13 c31_14) ⟨clk, e, tips, lk, bx⟩ k := rfl
def c31_10 : VC := .seq c31_11 c31_12
@[simp] theorem e31_10 {e : Env} : execK cf sg m c31_10 ⟨clk, e, tips, lk, bx⟩ k = execK cf sg m (.seq c31_11 c31_12) ⟨clk, e, tips, lk, bx⟩ k := rfl
def c31_2 : VC := .seq c31_3 c31_10
@[simp] theorem e31_2 {e : Env} : execK cf sg m c31_2 ⟨clk, e, tips, lk, bx⟩ k = execK cf sg m (.seq c31_3 c31_10) ⟨clk, e, tips, lk, bx⟩ k := rfl
def c31_0 : VC := .seq c31_1 c31_2
@[simp] theorem e31_0 {e : Env} : execK cf sg m c31_0 ⟨clk, e, tips, lk, bx⟩ k = execK cf sg m (.seq c31_1 c31_2) ⟨clk, e, tips, lk, bx⟩ k := rfl
def hh31 : Hints := { esc := [], rt := [(2, .r 2), (12, .e []), (16, .e []), (4, .r 4), (32, .r 4), (35, .r 4), (39, .r 4), (46, .r 4), (48, .r 4), (52, .r 4), (63, .r 4), (68, .r 4)], cut := [], quiet := [22, 30, 45], avoid := [(13, [4]), (17, [4])] }
def vf31 : VF := ⟨[0, 2, 3, 4, 5, 8, 23, 26, 42, 47, 57], [], true, c31_0, [.cell true 15 2, .tmp 3]⟩
@[simp] theorem res31 : vf31.res = [.cell true 15 2, .tmp 3] := rfl
theorem tab31 : compileFn Try.prog hh31 vf31.kept vf31.cons Try.f31 = some vf31 := by kernel_rfl

/- exchangepoint/exchangepointref04.Decode -/
@[simp] def r32_1 : List VOper := [⟨some 2, .allocR [.int .u8 0, .int .u8 0, .int .u8 0, .int .u8 0, .int .u8 0, .int .u8 0, .int .u8 0, .int .u8 0, .int .u8 0, .int .u8 0, .int .u8 0, .int .u8 0, .int .i64 0, .int .i64 0, .nils], none⟩, ⟨some 3, .mv (.const (.int .i64 0)), none⟩]
def c32_1 : VC := .region r32_1
@[simp] theorem e32_1 {v0 v2 v3 v4 v5 v8 v30 v33 v54 v73 v83 : V} : execK cf sg m c32_1 ⟨clk, [(0, v0), (2, v2), (3, v3), (4, v4), (5, v5), (8, v8), (30, v30), (33, v33), (54, v54), (73, v73), (83, v83)], tips, lk, bx⟩ k = runK cf sg tips r32_1 ⟨clk + 1, [(0, v0), (2, v2), (3, v3), (4, v4), (5, v5), (8, v8), (30, v30), (33, v33), (54, v54), (73, v73), (83, v83)], tips, lk, bx⟩ (endK 11 k) := execK_region
@[simp] def r32_4 : List VOper := [⟨some 6, .mv (.tmp 0), none⟩, ⟨some 7, .len false (.tmp 6), none⟩, ⟨some 8, .bin .lss (.tmp 7) (.const (.int .i64 14)), none⟩]
def c32_4 : VC := .region r32_4
@[simp] theorem e32_4 {v0 v2 v3 v4 v5 v8 v30 v33 v54 v73 v83 : V} : execK cf sg m c32_4 ⟨clk, [(0, v0), (2, v2), (3, v3), (4, v4), (5, v5), (8, v8), (30, v30), (33, v33), (54, v54), (73, v73), (83, v83)], tips, lk, bx⟩ k = runK cf sg tips r32_4 ⟨clk + 1, [(0, v0), (2, v2), (3, v3), (4, v4), (5, v5), (8, v8), (30, v30), (33, v33), (54, v54), (73, v73), (83, v83)], tips, lk, bx⟩ (endK 11 k) := execK_region
@[simp] def r32_7 : List VOper := [⟨some 9, .build [.int .u8 0, .int .u8 0, .int .u8 0, .int .u8 0, .int .u8 0, .int .u8 0, .int .u8 0, .int .u8 0, .int .u8 0, .int .u8 0, .int .u8 0, .int .u8 0, .int .i64 0, .int .i64 0, .nils] [], none⟩, ⟨none, .store (.r 2) 15 (.tmp 2) (.tmp 9), none⟩, ⟨some 3, .mv (.const (.int .i64 4)), none⟩]
def c32_7 : VC := .region r32_7
@[simp] theorem e32_7 {v0 v2 v3 v4 v5 v8 v30 v33 v54 v73 v83 : V} : execK cf sg m c32_7 ⟨clk, [(0, v0), (2, v2), (3, v3), (4, v4), (5, v5), (8, v8), (30, v30), (33, v33), (54, v54), (73, v73), (83, v83)], tips, lk, bx⟩ k = runK cf sg tips r32_7 ⟨clk + 1, [(0, v0), (2, v2), (3, v3), (4, v4), (5, v5), (8, v8), (30, v30), (33, v33), (54, v54), (73, v73), (83, v83)], tips, lk, bx⟩ (endK 11 k) := execK_region
def c32_8 : VC := .ret
@[simp] theorem e32_8 {e : Env} : execK cf sg m c32_8 ⟨clk, e, tips, lk, bx⟩ k = execK cf sg m (.ret) ⟨clk, e, tips, lk, bx⟩ k := rfl
def c32_6 : VC := .seq c32_7 c32_8
@[simp] theorem e32_6 {e : Env} : execK cf sg m c32_6 ⟨clk, e, tips, lk, bx⟩ k = execK cf sg m (.seq c32_7 c32_8) ⟨clk, e, tips, lk, bx⟩ k := rfl
def c32_9 : VC := .skip
@[simp] theorem e32_9 {e : Env} : execK cf sg m c32_9 ⟨clk, e, tips, lk, bx⟩ k = execK cf sg m (.skip) ⟨clk, e, tips, lk, bx⟩ k := rfl
def c32_5 : VC := .cond (.tmp 8) c32_6 c32_9
@[simp] theorem e32_5 {e : Env} : execK cf sg m c32_5 ⟨clk, e, tips, lk, bx⟩ k = execK cf sg m (.cond (.tmp 8) c32_6 c32_9) ⟨clk, e, tips, lk, bx⟩ k := rfl
def c32_3 : VC := .seq c32_4 c32_5
@[simp] theorem e32_3 {e : Env} : execK cf sg m c32_3 ⟨clk, e, tips, lk, bx⟩ k = execK cf sg m (.seq c32_4 c32_5) ⟨clk, e, tips, lk, bx⟩ k := rfl
@[simp] def r32_11 : List VOper := [⟨some 10, .mv (.tmp 0), none⟩, ⟨some 11, .cut 1 (.tmp 10) none (some (.const (.int .i64 6))), none⟩, ⟨some 12, .arrptr 6 1 (.tmp 11), none⟩, ⟨some 13, .load (.e [4]) true 6 (.tmp 12), none⟩, ⟨some 14, .mv (.tmp 0), none⟩, ⟨some 15, .cut 1 (.tmp 14) (some (.const (.int .i64 6))) (some (.const (.int .i64 12))), none⟩, ⟨some 16, .arrptr 6 1 (.tmp 15), none⟩, ⟨some 17, .load (.e [4]) true 6 (.tmp 16), none⟩, ⟨some 18, .build [.int .u8 0, .int .u8 0, .int .u8 0, .int .u8 0, .int .u8 0, .int .u8 0, .int .u8 0, .int .u8 0, .int .u8 0, .int .u8 0, .int .u8 0, .int .u8 0, .int .i64 0, .int .i64 0, .nils] [(0, 6, .tmp 13), (6, 6, .tmp 17)], none⟩, ⟨some 4, .allocR [.int .u8 0, .int .u8 0, .int .u8 0, .int .u8 0, .int .u8 0, .int .u8 0, .int .u8 0, .int .u8 0, .int .u8 0, .int .u8 0, .int .u8 0, .int .u8 0, .int .i64 0, .int .i64 0, .nils], none⟩, ⟨none, .store (.r 4) 15 (.tmp 4) (.tmp 18), none⟩]
def c32_11 : VC := .region r32_11
@[simp] theorem e32_11 {v0 v2 v3 v4 v5 v8 v30 v33 v54 v73 v83 : V} : execK cf sg m c32_11 ⟨clk, [(0, v0), (2, v2), (3, v3), (4, v4), (5, v5), (8, v8), (30, v30), (33, v33), (54, v54), (73, v73), (83, v83)], tips, lk, bx⟩ k = runK cf sg tips r32_11 ⟨clk + 1, [(0, v0), (2, v2), (3, v3), (4, v4), (5, v5), (8, v8), (30, v30), (33, v33), (54, v54), (73, v73), (83, v83)], tips, lk, bx⟩ (endK 11 k) := execK_region
@[simp] def r32_13 : List VOper := [⟨some 19, .mv (.tmp 0), none⟩, ⟨some 20, .cut 1 (.tmp 19) (some (.const (.int .i64 12))) none, none⟩, ⟨some 5, .mv (.tmp 20), none⟩]
def c32_13 : VC := .region r32_13
@[simp] theorem e32_13 {v0 v2 v3 v4 v5 v8 v30 v33 v54 v73 v83 : V} : execK cf sg m c32_13 ⟨clk, [(0, v0), (2, v2), (3, v3), (4, v4), (5, v5), (8, v8), (30, v30), (33, v33), (54, v54), (73, v73), (83, v83)], tips, lk, bx⟩ k = runK cf sg tips r32_13 ⟨clk + 1, [(0, v0), (2, v2), (3, v3), (4, v4), (5, v5), (8, v8), (30, v30), (33, v33), (54, v54), (73, v73), (83, v83)], tips, lk, bx⟩ (endK 11 k) := execK_region
@[simp] def r32_16 : List VOper := [⟨some 21, .mv (.tmp 5), none⟩, ⟨some 22, .idxS 1 (.tmp 21) (.const (.int .i64 0)), none⟩, ⟨some 23, .load (.e []) false 1 (.tmp 22), none⟩, ⟨some 24, .bin .eql (.tmp 23) (.const (.int .u8 129)), none⟩, ⟨some 25, .mv (.tmp 24), none⟩, ⟨some 26, .mv (.tmp 5), some (25, true)⟩, ⟨some 27, .idxS 1 (.tmp 26) (.const (.int .i64 1)), some (25, true)⟩, ⟨some 28, .load (.e []) false 1 (.tmp 27), some (25, true)⟩, ⟨some 29, .bin .eql (.tmp 28) (.const (.int .u8 0)), some (25, true)⟩, ⟨some 30, .pick (.tmp 25) (.tmp 29) (.const (.bool false)), none⟩]
def c32_16 : VC := .region r32_16
@[simp] theorem e32_16 {v0 v2 v3 v4 v5 v8 v30 v33 v54 v73 v83 : V} : execK cf sg m c32_16 ⟨clk, [(0, v0), (2, v2), (3, v3), (4, v4), (5, v5), (8, v8), (30, v30), (33, v33), (54, v54), (73, v73), (83, v83)], tips, lk, bx⟩ k = runK cf sg tips r32_16 ⟨clk + 1, [(0, v0), (2, v2), (3, v3), (4, v4), (5, v5), (8, v8), (30, v30), (33, v33), (54, v54), (73, v73), (83, v83)], tips, lk, bx⟩ (endK 11 k) := execK_region
@[simp] def r32_20 : List VOper := [⟨some 31, .mv (.tmp 0), none⟩, ⟨some 32, .len false (.tmp 31), none⟩, ⟨some 33, .bin .lss (.tmp 32) (.const (.int .i64 18)), none⟩]
def c32_20 : VC := .region r32_20
@[simp] theorem e32_20 {v0 v2 v3 v4 v5 v8 v30 v33 v54 v73 v83 : V} : execK cf sg m c32_20 ⟨clk, [(0, v0), (2, v2), (3, v3), (4, v4), (5, v5), (8, v8), (30, v30), (33, v33), (54, v54), (73, v73), (83, v83)], tips, lk, bx⟩ k = runK cf sg tips r32_20 ⟨clk + 1, [(0, v0), (2, v2), (3, v3), (4, v4), (5, v5), (8, v8), (30, v30), (33, v33), (54, v54), (73, v73), (83, v83)], tips, lk, bx⟩ (endK 11 k) := execK_region
@[simp] def r32_23 : List VOper := [⟨some 34, .build [.int .u8 0, .int .u8 0, .int .u8 0, .int .u8 0, .int .u8 0, .int .u8 0, .int .u8 0, .int .u8 0, .int .u8 0, .int .u8 0, .int .u8 0, .int .u8 0, .int .i64 0, .int .i64 0, .nils] [], none⟩, ⟨none, .store (.r 2) 15 (.tmp 2) (.tmp 34), none⟩, ⟨some 3, .mv (.const (.int .i64 4)), none⟩]
def c32_23 : VC := .region r32_23
@[simp] theorem e32_23 {v0 v2 v3 v4 v5 v8 v30 v33 v54 v73 v83 : V} : execK cf sg m c32_23 ⟨clk, [(0, v0), (2, v2), (3, v3), (4, v4), (5, v5), (8, v8), (30, v30), (33, v33), (54, v54), (73, v73), (83, v83)], tips, lk, bx⟩ k = runK cf sg tips r32_23 ⟨clk + 1, [(0, v0), (2, v2), (3, v3), (4, v4), (5, v5), (8, v8), (30, v30), (33, v33), (54, v54), (73, v73), (83, v83)], tips, lk, bx⟩ (endK 11 k) := execK_region
def c32_24 : VC := .ret
@[simp] theorem e32_24 {e : Env} : execK cf sg m c32_24 ⟨clk, e, tips, lk, bx⟩ k = execK cf sg m (.ret) ⟨clk, e, tips, lk, bx⟩ k := rfl
def c32_22 : VC := .seq c32_23 c32_24
@[simp] theorem e32_22 {e : Env} : execK cf sg m c32_22 ⟨clk, e, tips, lk, bx⟩ k = execK cf sg m (.seq c32_23 c32_24) ⟨clk, e, tips, lk, bx⟩ k := rfl
def c32_25 : VC := .skip
@[simp] theorem e32_25 {e : Env} : execK cf sg m c32_25 ⟨clk, e, tips, lk, bx⟩ k = execK cf sg m (.skip) ⟨clk, e, tips, lk, bx⟩ k := rfl
def c32_21 : VC := .cond (.tmp 33) c32_22 c32_25
@[simp] theorem e32_21 {e : Env} : execK cf sg m c32_21 ⟨clk, e, tips, lk, bx⟩ k = execK cf sg m (.cond (.tmp 33) c32_22 c32_25) ⟨clk, e, tips, lk, bx⟩ k := rfl
def c32_19 : VC := .seq c32_20 c32_21
@[simp] theorem e32_19 {e : Env} : execK cf sg m c32_19 ⟨clk, e, tips, lk, bx⟩ k = execK cf sg m (.seq c32_20 c32_21) ⟨clk, e, tips, lk, bx⟩ k := rfl
@[simp] def r32_27 : List VOper := [⟨some 35, .mv (.tmp 5), none⟩, ⟨some 36, .idxS 1 (.tmp 35) (.const (.int .i64 2)), none⟩, ⟨some 37, .load (.e []) false 1 (.tmp 36), none⟩, ⟨some 38, .bin .and (.tmp 37) (.const (.int .u8 15)), none⟩, ⟨some 39, .convI .i64 (.tmp 38), none⟩, ⟨some 40, .bin .shl (.tmp 39) (.const (.int .u64 8)), none⟩, ⟨some 41, .mv (.tmp 5), none⟩, ⟨some 42, .idxS 1 (.tmp 41) (.const (.int .i64 3)), none⟩, ⟨some 43, .load (.e []) false 1 (.tmp 42), none⟩, ⟨some 44, .convI .i64 (.tmp 43), none⟩, ⟨some 45, .bin .or (.tmp 40) (.tmp 44), none⟩, ⟨some 46, .fieldA 12 (.tmp 4), none⟩, ⟨none, .store (.r 4) 1 (.tmp 46) (.tmp 45), none⟩]
def c32_27 : VC := .region r32_27
@[simp] theorem e32_27 {v0 v2 v3 v4 v5 v8 v30 v33 v54 v73 v83 : V} : execK cf sg m c32_27 ⟨clk, [(0, v0), (2, v2), (3, v3), (4, v4), (5, v5), (8, v8), (30, v30), (33, v33), (54, v54), (73, v73), (83, v83)], tips, lk, bx⟩ k = runK cf sg tips r32_27 ⟨clk + 1, [(0, v0), (2, v2), (3, v3), (4, v4), (5, v5), (8, v8), (30, v30), (33, v33), (54, v54), (73, v73), (83, v83)], tips, lk, bx⟩ (endK 11 k) := execK_region
@[simp] def r32_30 : List VOper := [⟨some 47, .fieldA 12 (.tmp 4), none⟩, ⟨some 48, .load (.r 4) false 1 (.tmp 47), none⟩, ⟨some 49, .bin .eql (.tmp 48) (.const (.int .i64 0)), none⟩, ⟨some 50, .mv (.tmp 49), none⟩, ⟨some 51, .fieldA 12 (.tmp 4), some (50, false)⟩, ⟨some 52, .load (.r 4) false 1 (.tmp 51), some (50, false)⟩, ⟨some 53, .bin .gtr (.tmp 52) (.const (.int .i64 4094)), some (50, false)⟩, ⟨some 54, .pick (.tmp 50) (.const (.bool true)) (.tmp 53), none⟩]
def c32_30 : VC := .region r32_30
@[simp] theorem e32_30 {v0 v2 v3 v4 v5 v8 v30 v33 v54 v73 v83 : V} : execK cf sg m c32_30 ⟨clk, [(0, v0), (2, v2), (3, v3), (4, v4), (5, v5), (8, v8), (30, v30), (33, v33), (54, v54), (73, v73), (83, v83)], tips, lk, bx⟩ k = runK cf sg tips r32_30 ⟨clk + 1, [(0, v0), (2, v2), (3, v3), (4, v4), (5, v5), (8, v8), (30, v30), (33, v33), (54, v54), (73, v73), (83, v83)], tips, lk, bx⟩ (endK 11 k) := execK_region
@[simp] def r32_33 : List VOper := [⟨some 55, .build [.int .u8 0, .int .u8 0, .int .u8 0, .int .u8 0, .int .u8 0, .int .u8 0, .int .u8 0, .int .u8 0, .int .u8 0, .int .u8 0, .int .u8 0, .int .u8 0, .int .i64 0, .int .i64 0, .nils] [], none⟩, ⟨none, .store (.r 2) 15 (.tmp 2) (.tmp 55), none⟩, ⟨some 3, .mv (.const (.int .i64 5)), none⟩]
def c32_33 : VC := .region r32_33
@[simp] theorem e32_33 {v0 v2 v3 v4 v5 v8 v30 v33 v54 v73 v83 : V} : execK cf sg m c32_33 ⟨clk, [(0, v0), (2, v2), (3, v3), (4, v4), (5, v5), (8, v8), (30, v30), (33, v33), (54, v54), (73, v73), (83, v83)], tips, lk, bx⟩ k = runK cf sg tips r32_33 ⟨clk + 1, [(0, v0), (2, v2), (3, v3), (4, v4), (5, v5), (8, v8), (30, v30), (33, v33), (54, v54), (73, v73), (83, v83)], tips, lk, bx⟩ (endK 11 k) := execK_region
def c32_34 : VC := .ret
@[simp] theorem e32_34 {e : Env} : execK cf sg m c32_34 ⟨clk, e, tips, lk, bx⟩ k = execK cf sg m (.ret) ⟨clk, e, tips, lk, bx⟩ k := rfl
def c32_32 : VC := .seq c32_33 c32_34
@[simp] theorem e32_32 {e : Env} : execK cf sg m c32_32 ⟨clk, e, tips, lk, bx⟩ k = execK cf sg m (.seq c32_33 c32_34) ⟨clk, e, tips, lk, bx⟩ k := rfl
def c32_35 : VC := .skip
@[simp] theorem e32_35 {e : Env} : execK cf sg m c32_35 ⟨clk, e, tips, lk, bx⟩ k = execK cf sg m (.skip) ⟨clk, e, tips, lk, bx⟩ k := rfl
def c32_31 : VC := .cond (.tmp 54) c32_32 c32_35
@[simp] theorem e32_31 {e : Env} : execK cf sg m c32_31 ⟨clk, e, tips, lk, bx⟩ k = execK cf sg m (.cond (.tmp 54) c32_32 c32_35) ⟨clk, e, tips, lk, bx⟩ k := rfl
def c32_29 : VC := .seq c32_30 c32_31
@[simp] theorem e32_29 {e : Env} : execK cf sg m c32_29 ⟨clk, e, tips, lk, bx⟩ k = execK cf sg m (.seq c32_30 c32_31) ⟨clk, e, tips, lk, bx⟩ k := rfl
@[simp] def r32_36 : List VOper := [⟨some 56, .mv (.tmp 5), none⟩, ⟨some 57, .cut 1 (.tmp 56) (some (.const (.int .i64 4))) none, none⟩, ⟨some 5, .mv (.tmp 57), none⟩]
def c32_36 : VC := .region r32_36
@[simp] theorem e32_36 {v0 v2 v3 v4 v5 v8 v30 v33 v54 v73 v83 : V} : execK cf sg m c32_36 ⟨clk, [(0, v0), (2, v2), (3, v3), (4, v4), (5, v5), (8, v8), (30, v30), (33, v33), (54, v54), (73, v73), (83, v83)], tips, lk, bx⟩ k = runK cf sg tips r32_36 ⟨clk + 1, [(0, v0), (2, v2), (3, v3), (4, v4), (5, v5), (8, v8), (30, v30), (33, v33), (54, v54), (73, v73), (83, v83)], tips, lk, bx⟩ (endK 11 k) := execK_region
def c32_28 : VC := .seq c32_29 c32_36
@[simp] theorem e32_28 {e : Env} : execK cf sg m c32_28 ⟨clk, e, tips, lk, bx⟩ k = execK cf sg m (.seq c32_29 c32_36) ⟨clk, e, tips, lk, bx⟩ k := rfl
def c32_26 : VC := .seq c32_27 c32_28
@[simp] theorem e32_26 {e : Env} : execK cf sg m c32_26 ⟨clk, e, tips, lk, bx⟩ k = execK cf sg m (.seq c32_27 c32_28) ⟨clk, e, tips, lk, bx⟩ k := rfl
def c32_18 : VC := .seq c32_19 c32_26
@[simp] theorem e32_18 {e : Env} : execK cf sg m c32_18 ⟨clk, e, tips, lk, bx⟩ k = execK cf sg m (.seq c32_19 c32_26) ⟨clk, e, tips, lk, bx⟩ k := rfl
def c32_37 : VC := .skip
@[simp] theorem e32_37 {e : Env} : execK cf sg m c32_37 ⟨clk, e, tips, lk, bx⟩ k = execK cf sg m (.skip) ⟨clk, e, tips, lk, bx⟩ k := rfl
def c32_17 : VC := .cond (.tmp 30) c32_18 c32_37
@[simp] theorem e32_17 {e : Env} : execK cf sg m c32_17 ⟨clk, e, tips, lk, bx⟩ k = execK cf sg m (.cond (.tmp 30) c32_18 c32_37) ⟨clk, e, tips, lk, bx⟩ k := rfl
def c32_15 : VC := .seq c32_16 c32_17
@[simp] theorem e32_15 {e : Env} : execK cf sg m c32_15 ⟨clk, e, tips, lk, bx⟩ k = execK cf sg m (.seq c32_16 c32_17) ⟨clk, e, tips, lk, bx⟩ k := rfl
@[simp] def r32_39 : List VOper := [⟨some 58, .mv (.tmp 5), none⟩, ⟨some 59, .idxS 1 (.tmp 58) (.const (.int .i64 0)), none⟩, ⟨some 60, .load (.e []) false 1 (.tmp 59), none⟩, ⟨some 61, .convI .i64 (.tmp 60), none⟩, ⟨some 62, .bin .shl (.tmp 61) (.const (.int .u64 8)), none⟩, ⟨some 63, .mv (.tmp 5), none⟩, ⟨some 64, .idxS 1 (.tmp 63) (.const (.int .i64 1)), none⟩, ⟨some 65, .load (.e []) false 1 (.tmp 64), none⟩, ⟨some 66, .convI .i64 (.tmp 65), none⟩, ⟨some 67, .bin .or (.tmp 62) (.tmp 66), none⟩, ⟨some 68, .fieldA 13 (.tmp 4), none⟩, ⟨none, .store (.r 4) 1 (.tmp 68) (.tmp 67), none⟩]
def c32_39 : VC := .region r32_39
@[simp] theorem e32_39 {v0 v2 v3 v4 v5 v8 v30 v33 v54 v73 v83 : V} : execK cf sg m c32_39 ⟨clk, [(0, v0), (2, v2), (3, v3), (4, v4), (5, v5), (8, v8), (30, v30), (33, v33), (54, v54), (73, v73), (83, v83)], tips, lk, bx⟩ k = runK cf sg tips r32_39 ⟨clk + 1, [(0, v0), (2, v2), (3, v3), (4, v4), (5, v5), (8, v8), (30, v30), (33, v33), (54, v54), (73, v73), (83, v83)], tips, lk, bx⟩ (endK 11 k) := execK_region
@[simp] def r32_41 : List VOper := [⟨some 69, .mv (.tmp 5), none⟩, ⟨some 70, .cut 1 (.tmp 69) (some (.const (.int .i64 2))) none, none⟩, ⟨some 71, .append 1 1 false (.const .nils) (.tmp 70) [], none⟩, ⟨some 72, .fieldA 14 (.tmp 4), none⟩, ⟨none, .store (.r 4) 1 (.tmp 72) (.tmp 71), none⟩]
def c32_41 : VC := .region r32_41
@[simp] theorem e32_41 {v0 v2 v3 v4 v5 v8 v30 v33 v54 v73 v83 : V} : execK cf sg m c32_41 ⟨clk, [(0, v0), (2, v2), (3, v3), (4, v4), (5, v5), (8, v8), (30, v30), (33, v33), (54, v54), (73, v73), (83, v83)], tips, lk, bx⟩ k = runK cf sg tips r32_41 ⟨clk + 1, [(0, v0), (2, v2), (3, v3), (4, v4), (5, v5), (8, v8), (30, v30), (33, v33), (54, v54), (73, v73), (83, v83)], tips, lk, bx⟩ (endK 11 k) := execK_region
@[simp] def r32_45 : List VOper := [⟨some 74, .fieldA 13 (.tmp 4), none⟩, ⟨some 75, .load (.r 4) false 1 (.tmp 74), none⟩, ⟨some 76, .bin .lss (.tmp 75) (.const (.int .i64 1536)), none⟩, ⟨some 77, .mv (.tmp 76), none⟩, ⟨some 78, .fieldA 13 (.tmp 4), some (77, false)⟩, ⟨some 79, .load (.r 4) false 1 (.tmp 78), some (77, false)⟩, ⟨some 80, .bin .eql (.tmp 79) (.const (.int .i64 33024)), some (77, false)⟩, ⟨some 81, .pick (.tmp 77) (.const (.bool true)) (.tmp 80), none⟩, ⟨some 73, .mv (.tmp 81), none⟩]
def c32_45 : VC := .region r32_45
@[simp] theorem e32_45 {v0 v2 v3 v4 v5 v8 v30 v33 v54 v73 v83 : V} : execK cf sg m c32_45 ⟨clk, [(0, v0), (2, v2), (3, v3), (4, v4), (5, v5), (8, v8), (30, v30), (33, v33), (54, v54), (73, v73), (83, v83)], tips, lk, bx⟩ k = runK cf sg tips r32_45 ⟨clk + 1, [(0, v0), (2, v2), (3, v3), (4, v4), (5, v5), (8, v8), (30, v30), (33, v33), (54, v54), (73, v73), (83, v83)], tips, lk, bx⟩ (endK 11 k) := execK_region
@[simp] def r32_48 : List VOper := [⟨some 82, .build [.int .u8 0, .int .u8 0, .int .u8 0, .int .u8 0, .int .u8 0, .int .u8 0, .int .u8 0, .int .u8 0, .int .u8 0, .int .u8 0, .int .u8 0, .int .u8 0, .int .i64 0, .int .i64 0, .nils] [], none⟩, ⟨none, .store (.r 2) 15 (.tmp 2) (.tmp 82), none⟩, ⟨some 3, .mv (.const (.int .i64 5)), none⟩]
def c32_48 : VC := .region r32_48
@[simp] theorem e32_48 {v0 v2 v3 v4 v5 v8 v30 v33 v54 v73 v83 : V} : execK cf sg m c32_48 ⟨clk, [(0, v0), (2, v2), (3, v3), (4, v4), (5, v5), (8, v8), (30, v30), (33, v33), (54, v54), (73, v73), (83, v83)], tips, lk, bx⟩ k = runK cf sg tips r32_48 ⟨clk + 1, [(0, v0), (2, v2), (3, v3), (4, v4), (5, v5), (8, v8), (30, v30), (33, v33), (54, v54), (73, v73), (83, v83)], tips, lk, bx⟩ (endK 11 k) := execK_region
def c32_49 : VC := .ret
@[simp] theorem e32_49 {e : Env} : execK cf sg m c32_49 ⟨clk, e, tips, lk, bx⟩ k = execK cf sg m (.ret) ⟨clk, e, tips, lk, bx⟩ k := rfl
def c32_47 : VC := .seq c32_48 c32_49
@[simp] theorem e32_47 {e : Env} : execK cf sg m c32_47 ⟨clk, e, tips, lk, bx⟩ k = execK cf sg m (.seq c32_48 c32_49) ⟨clk, e, tips, lk, bx⟩ k := rfl
@[simp] def r32_51 : List VOper := [⟨some 84, .fieldA 14 (.tmp 4), none⟩, ⟨some 85, .load (.r 4) false 1 (.tmp 84), none⟩, ⟨some 86, .len false (.tmp 85), none⟩, ⟨some 87, .bin .gtr (.tmp 86) (.const (.int .i64 1500)), none⟩, ⟨some 83, .mv (.tmp 87), none⟩]
def c32_51 : VC := .region r32_51
@[simp] theorem e32_51 {v0 v2 v3 v4 v5 v8 v30 v33 v54 v73 v83 : V} : execK cf sg m c32_51 ⟨clk, [(0, v0), (2, v2), (3, v3), (4, v4), (5, v5), (8, v8), (30, v30), (33, v33), (54, v54), (73, v73), (83, v83)], tips, lk, bx⟩ k = runK cf sg tips r32_51 ⟨clk + 1, [(0, v0), (2, v2), (3, v3), (4, v4), (5, v5), (8, v8), (30, v30), (33, v33), (54, v54), (73, v73), (83, v83)], tips, lk, bx⟩ (endK 11 k) := execK_region
@[simp] def r32_54 : List VOper := [⟨some 88, .build [.int .u8 0, .int .u8 0, .int .u8 0, .int .u8 0, .int .u8 0, .int .u8 0, .int .u8 0, .int .u8 0, .int .u8 0, .int .u8 0, .int .u8 0, .int .u8 0, .int .i64 0, .int .i64 0, .nils] [], none⟩, ⟨none, .store (.r 2) 15 (.tmp 2) (.tmp 88), none⟩, ⟨some 3, .mv (.const (.int .i64 3)), none⟩]
def c32_54 : VC := .region r32_54
@[simp] theorem e32_54 {v0 v2 v3 v4 v5 v8 v30 v33 v54 v73 v83 : V} : execK cf sg m c32_54 ⟨clk, [(0, v0), (2, v2), (3, v3), (4, v4), (5, v5), (8, v8), (30, v30), (33, v33), (54, v54), (73, v73), (83, v83)], tips, lk, bx⟩ k = runK cf sg tips r32_54 ⟨clk + 1, [(0, v0), (2, v2), (3, v3), (4, v4), (5, v5), (8, v8), (30, v30), (33, v33), (54, v54), (73, v73), (83, v83)], tips, lk, bx⟩ (endK 11 k) := execK_region
def c32_55 : VC := .ret
@[simp] theorem e32_55 {e : Env} : execK cf sg m c32_55 ⟨clk, e, tips, lk, bx⟩ k = execK cf sg m (.ret) ⟨clk, e, tips, lk, bx⟩ k := rfl
def c32_53 : VC := .seq c32_54 c32_55
@[simp] theorem e32_53 {e : Env} : execK cf sg m c32_53 ⟨clk, e, tips, lk, bx⟩ k = execK cf sg m (.seq c32_54 c32_55) ⟨clk, e, tips, lk, bx⟩ k := rfl
def c32_56 : VC := .skip
@[simp] theorem e32_56 {e : Env} : execK cf sg m c32_56 ⟨clk, e, tips, lk, bx⟩ k = execK cf sg m (.skip) ⟨clk, e, tips, lk, bx⟩ k := rfl
def c32_52 : VC := .cond (.tmp 83) c32_53 c32_56
@[simp] theorem e32_52 {e : Env} : execK cf sg m c32_52 ⟨clk, e, tips, lk, bx⟩ k = execK cf sg m (.cond (.tmp 83) c32_53 c32_56) ⟨clk, e, tips, lk, bx⟩ k := rfl
def c32_50 : VC := .seq c32_51 c32_52
@[simp] theorem e32_50 {e : Env} : execK cf sg m c32_50 ⟨clk, e, tips, lk, bx⟩ k = execK cf sg m (.seq c32_51 c32_52) ⟨clk, e, tips, lk, bx⟩ k := rfl
def c32_46 : VC := .cond (.tmp 73) c32_47 c32_50
@[simp] theorem e32_46 {e : Env} : execK cf sg m c32_46 ⟨clk, e, tips, lk, bx⟩ k = execK cf sg m (.cond (.tmp 73) c32_47 c32_50) ⟨clk, e, tips, lk, bx⟩ k := rfl
def c32_44 : VC := .seq c32_45 c32_46
@[simp] theorem e32_44 {e : Env} : execK cf sg m c32_44 ⟨clk, e, tips, lk, bx⟩ k = execK cf sg m (.seq c32_45 c32_46) ⟨clk, e, tips, lk, bx⟩ k := rfl
def c32_43 : VC := .block 0 c32_44
@[simp] theorem e32_43 {e : Env} : execK cf sg m c32_43 ⟨clk, e, tips, lk, bx⟩ k = execK cf sg m (.block 0 c32_44) ⟨clk, e, tips, lk, bx⟩ k := rfl
@[simp] def r32_58 : List VOper := [⟨some 89, .load (.r 4) true 15 (.tmp 4), none⟩, ⟨none, .store (.r 2) 15 (.tmp 2) (.tmp 89), none⟩, ⟨some 3, .mv (.const (.int .i64 0)), none⟩]
def c32_58 : VC := .region r32_58
@[simp] theorem e32_58 {v0 v2 v3 v4 v5 v8 v30 v33 v54 v73 v83 : V} : execK cf sg m c32_58 ⟨clk, [(0, v0), (2, v2), (3, v3), (4, v4), (5, v5), (8, v8), (30, v30), (33, v33), (54, v54), (73, v73), (83, v83)], tips, lk, bx⟩ k = runK cf sg tips r32_58 ⟨clk + 1, [(0, v0), (2, v2), (3, v3), (4, v4), (5, v5), (8, v8), (30, v30), (33, v33), (54, v54), (73, v73), (83, v83)], tips, lk, bx⟩ (endK 11 k) := execK_region
def c32_59 : VC := .ret
@[simp] theorem e32_59 {e : Env} : execK cf sg m c32_59 ⟨clk, e, tips, lk, bx⟩ k = execK cf sg m (.ret) ⟨clk, e, tips, lk, bx⟩ k := rfl
def c32_57 : VC := .seq c32_58 c32_59
@[simp] theorem e32_57 {e : Env} : execK cf sg m c32_57 ⟨clk, e, tips, lk, bx⟩ k = execK cf sg m (.seq c32_58 c32_59) ⟨clk, e, tips, lk, bx⟩ k := rfl
def c32_42 : VC := .seq c32_43 c32_57
@[simp] theorem e32_42 {e : Env} : execK cf sg m c32_42 ⟨clk, e, tips, lk, bx⟩ k = execK cf sg m (.seq c32_43 c32_57) ⟨clk, e, tips, lk, bx⟩ k := rfl
def c32_40 : VC := .seq c32_41 c32_42
@[simp] theorem e32_40 {e : Env} : execK cf sg m c32_40 ⟨clk, e, tips, lk, bx⟩ k = execK cf sg m (.seq c32_41 c32_42) ⟨clk, e, tips, lk, bx⟩ k := rfl
def c32_38 : VC := .seq c32_39 c32_40
@[simp] theorem e32_38 {e : Env} : execK cf sg m c32_38 ⟨clk, e, tips, lk, bx⟩ k = execK cf sg m (.seq c32_39 c32_40) ⟨clk, e, tips, lk, bx⟩ k := rfl
def c32_14 : VC := .seq c32_15 c32_38
@[simp] theorem e32_14 {e : Env} : execK cf sg m c32_14 ⟨clk, e, tips, lk, bx⟩ k = execK cf sg m (.seq c32_15 c32_38) ⟨clk, e, tips, lk, bx⟩ k := rfl
def c32_12 : VC := .seq c32_13 c32_14
@[simp] theorem e32_12 {e : Env} : execK cf sg m c32_12 ⟨clk, e, tips, lk, bx⟩ k = execK cf sg m (.seq c32_13 c32_14) ⟨clk, e, tips, lk, bx⟩ k := rfl
def c32_10 : VC := .seq c32_11 c32_12
@[simp] theorem e32_10 {e : Env} : execK cf sg m c32_10 ⟨clk, e, tips, lk, bx⟩ k = execK cf sg m (.seq c32_11 c32_12) ⟨clk, e, tips, lk, bx⟩ k := rfl
def c32_2 : VC := .seq c32_3 c32_10
@[simp] theorem e32_2 {e : Env} : execK cf sg m c32_2 ⟨clk, e, tips, lk, bx⟩ k = execK cf sg m (.seq c32_3 c32_10) ⟨clk, e, tips, lk, bx⟩ k := rfl
def c32_0 : VC := .seq c32_1 c32_2
@[simp] theorem e32_0 {e : Env} : execK cf sg m c32_0 ⟨clk, e, tips, lk, bx⟩ k = execK cf sg m (.seq c32_1 c32_2) ⟨clk, e, tips, lk, bx⟩ k := rfl
def hh32 : Hints := { esc := [], rt := [(2, .r 2), (12, .e []), (16, .e []), (4, .r 4), (22, .e []), (27, .e []), (36, .e []), (42, .e []), (46, .r 4), (47, .r 4), (51, .r 4), (59, .e []), (64, .e []), (68, .r 4), (72, .r 4), (74, .r 4), (78, .r 4), (84, .r 4)], cut := [], quiet := [], avoid := [(13, [4]), (17, [4])] }
def vf32 : VF := ⟨[0, 2, 3, 4, 5, 8, 30, 33, 54, 73, 83], [], true, c32_0, [.cell true 15 2, .tmp 3]⟩
@[simp] theorem res32 : vf32.res = [.cell true 15 2, .tmp 3] := rfl
theorem tab32 : compileFn Try.prog hh32 vf32.kept vf32.cons Try.f32 = some vf32 := by kernel_rfl

/- exchangepoint/exchangepointref04.Same -/
@[simp] def r33_1 : List VOper := [⟨some 2, .boxR 15 (.tmp 0), none⟩, ⟨some 3, .boxR 15 (.tmp 1), none⟩, ⟨some 4, .mv (.const (.bool false)), none⟩]
def c33_1 : VC := .region r33_1
@[simp] theorem e33_1 {v0 v1 v2 v3 v4 : V} : execK cf sg m c33_1 ⟨clk, [(0, v0), (1, v1), (2, v2), (3, v3), (4, v4)], tips, lk, bx⟩ k = runK cf sg tips r33_1 ⟨clk + 1, [(0, v0), (1, v1), (2, v2), (3, v3), (4, v4)], tips, lk, bx⟩ (endK 5 k) := execK_region
@[simp] def r33_3 : List VOper := [⟨some 5, .fieldA 0 (.tmp 2), none⟩, ⟨some 6, .load (.r 2) true 6 (.tmp 5), none⟩, ⟨some 7, .fieldA 0 (.tmp 3), none⟩, ⟨some 8, .load (.r 3) true 6 (.tmp 7), none⟩, ⟨some 9, .eq false (.flat [.i, .i, .i, .i, .i, .i]) (.tmp 6) (.tmp 8), none⟩, ⟨some 10, .mv (.tmp 9), none⟩, ⟨some 11, .fieldA 6 (.tmp 2), some (10, true)⟩, ⟨some 12, .load (.r 2) true 6 (.tmp 11), some (10, true)⟩, ⟨some 13, .fieldA 6 (.tmp 3), some (10, true)⟩, ⟨some 14, .load (.r 3) true 6 (.tmp 13), some (10, true)⟩, ⟨some 15, .eq false (.flat [.i, .i, .i, .i, .i, .i]) (.tmp 12) (.tmp 14), some (10, true)⟩, ⟨some 16, .pick (.tmp 10) (.tmp 15) (.const (.bool false)), none⟩, ⟨some 17, .mv (.tmp 16), none⟩, ⟨some 18, .fieldA 12 (.tmp 2), some (17, true)⟩, ⟨some 19, .load (.r 2) false 1 (.tmp 18), some (17, true)⟩, ⟨some 20, .fieldA 12 (.tmp 3), some (17, true)⟩, ⟨some 21, .load (.r 3) false 1 (.tmp 20), some (17, true)⟩, ⟨some 22, .bin .eql (.tmp 19) (.tmp 21), some (17, true)⟩, ⟨some 23, .pick (.tmp 17) (.tmp 22) (.const (.bool false)), none⟩, ⟨some 24, .mv (.tmp 23), none⟩, ⟨some 25, .fieldA 13 (.tmp 2), some (24, true)⟩, ⟨some 26, .load (.r 2) false 1 (.tmp 25), some (24, true)⟩, ⟨some 27, .fieldA 13 (.tmp 3), some (24, true)⟩, ⟨some 28, .load (.r 3) false 1 (.tmp 27), some (24, true)⟩, ⟨some 29, .bin .eql (.tmp 26) (.tmp 28), some (24, true)⟩, ⟨some 30, .pick (.tmp 24) (.tmp 29) (.const (.bool false)), none⟩, ⟨some 31, .mv (.tmp 30), none⟩, ⟨some 32, .fieldA 14 (.tmp 2), some (31, true)⟩, ⟨some 33, .load (.r 2) false 1 (.tmp 32), some (31, true)⟩, ⟨some 34, .toStr (.tmp 33) [], some (31, true)⟩, ⟨some 35, .fieldA 14 (.tmp 3), some (31, true)⟩, ⟨some 36, .load (.r 3) false 1 (.tmp 35), some (31, true)⟩, ⟨some 37, .toStr (.tmp 36) [], some (31, true)⟩, ⟨some 38, .bin .eql (.tmp 34) (.tmp 37), some (31, true)⟩, ⟨some 39, .pick (.tmp 31) (.tmp 38) (.const (.bool false)), none⟩, ⟨some 4, .mv (.tmp 39), none⟩]
def c33_3 : VC := .region r33_3
@[simp] theorem e33_3 {v0 v1 v2 v3 v4 : V} : execK cf sg m c33_3 ⟨clk, [(0, v0), (1, v1), (2, v2), (3, v3), (4, v4)], tips, lk, bx⟩ k = runK cf sg tips r33_3 ⟨clk + 1, [(0, v0), (1, v1), (2, v2), (3, v3), (4, v4)], tips, lk, bx⟩ (endK 5 k) := execK_region
def c33_4 : VC := .ret
@[simp] theorem e33_4 {e : Env} : execK cf sg m c33_4 ⟨clk, e, tips, lk, bx⟩ k = execK cf sg m (.ret) ⟨clk, e, tips, lk, bx⟩ k := rfl
def c33_2 : VC := .seq c33_3 c33_4
@[simp] theorem e33_2 {e : Env} : execK cf sg m c33_2 ⟨clk, e, tips, lk, bx⟩ k = execK cf sg m (.seq c33_3 c33_4) ⟨clk, e, tips, lk, bx⟩ k := rfl
def c33_0 : VC := .seq c33_1 c33_2
@[simp] theorem e33_0 {e : Env} : execK cf sg m c33_0 ⟨clk, e, tips, lk, bx⟩ k = execK cf sg m (.seq c33_1 c33_2) ⟨clk, e, tips, lk, bx⟩ k := rfl
def hh33 : Hints := { esc := [], rt := [(5, .r 2), (7, .r 3), (11, .r 2), (13, .r 3), (18, .r 2), (20, .r 3), (25, .r 2), (27, .r 3), (32, .r 2), (35, .r 3)], cut := [], quiet := [], avoid := [] }
def vf33 : VF := ⟨[0, 1, 2, 3, 4], [], true, c33_0, [.tmp 4]⟩
@[simp] theorem res33 : vf33.res = [.tmp 4] := rfl
theorem tab33 : compileFn Try.prog hh33 vf33.kept vf33.cons Try.f33 = some vf33 := by kernel_rfl

/- exchangepoint/exchangepointref04.digit -/
@[simp] def r36_1 : List VOper := [⟨some 2, .mv (.const (.int .i64 0)), none⟩]
def c36_1 : VC := .region r36_1
@[simp] theorem e36_1 {v0 v2 v3 v13 : V} : execK cf sg m c36_1 ⟨clk, [(0, v0), (2, v2), (3, v3), (13, v13)], tips, lk, bx⟩ k = runK cf sg tips r36_1 ⟨clk + 1, [(0, v0), (2, v2), (3, v3), (13, v13)], tips, lk, bx⟩ (endK 4 k) := execK_region
@[simp] def r36_5 : List VOper := [⟨some 4, .mv (.tmp 0), none⟩, ⟨some 5, .bin .geq (.tmp 4) (.const (.int .u8 48)), none⟩, ⟨some 6, .mv (.tmp 5), none⟩, ⟨some 7, .mv (.tmp 0), some (6, true)⟩, ⟨some 8, .bin .leq (.tmp 7) (.const (.int .u8 57)), some (6, true)⟩, ⟨some 9, .pick (.tmp 6) (.tmp 8) (.const (.bool false)), none⟩, ⟨some 3, .mv (.tmp 9), none⟩]
def c36_5 : VC := .region r36_5
@[simp] theorem e36_5 {v0 v2 v3 v13 : V} : execK cf sg m c36_5 ⟨clk, [(0, v0), (2, v2), (3, v3), (13, v13)], tips, lk, bx⟩ k = runK cf sg tips r36_5 ⟨clk + 1, [(0, v0), (2, v2), (3, v3), (13, v13)], tips, lk, bx⟩ (endK 4 k) := execK_region
@[simp] def r36_8 : List VOper := [⟨some 10, .mv (.tmp 0), none⟩, ⟨some 11, .bin .sub (.tmp 10) (.const (.int .u8 48)), none⟩, ⟨some 12, .convI .i64 (.tmp 11), none⟩, ⟨some 2, .mv (.tmp 12), none⟩]
def c36_8 : VC := .region r36_8
@[simp] theorem e36_8 {v0 v2 v3 v13 : V} : execK cf sg m c36_8 ⟨clk, [(0, v0), (2, v2), (3, v3), (13, v13)], tips, lk, bx⟩ k = runK cf sg tips r36_8 ⟨clk + 1, [(0, v0), (2, v2), (3, v3), (13, v13)], tips, lk, bx⟩ (endK 4 k) := execK_region
def c36_9 : VC := .ret
@[simp] theorem e36_9 {e : Env} : execK cf sg m c36_9 ⟨clk, e, tips, lk, bx⟩ k = execK cf sg m (.ret) ⟨clk, e, tips, lk, bx⟩ k := rfl
def c36_7 : VC := .seq c36_8 c36_9
@[simp] theorem e36_7 {e : Env} : execK cf sg m c36_7 ⟨clk, e, tips, lk, bx⟩ k = execK cf sg m (.seq c36_8 c36_9) ⟨clk, e, tips, lk, bx⟩ k := rfl
@[simp] def r36_11 : List VOper := [⟨some 14, .mv (.tmp 0), none⟩, ⟨some 15, .bin .geq (.tmp 14) (.const (.int .u8 97)), none⟩, ⟨some 16, .mv (.tmp 15), none⟩, ⟨some 17, .mv (.tmp 0), some (16, true)⟩, ⟨some 18, .bin .leq (.tmp 17) (.const (.int .u8 102)), some (16, true)⟩, ⟨some 19, .pick (.tmp 16) (.tmp 18) (.const (.bool false)), none⟩, ⟨some 13, .mv (.tmp 19), none⟩]
def c36_11 : VC := .region r36_11
@[simp] theorem e36_11 {v0 v2 v3 v13 : V} : execK cf sg m c36_11 ⟨clk, [(0, v0), (2, v2), (3, v3), (13, v13)], tips, lk, bx⟩ k = runK cf sg tips r36_11 ⟨clk + 1, [(0, v0), (2, v2), (3, v3), (13, v13)], tips, lk, bx⟩ (endK 4 k) := execK_region
@[simp] def r36_14 : List VOper := [⟨some 20, .mv (.tmp 0), none⟩, ⟨some 21, .bin .sub (.tmp 20) (.const (.int .u8 97)), none⟩, ⟨some 22, .convI .i64 (.tmp 21), none⟩, ⟨some 23, .bin .add (.tmp 22) (.const (.int .i64 10)), none⟩, ⟨some 2, .mv (.tmp 23), none⟩]
def c36_14 : VC := .region r36_14
@[simp] theorem e36_14 {v0 v2 v3 v13 : V} : execK cf sg m c36_14 ⟨clk, [(0, v0), (2, v2), (3, v3), (13, v13)], tips, lk, bx⟩ k = runK cf sg tips r36_14 ⟨clk + 1, [(0, v0), (2, v2), (3, v3), (13, v13)], tips, lk, bx⟩ (endK 4 k) := execK_region
def c36_15 : VC := .ret
@[simp] theorem e36_15 {e : Env} : execK cf sg m c36_15 ⟨clk, e, tips, lk, bx⟩ k = execK cf sg m (.ret) ⟨clk, e, tips, lk, bx⟩ k := rfl
def c36_13 : VC := .seq c36_14 c36_15
@[simp] theorem e36_13 {e : Env} : execK cf sg m c36_13 ⟨clk, e, tips, lk, bx⟩ k = execK cf sg m (.seq c36_14 c36_15) ⟨clk, e, tips, lk, bx⟩ k := rfl
def c36_16 : VC := .skip
@[simp] theorem e36_16 {e : Env} : execK cf sg m c36_16 ⟨clk, e, tips, lk, bx⟩ k = execK cf sg m (.skip) ⟨clk, e, tips, lk, bx⟩ k := rfl
def c36_12 : VC := .cond (.tmp 13) c36_13 c36_16
@[simp] theorem e36_12 {e : Env} : execK cf sg m c36_12 ⟨clk, e, tips, lk, bx⟩ k = execK cf sg m (.cond (.tmp 13) c36_13 c36_16) ⟨clk, e, tips, lk, bx⟩ k := rfl
def c36_10 : VC := .seq c36_11 c36_12
@[simp] theorem e36_10 {e : Env} : execK cf sg m c36_10 ⟨clk, e, tips, lk, bx⟩ k = execK cf sg m (.seq c36_11 c36_12) ⟨clk, e, tips, lk, bx⟩ k := rfl
def c36_6 : VC := .cond (.tmp 3) c36_7 c36_10
@[simp] theorem e36_6 {e : Env} : execK cf sg m c36_6 ⟨clk, e, tips, lk, bx⟩ k = execK cf sg m (.cond (.tmp 3) c36_7 c36_10) ⟨clk, e, tips, lk, bx⟩ k := rfl
def c36_4 : VC := .seq c36_5 c36_6
@[simp] theorem e36_4 {e : Env} : execK cf sg m c36_4 ⟨clk, e, tips, lk, bx⟩ k = execK cf sg m (.seq c36_5 c36_6) ⟨clk, e, tips, lk, bx⟩ k := rfl
def c36_3 : VC := .block 0 c36_4
@[simp] theorem e36_3 {e : Env} : execK cf sg m c36_3 ⟨clk, e, tips, lk, bx⟩ k = execK cf sg m (.block 0 c36_4) ⟨clk, e, tips, lk, bx⟩ k := rfl
@[simp] def r36_18 : List VOper := [⟨some 2, .mv (.const (.int .i64 (-1))), none⟩]
def c36_18 : VC := .region r36_18
@[simp] theorem e36_18 {v0 v2 v3 v13 : V} : execK cf sg m c36_18 ⟨clk, [(0, v0), (2, v2), (3, v3), (13, v13)], tips, lk, bx⟩ k = runK cf sg tips r36_18 ⟨clk + 1, [(0, v0), (2, v2), (3, v3), (13, v13)], tips, lk, bx⟩ (endK 4 k) := execK_region
def c36_19 : VC := .ret
@[simp] theorem e36_19 {e : Env} : execK cf sg m c36_19 ⟨clk, e, tips, lk, bx⟩ k = execK cf sg m (.ret) ⟨clk, e, tips, lk, bx⟩ k := rfl
def c36_17 : VC := .seq c36_18 c36_19
@[simp] theorem e36_17 {e : Env} : execK cf sg m c36_17 ⟨clk, e, tips, lk, bx⟩ k = execK cf sg m (.seq c36_18 c36_19) ⟨clk, e, tips, lk, bx⟩ k := rfl
def c36_2 : VC := .seq c36_3 c36_17
@[simp] theorem e36_2 {e : Env} : execK cf sg m c36_2 ⟨clk, e, tips, lk, bx⟩ k = execK cf sg m (.seq c36_3 c36_17) ⟨clk, e, tips, lk, bx⟩ k := rfl
def c36_0 : VC := .seq c36_1 c36_2
@[simp] theorem e36_0 {e : Env} : execK cf sg m c36_0 ⟨clk, e, tips, lk, bx⟩ k = execK cf sg m (.seq c36_1 c36_2) ⟨clk, e, tips, lk, bx⟩ k := rfl
def hh36 : Hints := { esc := [], rt := [], cut := [], quiet := [], avoid := [] }
def vf36 : VF := ⟨[0, 2, 3, 13], [], true, c36_0, [.tmp 2]⟩
@[simp] theorem res36 : vf36.res = [.tmp 2] := rfl
theorem tab36 : compileFn Try.prog hh36 vf36.kept vf36.cons Try.f36 = some vf36 := by kernel_rfl

/- (*exchangepoint/exchangepointmake.Deck).Next -/
@[simp] def r37_1 : List VOper := [⟨some 4, .mv (.const (.int .i64 0)), none⟩]
def c37_1 : VC := .region r37_1
@[simp] theorem e37_1 {v0 v1 v4 v14 : V} : execK cf sg m c37_1 ⟨clk, [(0, v0), (1, v1), (4, v4), (14, v14)], tips, lk, bx⟩ k = runK cf sg tips r37_1 ⟨clk + 1, [(0, v0), (1, v1), (4, v4), (14, v14)], tips, lk, bx⟩ (endK 4 k) := execK_region
@[simp] def r37_4 : List VOper := [⟨some 5, .mv (.tmp 0), none⟩, ⟨some 6, .nilck (.tmp 5), none⟩, ⟨some 7, .fieldA 1 (.tmp 6), none⟩, ⟨some 8, .load .b false 1 (.tmp 7), none⟩, ⟨some 9, .mv (.tmp 0), none⟩, ⟨some 10, .nilck (.tmp 9), none⟩, ⟨some 11, .fieldA 0 (.tmp 10), none⟩, ⟨some 12, .load .b false 1 (.tmp 11), none⟩, ⟨some 13, .len false (.tmp 12), none⟩, ⟨some 14, .bin .geq (.tmp 8) (.tmp 13), none⟩]
def c37_4 : VC := .region r37_4
@[simp] theorem e37_4 {v0 v1 v4 v14 : V} : execK cf sg m c37_4 ⟨clk, [(0, v0), (1, v1), (4, v4), (14, v14)], tips, lk, bx⟩ k = runK cf sg tips r37_4 ⟨clk + 1, [(0, v0), (1, v1), (4, v4), (14, v14)], tips, lk, bx⟩ (endK 4 k) := execK_region
@[simp] def r37_7 : List VOper := [⟨some 4, .mv (.const (.int .i64 0)), none⟩]
def c37_7 : VC := .region r37_7
@[simp] theorem e37_7 {v0 v1 v4 v14 : V} : execK cf sg m c37_7 ⟨clk, [(0, v0), (1, v1), (4, v4), (14, v14)], tips, lk, bx⟩ k = runK cf sg tips r37_7 ⟨clk + 1, [(0, v0), (1, v1), (4, v4), (14, v14)], tips, lk, bx⟩ (endK 4 k) := execK_region
def c37_8 : VC := .ret
@[simp] theorem e37_8 {e : Env} : execK cf sg m c37_8 ⟨clk, e, tips, lk, bx⟩ k = execK cf sg m (.ret) ⟨clk, e, tips, lk, bx⟩ k := rfl
def c37_6 : VC := .seq c37_7 c37_8
@[simp] theorem e37_6 {e : Env} : execK cf sg m c37_6 ⟨clk, e, tips, lk, bx⟩ k = execK cf sg m (.seq c37_7 c37_8) ⟨clk, e, tips, lk, bx⟩ k := rfl
def c37_9 : VC := .skip
@[simp] theorem e37_9 {e : Env} : execK cf sg m c37_9 ⟨clk, e, tips, lk, bx⟩ k = execK cf sg m (.skip) ⟨clk, e, tips, lk, bx⟩ k := rfl
def c37_5 : VC := .cond (.tmp 14) c37_6 c37_9
@[simp] theorem e37_5 {e : Env} : execK cf sg m c37_5 ⟨clk, e, tips, lk, bx⟩ k = execK cf sg m (.cond (.tmp 14) c37_6 c37_9) ⟨clk, e, tips, lk, bx⟩ k := rfl
def c37_3 : VC := .seq c37_4 c37_5
@[simp] theorem e37_3 {e : Env} : execK cf sg m c37_3 ⟨clk, e, tips, lk, bx⟩ k = execK cf sg m (.seq c37_4 c37_5) ⟨clk, e, tips, lk, bx⟩ k := rfl
@[simp] def r37_11 : List VOper := [⟨some 15, .mv (.tmp 0), none⟩, ⟨some 16, .nilck (.tmp 15), none⟩, ⟨some 17, .fieldA 1 (.tmp 16), none⟩, ⟨some 18, .load .b false 1 (.tmp 17), none⟩, ⟨some 19, .bin .add (.tmp 18) (.const (.int .i64 1)), none⟩, ⟨some 20, .nilck (.tmp 15), none⟩, ⟨some 21, .fieldA 1 (.tmp 20), none⟩, ⟨none, .store .b 1 (.tmp 21) (.tmp 19), none⟩]
def c37_11 : VC := .region r37_11
@[simp] theorem e37_11 {v0 v1 v4 v14 : V} : execK cf sg m c37_11 ⟨clk, [(0, v0), (1, v1), (4, v4), (14, v14)], tips, lk, bx⟩ k = runK cf sg tips r37_11 ⟨clk + 1, [(0, v0), (1, v1), (4, v4), (14, v14)], tips, lk, bx⟩ (endK 4 k) := execK_region
@[simp] def r37_13 : List VOper := [⟨some 22, .mv (.tmp 0), none⟩, ⟨some 23, .nilck (.tmp 22), none⟩, ⟨some 24, .fieldA 0 (.tmp 23), none⟩, ⟨some 25, .load .b false 1 (.tmp 24), none⟩, ⟨some 26, .mv (.tmp 0), none⟩, ⟨some 27, .nilck (.tmp 26), none⟩, ⟨some 28, .fieldA 1 (.tmp 27), none⟩, ⟨some 29, .load .b false 1 (.tmp 28), none⟩, ⟨some 30, .bin .sub (.tmp 29) (.const (.int .i64 1)), none⟩, ⟨some 31, .idxS 1 (.tmp 25) (.tmp 30), none⟩, ⟨some 32, .load (.e []) false 1 (.tmp 31), none⟩, ⟨some 33, .mv (.tmp 1), none⟩, ⟨some 34, .call 9 [.tmp 32, .tmp 33] true [], none⟩, ⟨some 4, .mv (.tmp 34), none⟩]
def c37_13 : VC := .region r37_13
@[simp] theorem e37_13 {v0 v1 v4 v14 : V} : execK cf sg m c37_13 ⟨clk, [(0, v0), (1, v1), (4, v4), (14, v14)], tips, lk, bx⟩ k = runK cf sg tips r37_13 ⟨clk + 1, [(0, v0), (1, v1), (4, v4), (14, v14)], tips, lk, bx⟩ (endK 4 k) := execK_region
def c37_14 : VC := .ret
@[simp] theorem e37_14 {e : Env} : execK cf sg m c37_14 ⟨clk, e, tips, lk, bx⟩ k = execK cf sg m (.ret) ⟨clk, e, tips, lk, bx⟩ k := rfl
def c37_12 : VC := .seq c37_13 c37_14
@[simp] theorem e37_12 {e : Env} : execK cf sg m c37_12 ⟨clk, e, tips, lk, bx⟩ k = execK cf sg m (.seq c37_13 c37_14) ⟨clk, e, tips, lk, bx⟩ k := rfl
def c37_10 : VC := .seq c37_11 c37_12
@[simp] theorem e37_10 {e : Env} : execK cf sg m c37_10 ⟨clk, e, tips, lk, bx⟩ k = execK cf sg m (.seq c37_11 c37_12) ⟨clk, e, tips, lk, bx⟩ k := rfl
def c37_2 : VC := .seq c37_3 c37_10
@[simp] theorem e37_2 {e : Env} : execK cf sg m c37_2 ⟨clk, e, tips, lk, bx⟩ k = execK cf sg m (.seq c37_3 c37_10) ⟨clk, e, tips, lk, bx⟩ k := rfl
def c37_0 : VC := .seq c37_1 c37_2
@[simp] theorem e37_0 {e : Env} : execK cf sg m c37_0 ⟨clk, e, tips, lk, bx⟩ k = execK cf sg m (.seq c37_1 c37_2) ⟨clk, e, tips, lk, bx⟩ k := rfl
def hh37 : Hints := { esc := [], rt := [(31, .e [])], cut := [], quiet := [34], avoid := [] }
def vf37 : VF := ⟨[0, 1, 4, 14], [], false, c37_0, [.tmp 4]⟩
@[simp] theorem res37 : vf37.res = [.tmp 4] := rfl
theorem tab37 : compileFn Try.prog hh37 vf37.kept vf37.cons Try.f37 = some vf37 := by kernel_rfl

/- (*exchangepoint/exchangepointmake.Deck).Bytes -/
@[simp] def r38_1 : List VOper := [⟨some 4, .mv (.const .nils), none⟩]
def c38_1 : VC := .region r38_1
@[simp] theorem e38_1 {v0 v1 v4 v5 v6 v12 : V} : execK cf sg m c38_1 ⟨clk, [(0, v0), (1, v1), (4, v4), (5, v5), (6, v6), (12, v12)], tips, lk, bx⟩ k = runK cf sg tips r38_1 ⟨clk + 1, [(0, v0), (1, v1), (4, v4), (5, v5), (6, v6), (12, v12)], tips, lk, bx⟩ (endK 6 k) := execK_region
@[simp] def r38_3 : List VOper := [⟨some 5, .mv (.const .nils), none⟩]
def c38_3 : VC := .region r38_3
@[simp] theorem e38_3 {v0 v1 v4 v5 v6 v12 : V} : execK cf sg m c38_3 ⟨clk, [(0, v0), (1, v1), (4, v4), (5, v5), (6, v6), (12, v12)], tips, lk, bx⟩ k = runK cf sg tips r38_3 ⟨clk + 1, [(0, v0), (1, v1), (4, v4), (5, v5), (6, v6), (12, v12)], tips, lk, bx⟩ (endK 6 k) := execK_region
@[simp] def r38_6 : List VOper := [⟨some 7, .mv (.tmp 0), none⟩, ⟨some 8, .mv (.tmp 1), none⟩, ⟨some 9, .bin .add (.tmp 8) (.const (.int .i64 1)), none⟩, ⟨some 10, .call 37 [.tmp 7, .tmp 9] false [], none⟩, ⟨some 6, .mv (.tmp 10), none⟩]
def c38_6 : VC := .region r38_6
@[simp] theorem e38_6 {v0 v1 v4 v5 v6 v12 : V} : execK cf sg m c38_6 ⟨clk, [(0, v0), (1, v1), (4, v4), (5, v5), (6, v6), (12, v12)], tips, lk, bx⟩ k = runK cf sg tips r38_6 ⟨clk + 1, [(0, v0), (1, v1), (4, v4), (5, v5), (6, v6), (12, v12)], tips, lk, bx⟩ (endK 6 k) := execK_region
@[simp] def r38_11 : List VOper := [⟨some 11, .mv (.tmp 6), none⟩, ⟨some 12, .bin .gtr (.tmp 11) (.const (.int .i64 0)), none⟩]
def c38_11 : VC := .region r38_11
@[simp] theorem e38_11 {v0 v1 v4 v5 v6 v12 : V} : execK cf sg m c38_11 ⟨clk, [(0, v0), (1, v1), (4, v4), (5, v5), (6, v6), (12, v12)], tips, lk, bx⟩ k = runK cf sg tips r38_11 ⟨clk + 1, [(0, v0), (1, v1), (4, v4), (5, v5), (6, v6), (12, v12)], tips, lk, bx⟩ (endK 6 k) := execK_region
def c38_13 : VC := .skip
@[simp] theorem e38_13 {e : Env} : execK cf sg m c38_13 ⟨clk, e, tips, lk, bx⟩ k = execK cf sg m (.skip) ⟨clk, e, tips, lk, bx⟩ k := rfl
def c38_14 : VC := .exit 0
@[simp] theorem e38_14 {e : Env} : execK cf sg m c38_14 ⟨clk, e, tips, lk, bx⟩ k = execK cf sg m (.exit 0) ⟨clk, e, tips, lk, bx⟩ k := rfl
def c38_12 : VC := .cond (.tmp 12) c38_13 c38_14
@[simp] theorem e38_12 {e : Env} : execK cf sg m c38_12 ⟨clk, e, tips, lk, bx⟩ k = execK cf sg m (.cond (.tmp 12) c38_13 c38_14) ⟨clk, e, tips, lk, bx⟩ k := rfl
def c38_10 : VC := .seq c38_11 c38_12
@[simp] theorem e38_10 {e : Env} : execK cf sg m c38_10 ⟨clk, e, tips, lk, bx⟩ k = execK cf sg m (.seq c38_11 c38_12) ⟨clk, e, tips, lk, bx⟩ k := rfl
@[simp] def r38_17 : List VOper := [⟨some 15, .mv (.tmp 5), none⟩, ⟨some 16, .mv (.tmp 0), none⟩, ⟨some 17, .call 37 [.tmp 16, .const (.int .i64 256)] false [], none⟩, ⟨some 18, .convI .u8 (.tmp 17), none⟩, ⟨some 19, .bslice false 1 1 [.int .u8 0] [(0, 1, .tmp 18)], none⟩, ⟨some 20, .append 1 1 false (.tmp 15) (.tmp 19) [], none⟩, ⟨some 5, .mv (.tmp 20), none⟩]
def c38_17 : VC := .region r38_17
@[simp] theorem e38_17 {v0 v1 v4 v5 v6 v12 : V} : execK cf sg m c38_17 ⟨clk, [(0, v0), (1, v1), (4, v4), (5, v5), (6, v6), (12, v12)], tips, lk, bx⟩ k = runK cf sg (bump tips [(nmOf 19 0)]) r38_17 ⟨clk + 1, [(0, v0), (1, v1), (4, v4), (5, v5), (6, v6), (12, v12)], bump tips [(nmOf 19 0)], updL lk false [(nmOf 19 0)], bx⟩ (endK 6 k) := execK_region
def c38_16 : VC := .block 1 c38_17
@[simp] theorem e38_16 {e : Env} : execK cf sg m c38_16 ⟨clk, e, tips, lk, bx⟩ k = execK cf sg m (.block 1 c38_17) ⟨clk, e, tips, lk, bx⟩ k := rfl
@[simp] def r38_18 : List VOper := [⟨some 13, .mv (.tmp 6), none⟩, ⟨some 14, .bin .sub (.tmp 13) (.const (.int .i64 1)), none⟩, ⟨some 6, .mv (.tmp 14), none⟩]
def c38_18 : VC := .region r38_18
@[simp] theorem e38_18 {v0 v1 v4 v5 v6 v12 : V} : execK cf sg m c38_18 ⟨clk, [(0, v0), (1, v1), (4, v4), (5, v5), (6, v6), (12, v12)], tips, lk, bx⟩ k = runK cf sg tips r38_18 ⟨clk + 1, [(0, v0), (1, v1), (4, v4), (5, v5), (6, v6), (12, v12)], tips, lk, bx⟩ (endK 6 k) := execK_region
def c38_15 : VC := .seq c38_16 c38_18
@[simp] theorem e38_15 {e : Env} : execK cf sg m c38_15 ⟨clk, e, tips, lk, bx⟩ k = execK cf sg m (.seq c38_16 c38_18) ⟨clk, e, tips, lk, bx⟩ k := rfl
def c38_9 : VC := .seq c38_10 c38_15
@[simp] theorem e38_9 {e : Env} : execK cf sg m c38_9 ⟨clk, e, tips, lk, bx⟩ k = execK cf sg m (.seq c38_10 c38_15) ⟨clk, e, tips, lk, bx⟩ k := rfl
def c38_8 : VC := .loop c38_9
@[simp] theorem e38_8 {e : Env} : execK cf sg m c38_8 ⟨clk, e, tips, lk, bx⟩ k = execK cf sg m (.loop c38_9) ⟨clk, e, tips, lk, bx⟩ k := rfl
def c38_7 : VC := .block 0 c38_8
@[simp] theorem e38_7 {e : Env} : execK cf sg m c38_7 ⟨clk, e, tips, lk, bx⟩ k = execK cf sg m (.block 0 c38_8) ⟨clk, e, tips, lk, bx⟩ k := rfl
def c38_5 : VC := .seq c38_6 c38_7
@[simp] theorem e38_5 {e : Env} : execK cf sg m c38_5 ⟨clk, e, tips, lk, bx⟩ k = execK cf sg m (.seq c38_6 c38_7) ⟨clk, e, tips, lk, bx⟩ k := rfl
@[simp] def r38_20 : List VOper := [⟨some 21, .mv (.tmp 5), none⟩, ⟨some 4, .mv (.tmp 21), none⟩]
def c38_20 : VC := .region r38_20
@[simp] theorem e38_20 {v0 v1 v4 v5 v6 v12 : V} : execK cf sg m c38_20 ⟨clk, [(0, v0), (1, v1), (4, v4), (5, v5), (6, v6), (12, v12)], tips, lk, bx⟩ k = runK cf sg tips r38_20 ⟨clk + 1, [(0, v0), (1, v1), (4, v4), (5, v5), (6, v6), (12, v12)], tips, lk, bx⟩ (endK 6 k) := execK_region
def c38_21 : VC := .ret
@[simp] theorem e38_21 {e : Env} : execK cf sg m c38_21 ⟨clk, e, tips, lk, bx⟩ k = execK cf sg m (.ret) ⟨clk, e, tips, lk, bx⟩ k := rfl
def c38_19 : VC := .seq c38_20 c38_21
@[simp] theorem e38_19 {e : Env} : execK cf sg m c38_19 ⟨clk, e, tips, lk, bx⟩ k = execK cf sg m (.seq c38_20 c38_21) ⟨clk, e, tips, lk, bx⟩ k := rfl
def c38_4 : VC := .seq c38_5 c38_19
@[simp] theorem e38_4 {e : Env} : execK cf sg m c38_4 ⟨clk, e, tips, lk, bx⟩ k = execK cf sg m (.seq c38_5 c38_19) ⟨clk, e, tips, lk, bx⟩ k := rfl
def c38_2 : VC := .seq c38_3 c38_4
@[simp] theorem e38_2 {e : Env} : execK cf sg m c38_2 ⟨clk, e, tips, lk, bx⟩ k = execK cf sg m (.seq c38_3 c38_4) ⟨clk, e, tips, lk, bx⟩ k := rfl
def c38_0 : VC := .seq c38_1 c38_2
@[simp] theorem e38_0 {e : Env} : execK cf sg m c38_0 ⟨clk, e, tips, lk, bx⟩ k = execK cf sg m (.seq c38_1 c38_2) ⟨clk, e, tips, lk, bx⟩ k := rfl
def hh38 : Hints := { esc := [], rt := [], cut := [], quiet := [], avoid := [] }
def vf38 : VF := ⟨[0, 1, 4, 5, 6, 12], [], false, c38_0, [.tmp 4]⟩
@[simp] theorem res38 : vf38.res = [.tmp 4] := rfl
theorem tab38 : compileFn Try.prog hh38 vf38.kept vf38.cons Try.f38 = some vf38 := by kernel_rfl

/- exchangepoint/ether.put -/
@[simp] def r39_1 : List VOper := [⟨some 4, .mv (.const .nils), none⟩]
def c39_1 : VC := .region r39_1
@[simp] theorem e39_1 {v0 v1 v4 : V} : execK cf sg m c39_1 ⟨clk, [(0, v0), (1, v1), (4, v4)], tips, lk, bx⟩ k = runK cf sg tips r39_1 ⟨clk + 1, [(0, v0), (1, v1), (4, v4)], tips, lk, bx⟩ (endK 3 k) := execK_region
@[simp] def r39_3 : List VOper := [⟨some 5, .mv (.tmp 0), none⟩, ⟨some 6, .mv (.tmp 1), none⟩, ⟨some 7, .bin .shr (.tmp 6) (.const (.int .u64 8)), none⟩, ⟨some 8, .convI .u8 (.tmp 7), none⟩, ⟨some 9, .mv (.tmp 1), none⟩, ⟨some 10, .convI .u8 (.tmp 9), none⟩, ⟨some 11, .bslice false 1 2 [.int .u8 0] [(0, 1, .tmp 8), (1, 1, .tmp 10)], none⟩, ⟨some 12, .append 1 1 false (.tmp 5) (.tmp 11) [], none⟩, ⟨some 4, .mv (.tmp 12), none⟩]
def c39_3 : VC := .region r39_3
@[simp] theorem e39_3 {v0 v1 v4 : V} : execK cf sg m c39_3 ⟨clk, [(0, v0), (1, v1), (4, v4)], tips, lk, bx⟩ k = runK cf sg (bump tips [(nmOf 11 0)]) r39_3 ⟨clk + 1, [(0, v0), (1, v1), (4, v4)], bump tips [(nmOf 11 0)], updL lk false [(nmOf 11 0)], bx⟩ (endK 3 k) := execK_region
def c39_4 : VC := .ret
@[simp] theorem e39_4 {e : Env} : execK cf sg m c39_4 ⟨clk, e, tips, lk, bx⟩ k = execK cf sg m (.ret) ⟨clk, e, tips, lk, bx⟩ k := rfl
def c39_2 : VC := .seq c39_3 c39_4
@[simp] theorem e39_2 {e : Env} : execK cf sg m c39_2 ⟨clk, e, tips, lk, bx⟩ k = execK cf sg m (.seq c39_3 c39_4) ⟨clk, e, tips, lk, bx⟩ k := rfl
def c39_0 : VC := .seq c39_1 c39_2
@[simp] theorem e39_0 {e : Env} : execK cf sg m c39_0 ⟨clk, e, tips, lk, bx⟩ k = execK cf sg m (.seq c39_1 c39_2) ⟨clk, e, tips, lk, bx⟩ k := rfl
def hh39 : Hints := { esc := [], rt := [], cut := [], quiet := [], avoid := [] }
def vf39 : VF := ⟨[0, 1, 4], [0], true, c39_0, [.tmp 4]⟩
@[simp] theorem res39 : vf39.res = [.tmp 4] := rfl
theorem tab39 : compileFn Try.prog hh39 vf39.kept vf39.cons Try.f39 = some vf39 := by kernel_rfl

/- exchangepoint/ether.get -/
@[simp] def r40_1 : List VOper := [⟨some 2, .mv (.const (.int .i64 0)), none⟩]
def c40_1 : VC := .region r40_1
@[simp] theorem e40_1 {v0 v2 : V} : execK cf sg m c40_1 ⟨clk, [(0, v0), (2, v2)], tips, lk, bx⟩ k = runK cf sg tips r40_1 ⟨clk + 1, [(0, v0), (2, v2)], tips, lk, bx⟩ (endK 2 k) := execK_region
@[simp] def r40_3 : List VOper := [⟨some 3, .mv (.tmp 0), none⟩, ⟨some 4, .idxS 1 (.tmp 3) (.const (.int .i64 0)), none⟩, ⟨some 5, .load (.e []) false 1 (.tmp 4), none⟩, ⟨some 6, .convI .i64 (.tmp 5), none⟩, ⟨some 7, .bin .shl (.tmp 6) (.const (.int .u64 8)), none⟩, ⟨some 8, .mv (.tmp 0), none⟩, ⟨some 9, .idxS 1 (.tmp 8) (.const (.int .i64 1)), none⟩, ⟨some 10, .load (.e []) false 1 (.tmp 9), none⟩, ⟨some 11, .convI .i64 (.tmp 10), none⟩, ⟨some 12, .bin .or (.tmp 7) (.tmp 11), none⟩, ⟨some 2, .mv (.tmp 12), none⟩]
def c40_3 : VC := .region r40_3
@[simp] theorem e40_3 {v0 v2 : V} : execK cf sg m c40_3 ⟨clk, [(0, v0), (2, v2)], tips, lk, bx⟩ k = runK cf sg tips r40_3 ⟨clk + 1, [(0, v0), (2, v2)], tips, lk, bx⟩ (endK 2 k) := execK_region
def c40_4 : VC := .ret
@[simp] theorem e40_4 {e : Env} : execK cf sg m c40_4 ⟨clk, e, tips, lk, bx⟩ k = execK cf sg m (.ret) ⟨clk, e, tips, lk, bx⟩ k := rfl
def c40_2 : VC := .seq c40_3 c40_4
@[simp] theorem e40_2 {e : Env} : execK cf sg m c40_2 ⟨clk, e, tips, lk, bx⟩ k = execK cf sg m (.seq c40_3 c40_4) ⟨clk, e, tips, lk, bx⟩ k := rfl
def c40_0 : VC := .seq c40_1 c40_2
@[simp] theorem e40_0 {e : Env} : execK cf sg m c40_0 ⟨clk, e, tips, lk, bx⟩ k = execK cf sg m (.seq c40_1 c40_2) ⟨clk, e, tips, lk, bx⟩ k := rfl
def hh40 : Hints := { esc := [], rt := [(4, .e []), (9, .e [])], cut := [], quiet := [], avoid := [] }
def vf40 : VF := ⟨[0, 2], [], true, c40_0, [.tmp 2]⟩
@[simp] theorem res40 : vf40.res = [.tmp 2] := rfl
theorem tab40 : compileFn Try.prog hh40 vf40.kept vf40.cons Try.f40 = some vf40 := by kernel_rfl

/-- The table. -/
def FT : Nat → Option Entry
  | 3 => some (.code vf3)
  | 4 => some (.code vf4)
  | 5 => some (.code vf5)
  | 6 => some (.code vf6)
  | 7 => some (.code vf7)
  | 8 => some (.code vf8)
  | 9 => some (.code vf9)
  | 10 => some (.code vf10)
  | 11 => some (.code vf11)
  | 12 => some (.code vf12)
  | 13 => some (.code vf13)
  | 14 => some (.code vf14)
  | 15 => some (.code vf15)
  | 16 => some (.code vf16)
  | 17 => some (.code vf17)
  | 18 => some (.code vf18)
  | 19 => some (.code vf19)
  | 20 => some (.code vf20)
  | 21 => some (.code vf21)
  | 22 => some (.code vf22)
  | 23 => some (.code vf23)
  | 24 => some (.code vf24)
  | 25 => some (.code vf25)
  | 26 => some (.code vf26)
  | 27 => some (.code vf27)
  | 28 => some (.code vf28)
  | 29 => some (.code vf29)
  | 30 => some (.code vf30)
  | 31 => some (.code vf31)
  | 32 => some (.code vf32)
  | 33 => some (.code vf33)
  | 36 => some (.code vf36)
  | 37 => some (.code vf37)
  | 38 => some (.code vf38)
  | 39 => some (.code vf39)
  | 40 => some (.code vf40)
  | 34 => some (.prim [] pJoin)
  | 35 => some (.prim [] pIndexByte)
  | _ => none
theorem FT3 : FT 3 = some (.code vf3) := rfl
@[simp] theorem sg3 : sigOf FT 3 = ⟨[], true⟩ := rfl
theorem FT4 : FT 4 = some (.code vf4) := rfl
@[simp] theorem sg4 : sigOf FT 4 = ⟨[], true⟩ := rfl
theorem FT5 : FT 5 = some (.code vf5) := rfl
@[simp] theorem sg5 : sigOf FT 5 = ⟨[], false⟩ := rfl
theorem FT6 : FT 6 = some (.code vf6) := rfl
@[simp] theorem sg6 : sigOf FT 6 = ⟨[], false⟩ := rfl
theorem FT7 : FT 7 = some (.code vf7) := rfl
@[simp] theorem sg7 : sigOf FT 7 = ⟨[], false⟩ := rfl
theorem FT8 : FT 8 = some (.code vf8) := rfl
@[simp] theorem sg8 : sigOf FT 8 = ⟨[], true⟩ := rfl
theorem FT9 : FT 9 = some (.code vf9) := rfl
@[simp] theorem sg9 : sigOf FT 9 = ⟨[], true⟩ := rfl
theorem FT10 : FT 10 = some (.code vf10) := rfl
@[simp] theorem sg10 : sigOf FT 10 = ⟨[], true⟩ := rfl
theorem FT11 : FT 11 = some (.code vf11) := rfl
@[simp] theorem sg11 : sigOf FT 11 = ⟨[], true⟩ := rfl
theorem FT12 : FT 12 = some (.code vf12) := rfl
@[simp] theorem sg12 : sigOf FT 12 = ⟨[], true⟩ := rfl
theorem FT13 : FT 13 = some (.code vf13) := rfl
@[simp] theorem sg13 : sigOf FT 13 = ⟨[], true⟩ := rfl
theorem FT14 : FT 14 = some (.code vf14) := rfl
@[simp] theorem sg14 : sigOf FT 14 = ⟨[], true⟩ := rfl
theorem FT15 : FT 15 = some (.code vf15) := rfl
@[simp] theorem sg15 : sigOf FT 15 = ⟨[], true⟩ := rfl
theorem FT16 : FT 16 = some (.code vf16) := rfl
@[simp] theorem sg16 : sigOf FT 16 = ⟨[], true⟩ := rfl
theorem FT17 : FT 17 = some (.code vf17) := rfl
@[simp] theorem sg17 : sigOf FT 17 = ⟨[], true⟩ := rfl
theorem FT18 : FT 18 = some (.code vf18) := rfl
@[simp] theorem sg18 : sigOf FT 18 = ⟨[], true⟩ := rfl
theorem FT19 : FT 19 = some (.code vf19) := rfl
@[simp] theorem sg19 : sigOf FT 19 = ⟨[], true⟩ := rfl
theorem FT20 : FT 20 = some (.code vf20) := rfl
@[simp] theorem sg20 : sigOf FT 20 = ⟨[], true⟩ := rfl
theorem FT21 : FT 21 = some (.code vf21) := rfl
@[simp] theorem sg21 : sigOf FT 21 = ⟨[], true⟩ := rfl
theorem FT22 : FT 22 = some (.code vf22) := rfl
@[simp] theorem sg22 : sigOf FT 22 = ⟨[], true⟩ := rfl
theorem FT23 : FT 23 = some (.code vf23) := rfl
@[simp] theorem sg23 : sigOf FT 23 = ⟨[], true⟩ := rfl
theorem FT24 : FT 24 = some (.code vf24) := rfl
@[simp] theorem sg24 : sigOf FT 24 = ⟨[], true⟩ := rfl
theorem FT25 : FT 25 = some (.code vf25) := rfl
@[simp] theorem sg25 : sigOf FT 25 = ⟨[], false⟩ := rfl
theorem FT26 : FT 26 = some (.code vf26) := rfl
@[simp] theorem sg26 : sigOf FT 26 = ⟨[], true⟩ := rfl
theorem FT27 : FT 27 = some (.code vf27) := rfl
@[simp] theorem sg27 : sigOf FT 27 = ⟨[], true⟩ := rfl
theorem FT28 : FT 28 = some (.code vf28) := rfl
@[simp] theorem sg28 : sigOf FT 28 = ⟨[], true⟩ := rfl
theorem FT29 : FT 29 = some (.code vf29) := rfl
@[simp] theorem sg29 : sigOf FT 29 = ⟨[], true⟩ := rfl
theorem FT30 : FT 30 = some (.code vf30) := rfl
@[simp] theorem sg30 : sigOf FT 30 = ⟨[], true⟩ := rfl
theorem FT31 : FT 31 = some (.code vf31) := rfl
@[simp] theorem sg31 : sigOf FT 31 = ⟨[], true⟩ := rfl
theorem FT32 : FT 32 = some (.code vf32) := rfl
@[simp] theorem sg32 : sigOf FT 32 = ⟨[], true⟩ := rfl
theorem FT33 : FT 33 = some (.code vf33) := rfl
@[simp] theorem sg33 : sigOf FT 33 = ⟨[], true⟩ := rfl
theorem FT36 : FT 36 = some (.code vf36) := rfl
@[simp] theorem sg36 : sigOf FT 36 = ⟨[], true⟩ := rfl
theorem FT37 : FT 37 = some (.code vf37) := rfl
@[simp] theorem sg37 : sigOf FT 37 = ⟨[], false⟩ := rfl
theorem FT38 : FT 38 = some (.code vf38) := rfl
@[simp] theorem sg38 : sigOf FT 38 = ⟨[], false⟩ := rfl
theorem FT39 : FT 39 = some (.code vf39) := rfl
@[simp] theorem sg39 : sigOf FT 39 = ⟨[0], true⟩ := rfl
theorem FT40 : FT 40 = some (.code vf40) := rfl
@[simp] theorem sg40 : sigOf FT 40 = ⟨[], true⟩ := rfl
@[simp] theorem sg34 : sigOf FT 34 = ⟨[], true⟩ := rfl
@[simp] theorem sg35 : sigOf FT 35 = ⟨[], true⟩ := rfl

end Go.Proofs.Ytndaipcfahfkkaa
