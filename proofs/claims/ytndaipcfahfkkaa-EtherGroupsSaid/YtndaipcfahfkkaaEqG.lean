/- The law on groups. -/
import Derived.Test.YtndaipcfahfkkaaTab
import Derived.Test.YtndaipcfahfkkaaAr
namespace Go.Proofs.Ytndaipcfahfkkaa
open Go.VM
set_option maxRecDepth 100000
set_option maxHeartbeats 1000000

theorem awake_at : call FT 40 8 [] [] = some (.bool true, []) := by kernel_rfl
theorem awake_eq {N : Nat} (h : 40 ≤ N) : call FT N 8 [] [] = some (.bool true, []) := call_le h awake_at

abbrev mac6 (a b c d e f : Int) : V := .agg [.int .u8 a, .int .u8 b, .int .u8 c, .int .u8 d, .int .u8 e, .int .u8 f]

theorem Group_eq {N : Nat} (h : 1 ≤ N) (a b c d e f : Int) (bx : BX) : call FT N 12 [mac6 a b c d e f] bx = some (.bool (bits .and .u8 a 1 == 1), bx) := by
  obtain ⟨N, rfl⟩ : ∃ n, N = n + 1 := ⟨N - 1, by omega⟩
  rw [call_code FT12]
  simp [vf12, entry]
theorem Reserved_eq {N : Nat} (h : 1 ≤ N) (a b c d e f : Int) (bx : BX) : call FT N 14 [mac6 a b c d e f] bx = some (.bool ((a == 1 && (b == 128 && (c == 194 && (d == 0 && e == 0)))) && decide (f ≤ 15)), bx) := by
  obtain ⟨N, rfl⟩ : ∃ n, N = n + 1 := ⟨N - 1, by omega⟩
  rw [call_code FT14]
  simp [vf14, entry]
theorem Solicited_eq {N : Nat} (h : 1 ≤ N) (v : Bool) (a b : Int) (bx : BX) : call FT N 21 [.agg [.bool v, .int .u64 a, .int .u64 b]] bx =
    brK v (some (mac6 51 51 255 (IntKind.u8.wrap (b.fdiv 65536)) (IntKind.u8.wrap (b.fdiv 256)) (IntKind.u8.wrap b), bx)) (some (mac6 0 0 0 0 0 0, bx)) := by
  obtain ⟨N, rfl⟩ : ∃ n, N = n + 1 := ⟨N - 1, by omega⟩
  rw [call_code FT21]
  simp [vf21, entry]
theorem Broadcast_eq {N : Nat} (h : 1 ≤ N) (bx : BX) : call FT N 16 [] bx = some (mac6 255 255 255 255 255 255, bx) := by
  obtain ⟨N, rfl⟩ : ∃ n, N = n + 1 := ⟨N - 1, by omega⟩
  rw [call_code FT16]
  simp [vf16, entry]
theorem MAC_eq {N : Nat} (h : 1 ≤ N) (n : Int) (bx : BX) : call FT N 23 [.int .i64 n] bx = some (mac6 2 0 (IntKind.u8.wrap (n.fdiv 16777216)) (IntKind.u8.wrap (n.fdiv 65536)) (IntKind.u8.wrap (n.fdiv 256)) (IntKind.u8.wrap n), bx) := by
  obtain ⟨N, rfl⟩ : ∃ n, N = n + 1 := ⟨N - 1, by omega⟩
  rw [call_code FT23]
  simp [vf23, entry]

theorem and_ffffff {a b : Int} (ha : 0 ≤ a) (ha2 : a ≤ 18446744073709551615) (hb : 0 ≤ b) (hb2 : b ≤ 18446744073709551615) :
    ((IntKind.u8.wrap (a.fdiv 65536) == IntKind.u8.wrap (b.fdiv 65536) && (IntKind.u8.wrap (a.fdiv 256) == IntKind.u8.wrap (b.fdiv 256) && IntKind.u8.wrap a == IntKind.u8.wrap b)) == (bits .and .u64 a 16777215 == bits .and .u64 b 16777215)) = true := by
  have e1 : bits .and .u64 a 16777215 = a % 16777216 := bits_and_mask (k := .u64) (j := 24) (by decide) ha (by show a < 18446744073709551616; omega)
  have e2 : bits .and .u64 b 16777215 = b % 16777216 := bits_and_mask (k := .u64) (j := 24) (by decide) hb (by show b < 18446744073709551616; omega)
  rw [e1, e2]
  simp only [wrap_u8, Int.fdiv_eq_ediv_of_nonneg _ (show (0 : Int) ≤ 65536 by decide), Int.fdiv_eq_ediv_of_nonneg _ (show (0 : Int) ≤ 256 by decide)]
  rw [beq_iff_eq, Bool.eq_iff_iff]
  simp only [Bool.and_eq_true, beq_iff_eq]
  omega

theorem Groups_law {N : Nat} (h : 41 ≤ N) (v w : Bool) (a b a' b' n c : Int) (hb : 0 ≤ b) (hb2 : b ≤ 18446744073709551615) (hb' : 0 ≤ b') (hb2' : b' ≤ 18446744073709551615) (hc : 0 ≤ c) (hc2 : c ≤ 255) :
    call FT N 4 [.agg [.bool v, .int .u64 a, .int .u64 b], .agg [.bool w, .int .u64 a', .int .u64 b'], .int .i64 n, .int .u8 c] [] = some (.bool true, []) := by
  obtain ⟨N, rfl⟩ : ∃ n, N = n + 1 := ⟨N - 1, by omega⟩
  have h1 : 1 ≤ N := by omega
  have h40 : 40 ≤ N := by omega
  have e15 : bits .and .u8 c 15 = c % 16 := and15 hc (by show c < 256; omega)
  have e15' : c % 16 ≤ 15 := by omega
  have k1 : bits .and .u8 51 1 = 1 := by decide
  have k2 : bits .and .u8 255 1 = 1 := by decide
  have k3 : bits .and .u8 2 1 = 0 := by decide
  rw [call_code FT4]
  simp [vf4, entry, awake_eq h40, Group_eq h1, Reserved_eq h1, Solicited_eq h1, Broadcast_eq h1, MAC_eq h1, sigOf, FT21, vf21, FT12, vf12, FT16, vf16, FT14, vf14, FT23, vf23, FT8, vf8, and_ffffff hb hb2 hb' hb2', e15, e15', k1, k2, k3, keepBoxes]
end Go.Proofs.Ytndaipcfahfkkaa
