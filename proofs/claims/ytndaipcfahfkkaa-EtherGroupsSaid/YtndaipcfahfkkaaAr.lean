/- Numbers of the machine as plain numbers. -/
import Derived.Test.YtndaipcfahfkkaaVM35
namespace Go.VM

theorem wrap_u8 (n : Int) : IntKind.u8.wrap n = n % 256 := rfl
theorem wrap_u16 (n : Int) : IntKind.u16.wrap n = n % 65536 := rfl
theorem wrap_u32 (n : Int) : IntKind.u32.wrap n = n % 4294967296 := rfl
theorem wrap_u64 (n : Int) : IntKind.u64.wrap n = n % 18446744073709551616 := rfl
theorem wrap_self {k : IntKind} {n : Int} (h : k.min ≤ n) (h2 : n ≤ k.max) : k.wrap n = n := by
  cases k <;> simp [IntKind.wrap, IntKind.min, IntKind.max, IntKind.signed, IntKind.bits] at h h2 ⊢ <;> first | omega | (split <;> omega)
theorem wrap_i64 {n : Int} (h : -9223372036854775808 ≤ n) (h2 : n ≤ 9223372036854775807) : IntKind.i64.wrap n = n := wrap_self h h2

theorem wrap_nat {k : IntKind} {n : Nat} {j : Nat} (hj : j < k.bits) (h : n < 2 ^ j) : k.wrap (n : Int) = n := by
  have hp : (2 : Nat) ^ j ≤ 2 ^ (k.bits - 1) := Nat.pow_le_pow_right (by omega) (by omega)
  have h2 : (n : Int) < (2 : Int) ^ (k.bits - 1) := by
    have : n < 2 ^ (k.bits - 1) := by omega
    exact_mod_cast this
  apply wrap_self
  · unfold IntKind.min
    have : (0 : Int) ≤ 2 ^ (k.bits - 1) := Int.pow_nonneg (by decide)
    split <;> omega
  · unfold IntKind.max
    cases k <;> simp [IntKind.bits, IntKind.signed] at h2 ⊢ <;> omega

theorem ofInt_nat (w n : Nat) (h : n < 2 ^ w) : (BitVec.ofInt w (n : Int)).toNat = n := by
  rw [BitVec.ofInt_natCast, BitVec.toNat_ofNat]; exact Nat.mod_eq_of_lt h

theorem bits_and_nat {k : IntKind} {a b : Nat} (ha : a < 2 ^ k.bits) (hb : b < 2 ^ k.bits) : bits .and k (a : Int) (b : Int) = k.wrap ((a &&& b : Nat) : Int) := by
  show k.wrap ((BitVec.ofInt k.bits (a : Int) &&& BitVec.ofInt k.bits (b : Int)).toNat : Int) = _
  rw [BitVec.toNat_and, ofInt_nat _ _ ha, ofInt_nat _ _ hb]
theorem bits_or_nat {k : IntKind} {a b : Nat} (ha : a < 2 ^ k.bits) (hb : b < 2 ^ k.bits) : bits .or k (a : Int) (b : Int) = k.wrap ((a ||| b : Nat) : Int) := by
  show k.wrap ((BitVec.ofInt k.bits (a : Int) ||| BitVec.ofInt k.bits (b : Int)).toNat : Int) = _
  rw [BitVec.toNat_or, ofInt_nat _ _ ha, ofInt_nat _ _ hb]
theorem bits_xor_nat {k : IntKind} {a b : Nat} (ha : a < 2 ^ k.bits) (hb : b < 2 ^ k.bits) : bits .xor k (a : Int) (b : Int) = k.wrap ((a ^^^ b : Nat) : Int) := by
  show k.wrap ((BitVec.ofInt k.bits (a : Int) ^^^ BitVec.ofInt k.bits (b : Int)).toNat : Int) = _
  rw [BitVec.toNat_xor, ofInt_nat _ _ ha, ofInt_nat _ _ hb]

/-- The lowest digits. -/
theorem bits_and_mask {k : IntKind} {j : Nat} {a : Int} (hj : j < k.bits) (h0 : 0 ≤ a) (h : a < 2 ^ k.bits) : bits .and k a (2 ^ j - 1) = a % 2 ^ j := by
  obtain ⟨n, rfl⟩ := Int.eq_ofNat_of_zero_le h0
  have h' : n < 2 ^ k.bits := by exact_mod_cast h
  have h1 : (1 : Nat) ≤ 2 ^ j := Nat.one_le_two_pow
  have hp : (2 : Nat) ^ j ≤ 2 ^ k.bits := Nat.pow_le_pow_right (by omega) (by omega)
  have e : ((2 : Int) ^ j - 1) = ((2 ^ j - 1 : Nat) : Int) := by
    rw [Int.ofNat_sub h1]; norm_cast
  rw [e, bits_and_nat h' (by omega), Nat.and_two_pow_sub_one_eq_mod]
  rw [wrap_nat hj (Nat.mod_lt _ (by omega))]
  norm_cast

theorem and1 {k : IntKind} {a : Int} (h0 : 0 ≤ a) (h : a < 2 ^ k.bits) : bits .and k a 1 = a % 2 := bits_and_mask (j := 1) (by cases k <;> decide) h0 h
theorem and15 {k : IntKind} {a : Int} (h0 : 0 ≤ a) (h : a < 2 ^ k.bits) : bits .and k a 15 = a % 16 := bits_and_mask (j := 4) (by cases k <;> decide) h0 h
end Go.VM
