/- Wide numbers: shifts and unions of 64 bits, bytes of a number, most significant first. -/
import Derived.Test.YtlgnmgbnbomckaaGreatDoorTC
namespace Go.VM
def U64 (x : Int) : Prop := 0 ≤ x ∧ x < 18446744073709551616
theorem shl64 {x : Int} {n : Nat} (hn : n ≤ 64) : aIc .u64 x n = x * 2 ^ n % 18446744073709551616 := by
 unfold aIc
 rw [show min n IntKind.u64.bits = n from Nat.min_eq_left hn, aJJ]
theorem shr64 {x : Int} {n : Nat} (hn : n ≤ 64) (h0 : 0 ≤ x) : aJP .u64 x n = x / 2 ^ n := by
 rw [aJ4 _ _ _ hn, Int.fdiv_eq_ediv_of_nonneg _ (Int.pow_nonneg (by decide))]
/-- A union of a multiple of 2^k and a gT below it. -/
theorem or64 {a b : Int} (k : Nat) (ha : U64 a) (hd : (2 : Int) ^ k ∣ a) (hb : 0 ≤ b) (hb2 : b < 2 ^ k) (hk : k ≤ 64) : bits .or .u64 a b = a + b := by
 obtain ⟨c, rfl⟩ := hd
 obtain ⟨h0, h1⟩ := ha
 have hp : (0 : Int) < 2 ^ k := Int.pow_pos (by decide)
 have hc : 0 ≤ c := by
  by_cases hc : 0 ≤ c
  · exact hc
  · have := Int.mul_neg_of_pos_of_neg hp (by omega : c < 0)
    omega
 obtain ⟨c, rfl⟩ := Int.eq_ofNat_of_zero_le hc
 obtain ⟨b, rfl⟩ := Int.eq_ofNat_of_zero_le hb
 have hb' : b < 2 ^ k := by exact_mod_cast hb2
 have e : (2 : Int) ^ k * (c : Int) = ((c <<< k : Nat) : Int) := by
  rw [Nat.shiftLeft_eq, Int.mul_comm, Int.natCast_mul, Int.natCast_pow]; rfl
 rw [e] at h1 ⊢
 have h1' : c <<< k < 18446744073709551616 := Int.ofNat_lt.1 h1
 have hk' : (2 : Nat) ^ k ≤ 2 ^ 64 := Nat.pow_le_pow_right (by omega) hk
 rw [aBG (by show _ < 2 ^ 64; omega) (by show _ < 2 ^ 64; omega)]
 rw [← Nat.shiftLeft_add_eq_or_of_lt hb', aJJ]
 have h2 : c <<< k + b < 18446744073709551616 := by
  have h3 : c <<< k = c * 2 ^ k := Nat.shiftLeft_eq _ _
  have h4 : (2 : Nat) ^ 64 = 2 ^ (64 - k) * 2 ^ k := by rw [← Nat.pow_add]; congr 1; omega
  have h5 : c * 2 ^ k < 2 ^ (64 - k) * 2 ^ k := by rw [← h4, ← h3]; omega
  have h6 : c < 2 ^ (64 - k) := Nat.lt_of_mul_lt_mul_right h5
  have h7 : (c + 1) * 2 ^ k ≤ 2 ^ (64 - k) * 2 ^ k := Nat.mul_le_mul_right _ (by omega)
  rw [← h4, Nat.add_mul, Nat.one_mul] at h7
  omega
 omega
theorem or64' {a b : Int} (k : Nat) (ha : U64 a) (hd : (2 : Int) ^ k ∣ a) (hb : 0 ≤ b) (hb2 : b < 2 ^ k) (hk : k ≤ 64) : bits .or .u64 b a = a + b := by
 rw [← or64 k ha hd hb hb2 hk]
 obtain ⟨h0, h1⟩ := ha
 obtain ⟨a, rfl⟩ := Int.eq_ofNat_of_zero_le h0
 obtain ⟨b, rfl⟩ := Int.eq_ofNat_of_zero_le hb
 have hb' : b < 2 ^ k := by exact_mod_cast hb2
 have hk' : (2 : Nat) ^ k ≤ 2 ^ 64 := Nat.pow_le_pow_right (by omega) hk
 have ha' : a < 18446744073709551616 := Int.ofNat_lt.1 h1
 rw [aBG (by show _ < 2 ^ 64; omega) (by show _ < 2 ^ 64; omega), aBG (by show _ < 2 ^ 64; omega) (by show _ < 2 ^ 64; omega), Nat.or_comm]
theorem mask16 {x : Int} (h : U64 x) : bits .and .u64 x 65535 = x % 65536 := nB (j := 16) (by decide) h.1 h.2
/-- The lowest n bytes of a gT, most significant first. -/
def beI : Nat → Int → List Int
 | 0, _ => []
 | n + 1, v => (v / 256 ^ n % 256) :: beI n v
theorem beI_length : ∀ (n : Nat) (v : Int), (beI n v).length = n
 | 0, _ => rfl
 | n + 1, v => by rw [beI, List.length_cons, beI_length n v]
theorem beI_rng : ∀ (n : Nat) (v : Int), ∀ x ∈ beI n v, 0 ≤ x ∧ x ≤ 255
 | 0, _, x, h => by cases h
 | n + 1, v, x, h => by
  rcases List.mem_cons.1 h with rfl | h
  · omega
  · exact beI_rng n v x h
theorem beI_get : ∀ (n : Nat) (v : Int) (j : Nat) (h : j < n), (beI n v)[j]'(by rw [beI_length]; exact h) = v / 256 ^ (n - 1 - j) % 256
 | n + 1, v, 0, _ => rfl
 | n + 1, v, j + 1, h => by
  simp only [beI, List.getElem_cons_succ]
  rw [beI_get n v j (by omega), show n + 1 - 1 - (j + 1) = n - 1 - j by omega]
theorem beI_take {n : Nat} {v : Int} {k : Nat} (h : k < n) : (beI n v).take (k + 1) = (beI n v).take k ++ [v / 256 ^ (n - 1 - k) % 256] := by
 rw [List.take_add_one, List.getElem?_eq_getElem (by rw [beI_length]; exact h), beI_get n v k h]
 rfl
theorem pow256 (n : Nat) : (0 : Int) < 256 ^ n := Int.pow_pos (by decide)
theorem mod_split (v : Int) (n : Nat) : v % 256 ^ (n + 1) = (v / 256 ^ n % 256) * 256 ^ n + v % 256 ^ n := by
 have hp := pow256 n
 have h1 := Int.emod_nonneg v (Int.ne_of_gt hp)
 have h2 := Int.emod_lt_of_pos v hp
 have h3 := Int.mul_ediv_add_emod v (256 ^ n)
 have h4 := Int.mul_ediv_add_emod (v / 256 ^ n) 256
 have h5 : 0 ≤ v / 256 ^ n % 256 ∧ v / 256 ^ n % 256 < 256 := by omega
 have h6 : (v / 256 ^ n % 256) * 256 ^ n ≤ 255 * 256 ^ n := Int.mul_le_mul_of_nonneg_right (by omega) (Int.le_of_lt hp)
 have h7 : 0 ≤ (v / 256 ^ n % 256) * 256 ^ n := Int.mul_nonneg h5.1 (Int.le_of_lt hp)
 have e : v = (v / 256 ^ n % 256) * 256 ^ n + v % 256 ^ n + 256 ^ (n + 1) * (v / 256 ^ n / 256) := by
  conv => lhs; rw [← h3, ← h4]
  generalize v / 256 ^ n / 256 = q, v / 256 ^ n % 256 = r, v % 256 ^ n = s
  rw [Int.mul_add, Int.pow_succ]
  have e1 : (256 : Int) ^ n * (256 * q) = 256 ^ n * 256 * q := by rw [Int.mul_assoc]
  have e2 : (256 : Int) ^ n * r = r * 256 ^ n := Int.mul_comm _ _
  omega
 conv => lhs; rw [e]
 rw [Int.add_mul_emod_self_left, Int.emod_eq_of_lt (by omega) (by rw [Int.pow_succ]; omega)]
end Go.VM
