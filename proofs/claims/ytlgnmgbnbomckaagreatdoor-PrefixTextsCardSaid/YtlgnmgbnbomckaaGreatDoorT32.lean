/- Wide numbers in binary: what a mask leaves and adds, single bits, the common beginning of two numbers. -/
import Derived.Test.YtlgnmgbnbomckaaGreatDoorT29
namespace Go.VM
/-- The greatest multiple of 2^k up to v. -/
def fl (v : Int) (k : Nat) : Int := v / 2 ^ k * 2 ^ k
theorem p2 (k : Nat) : (0 : Int) < 2 ^ k := Int.pow_pos (by decide)
theorem fl_eq (v : Int) (k : Nat) : fl v k = v - v % 2 ^ k := by
 have := Int.mul_ediv_add_emod v (2 ^ k)
 unfold fl
 rw [Int.mul_comm] at this
 omega
theorem fl_le (v : Int) (k : Nat) : fl v k ≤ v ∧ v < fl v k + 2 ^ k := by
 have h1 := Int.emod_nonneg v (Int.ne_of_gt (p2 k))
 have h2 := Int.emod_lt_of_pos v (p2 k)
 rw [fl_eq]; omega
theorem fl_dvd (v : Int) (k : Nat) : (2 : Int) ^ k ∣ fl v k := ⟨v / 2 ^ k, Int.mul_comm _ _⟩
theorem fl_nonneg {v : Int} (h : 0 ≤ v) (k : Nat) : 0 ≤ fl v k := Int.mul_nonneg (Int.ediv_nonneg h (Int.le_of_lt (p2 k))) (Int.le_of_lt (p2 k))
theorem fl_self {v : Int} {k : Nat} (h : (2 : Int) ^ k ∣ v) : fl v k = v := Int.ediv_mul_cancel h
theorem fl_uniq {v A : Int} {k : Nat} (h : (2 : Int) ^ k ∣ A) : fl v k = A ↔ A ≤ v ∧ v < A + 2 ^ k := by
 constructor
 · rintro rfl; exact fl_le v k
 · rintro ⟨h1, h2⟩
   obtain ⟨q, rfl⟩ := h
   unfold fl
   have hp := p2 k
   have : v / 2 ^ k = q := by
    apply Int.le_antisymm
    · have := (Int.ediv_lt_iff_lt_mul (a := v) (b := q + 1) hp).2 (by rw [Int.add_mul, Int.one_mul, Int.mul_comm q]; exact h2)
      omega
    · exact (Int.le_ediv_iff_mul_le hp).2 (by rw [Int.mul_comm]; exact h1)
   rw [this, Int.mul_comm]
theorem p2_dvd {j k : Nat} (h : j ≤ k) : (2 : Int) ^ j ∣ 2 ^ k := ⟨2 ^ (k - j), by rw [← Int.pow_add]; congr 1; omega⟩
theorem fl_fl {v : Int} {j k : Nat} (h : j ≤ k) : fl (fl v j) k = fl v k := by
 have h1 := fl_le v j
 have h2 := fl_le v k
 refine (fl_uniq (fl_dvd v k)).2 ⟨?_, by omega⟩
 have hd : (2 : Int) ^ j ∣ fl v k := Int.dvd_trans (p2_dvd h) (fl_dvd v k)
 obtain ⟨q, hq⟩ := hd
 unfold fl at *
 rw [hq] at h2 ⊢
 have hp := p2 j
 have : q ≤ v / 2 ^ j := (Int.le_ediv_iff_mul_le hp).2 (by rw [Int.mul_comm]; exact h2.1)
 rw [Int.mul_comm]
 exact Int.mul_le_mul_of_nonneg_right this (Int.le_of_lt hp)
theorem fl_zero (v : Int) : fl v 0 = v := fl_self ⟨v, by simp⟩
theorem natpow (k : Nat) : (2 : Int) ^ k = ((2 ^ k : Nat) : Int) := by rw [Int.natCast_pow]; rfl
theorem natmask (k : Nat) : (2 : Int) ^ k - 1 = ((2 ^ k - 1 : Nat) : Int) := by
 have : 0 < 2 ^ k := Nat.two_pow_pos k
 rw [natpow]; omega
theorem natfl (a k : Nat) : fl (a : Int) k = ((a / 2 ^ k * 2 ^ k : Nat) : Int) := by
 unfold fl; rw [natpow, ← Int.natCast_ediv, ← Int.natCast_mul]
theorem testBit_fl (a k i : Nat) : (a / 2 ^ k * 2 ^ k).testBit i = (decide (k ≤ i) && a.testBit i) := by
 rw [Nat.testBit_mul_two_pow, Nat.testBit_div_two_pow]
 by_cases h : k ≤ i
 · simp only [h, decide_true, Bool.true_and]
   congr 1; omega
 · simp [h]
theorem andNot64 {a : Int} (k : Nat) (ha : U64 a) (hk : k ≤ 64) : bits .andNot .u64 a (2 ^ k - 1) = fl a k := by
 obtain ⟨h0, h1⟩ := ha
 obtain ⟨a, rfl⟩ := Int.eq_ofNat_of_zero_le h0
 have h1' : a < 2 ^ 64 := Int.ofNat_lt.1 h1
 have hp : 2 ^ k ≤ 2 ^ 64 := Nat.pow_le_pow_right (by omega) hk
 have hp0 : 0 < 2 ^ k := Nat.two_pow_pos k
 rw [natmask, natfl]
 show IntKind.u64.wrap ((BitVec.ofInt 64 (a : Int) &&& ~~~ BitVec.ofInt 64 ((2 ^ k - 1 : Nat) : Int)).toNat : Int) = _
 have e : (BitVec.ofInt 64 (a : Int) &&& ~~~ BitVec.ofInt 64 ((2 ^ k - 1 : Nat) : Int)).toNat = a / 2 ^ k * 2 ^ k := by
  apply Nat.eq_of_testBit_eq
  intro i
  rw [testBit_fl, BitVec.testBit_toNat, BitVec.getLsbD_and, BitVec.getLsbD_not, ← BitVec.testBit_toNat, ← BitVec.testBit_toNat, iH _ _ h1', iH _ _ (by omega), Nat.testBit_two_pow_sub_one]
  by_cases hi : i < 64
  · by_cases hki : k ≤ i
    · have : ¬ i < k := by omega
      simp [hi, hki, this]
    · have : i < k := by omega
      simp [hi, hki, this]
  · have : a.testBit i = false := Nat.testBit_lt_two_pow (Nat.lt_of_lt_of_le h1' (Nat.pow_le_pow_right (by omega) (by omega)))
    simp [this]
 rw [e, aJJ]
 have := Nat.div_mul_le_self a (2 ^ k)
 omega
/- single bits -/
def bitI (v : Int) (t : Nat) : Int := v / 2 ^ t % 2
theorem bitI_rng (v : Int) (t : Nat) : 0 ≤ bitI v t ∧ bitI v t ≤ 1 := by unfold bitI; omega
theorem mod_bit (v : Int) (t : Nat) : v % 2 ^ (t + 1) = v % 2 ^ t + bitI v t * 2 ^ t := by
 have h1 := Int.mul_ediv_add_emod v (2 ^ t)
 have h2 := Int.mul_ediv_add_emod (v / 2 ^ t) 2
 have hp := p2 t
 have h3 := Int.emod_nonneg v (Int.ne_of_gt hp)
 have h4 := Int.emod_lt_of_pos v hp
 have hb := bitI_rng v t
 unfold bitI at *
 generalize v / 2 ^ t / 2 = q at *
 generalize v / 2 ^ t % 2 = b at *
 have e : v = (v % 2 ^ t + b * 2 ^ t) + 2 ^ (t + 1) * q := by
  conv => lhs; rw [← h1, ← h2]
  rw [Int.pow_succ, Int.mul_add, Int.mul_assoc, Int.mul_comm _ b]; omega
 conv => lhs; rw [e]
 rw [Int.add_mul_emod_self_left]
 apply Int.emod_eq_of_lt
 · have := Int.mul_nonneg hb.1 (Int.le_of_lt hp); omega
 · have : b * 2 ^ t ≤ 1 * 2 ^ t := Int.mul_le_mul_of_nonneg_right hb.2 (Int.le_of_lt hp)
   rw [Int.pow_succ]; omega
theorem bit_of {A r : Int} {t : Nat} (hA : (2 : Int) ^ (t + 1) ∣ A) (b : Int) (hb : 0 ≤ b ∧ b ≤ 1) (hr : 0 ≤ r ∧ r < 2 ^ t) : bitI (A + b * 2 ^ t + r) t = b := by
 obtain ⟨q, rfl⟩ := hA
 have hp := p2 t
 unfold bitI
 have : ((2 : Int) ^ (t + 1) * q + b * 2 ^ t + r) / 2 ^ t = 2 * q + b := by
  rw [Int.pow_succ, show (2 : Int) ^ t * 2 * q + b * 2 ^ t + r = r + 2 ^ t * (2 * q + b) by rw [Int.mul_add, Int.mul_assoc, Int.mul_comm b]; omega]
  rw [Int.add_mul_ediv_left _ _ (Int.ne_of_gt hp), Int.ediv_eq_zero_of_lt hr.1 hr.2]; omega
 rw [this]; omega
/- bytes with a bit changed -/
theorem beI_set : ∀ (n : Nat) (v x : Int) (j : Nat) (_ : j < n) (_ : 0 ≤ x ∧ x ≤ 255), (beI n v).set j x = beI n (v + (x - v / 256 ^ (n - 1 - j) % 256) * 256 ^ (n - 1 - j))
 | n + 1, v, x, 0, _, hx => by
  simp only [beI, List.set_cons_zero, Nat.add_sub_cancel, Nat.sub_zero]
  have hp := pow256 n
  congr 1
  · rw [Int.add_mul_ediv_right _ _ (Int.ne_of_gt hp)]
    generalize v / 256 ^ n = q; omega
  · exact beI_congr n (by rw [Int.add_mul_emod_self_right])
 | n + 1, v, x, j + 1, h, hx => by
  have ih := beI_set n v x j (by omega) hx
  have e : n + 1 - 1 - (j + 1) = n - 1 - j := by omega
  simp only [beI, List.set_cons_succ, ih, e]
  congr 1
  obtain ⟨m, hm⟩ : ∃ m, n = (n - 1 - j) + 1 + m := ⟨j, by omega⟩
  generalize n - 1 - j = i at *
  subst hm
  have hi := pow256 i
  have h1 := Int.mul_ediv_add_emod v (256 ^ (i + 1))
  have hsp := mod_split v i
  have hb : 0 ≤ v / 256 ^ i % 256 ∧ v / 256 ^ i % 256 < 256 := by omega
  have hm1 := Int.emod_nonneg v (Int.ne_of_gt hi)
  have hm2 := Int.emod_lt_of_pos v hi
  have hp1 := pow256 (i + 1)
  have key : (v + (x - v / 256 ^ i % 256) * 256 ^ i) / 256 ^ (i + 1) = v / 256 ^ (i + 1) := by
   have e2 : v + (x - v / 256 ^ i % 256) * 256 ^ i = (x * 256 ^ i + v % 256 ^ i) + 256 ^ (i + 1) * (v / 256 ^ (i + 1)) := by
    rw [Int.sub_mul]; omega
   have h5 : x * 256 ^ i ≤ 255 * 256 ^ i := Int.mul_le_mul_of_nonneg_right hx.2 (Int.le_of_lt hi)
   have h6 : 0 ≤ x * 256 ^ i := Int.mul_nonneg hx.1 (Int.le_of_lt hi)
   rw [e2, Int.add_mul_ediv_left _ _ (Int.ne_of_gt hp1), Int.ediv_eq_zero_of_lt (by omega) (by rw [Int.pow_succ]; omega)]; omega
  rw [Int.pow_add, ← Int.ediv_ediv_of_nonneg (Int.le_of_lt hp1), ← Int.ediv_ediv_of_nonneg (Int.le_of_lt hp1), key]
where
 beI_congr : ∀ (n : Nat) {v w : Int}, v % 256 ^ n = w % 256 ^ n → beI n v = beI n w
  | 0, _, _, _ => rfl
  | n + 1, v, w, h => by
   have hp := pow256 n
   have hv := mod_split v n
   have hw := mod_split w n
   have a1 := Int.emod_nonneg v (Int.ne_of_gt hp)
   have a2 := Int.emod_lt_of_pos v hp
   have b1 := Int.emod_nonneg w (Int.ne_of_gt hp)
   have b2 := Int.emod_lt_of_pos w hp
   rw [hv, hw] at h
   have q : v / 256 ^ n % 256 = w / 256 ^ n % 256 := by
    have e1 : ((v / 256 ^ n % 256) * 256 ^ n + v % 256 ^ n) / 256 ^ n = v / 256 ^ n % 256 := by
     rw [Int.add_comm, Int.add_mul_ediv_right _ _ (Int.ne_of_gt hp), Int.ediv_eq_zero_of_lt a1 a2]; omega
    have e2 : ((w / 256 ^ n % 256) * 256 ^ n + w % 256 ^ n) / 256 ^ n = w / 256 ^ n % 256 := by
     rw [Int.add_comm, Int.add_mul_ediv_right _ _ (Int.ne_of_gt hp), Int.ediv_eq_zero_of_lt b1 b2]; omega
    rw [← e1, ← e2, h]
   simp only [beI]
   rw [q] at h ⊢
   rw [beI_congr n (v := v) (w := w) (by omega)]
theorem pow_256 (j : Nat) : (256 : Int) ^ j = 2 ^ (8 * j) := by rw [Int.pow_mul]; rfl
/-- Bit i of the bytes, most significant first. -/
theorem byte_bit (v : Int) {n i : Nat} (h : i < 8 * n) : v / 256 ^ (n - 1 - i / 8) % 256 / 2 ^ (7 - i % 8) % 2 = bitI v (8 * n - 1 - i) := by
 unfold bitI
 rw [pow_256]
 have e : 8 * n - 1 - i = 8 * (n - 1 - i / 8) + (7 - i % 8) := by omega
 rw [e, Int.pow_add, ← Int.ediv_ediv_of_nonneg (Int.le_of_lt (p2 _))]
 generalize v / 2 ^ (8 * (n - 1 - i / 8)) = q
 have : 7 - i % 8 = 0 ∨ 7 - i % 8 = 1 ∨ 7 - i % 8 = 2 ∨ 7 - i % 8 = 3 ∨ 7 - i % 8 = 4 ∨ 7 - i % 8 = 5 ∨ 7 - i % 8 = 6 ∨ 7 - i % 8 = 7 := by omega
 rcases this with h | h | h | h | h | h | h | h <;> rw [h] <;> simp only [Int.reducePow, Int.pow_zero] <;> omega
theorem beI_put (v c : Int) {n i : Nat} (h : i < 8 * n) (hc : 0 ≤ c ∧ c ≤ 1) : (beI n v).set (i / 8) (v / 256 ^ (n - 1 - i / 8) % 256 + (c - bitI v (8 * n - 1 - i)) * 2 ^ (7 - i % 8)) = beI n (v + (c - bitI v (8 * n - 1 - i)) * 2 ^ (8 * n - 1 - i)) := by
 have hb := byte_bit v h
 have hr := bitI_rng v (8 * n - 1 - i)
 rw [beI_set]
 · congr 1
   have e : 8 * n - 1 - i = (7 - i % 8) + 8 * (n - 1 - i / 8) := by omega
   congr 1
   conv => rhs; rw [e]
   rw [Int.pow_add, pow_256, ← e]
   generalize v / 2 ^ (8 * (n - 1 - i / 8)) % 256 = q
   rw [show q + (c - bitI v (8 * n - 1 - i)) * 2 ^ (7 - i % 8) - q = (c - bitI v (8 * n - 1 - i)) * 2 ^ (7 - i % 8) by omega, Int.mul_assoc]
 · omega
 · generalize bitI v (8 * n - 1 - i) = b at *
   have hq : 0 ≤ v / 256 ^ (n - 1 - i / 8) % 256 ∧ v / 256 ^ (n - 1 - i / 8) % 256 < 256 := by omega
   generalize v / 256 ^ (n - 1 - i / 8) % 256 = q at *
   have : 7 - i % 8 = 0 ∨ 7 - i % 8 = 1 ∨ 7 - i % 8 = 2 ∨ 7 - i % 8 = 3 ∨ 7 - i % 8 = 4 ∨ 7 - i % 8 = 5 ∨ 7 - i % 8 = 6 ∨ 7 - i % 8 = 7 := by omega
   rcases this with h | h | h | h | h | h | h | h <;> rw [h] at hb ⊢ <;> simp only [Int.reducePow, Int.pow_zero] at hb ⊢ <;> omega
/-- A byte with a bit cleared, and with a bit set. -/
theorem byte_clr {q : Int} (t : Nat) (h : 0 ≤ q ∧ q < 256) (ht : t < 8) : bits .andNot .u8 q (aJP .u8 128 (7 - t)) = q + (0 - q / 2 ^ t % 2) * 2 ^ t ∧ bits .or .u8 q (aJP .u8 128 (7 - t)) = q + (1 - q / 2 ^ t % 2) * 2 ^ t := by
 obtain ⟨q, rfl⟩ := Int.eq_ofNat_of_zero_le h.1
 have key : ∀ (t : Fin 8) (q : Fin 256), bits .andNot .u8 (q.val : Int) (aJP .u8 128 (7 - t.val)) = (q.val : Int) + (0 - (q.val : Int) / 2 ^ t.val % 2) * 2 ^ t.val ∧ bits .or .u8 (q.val : Int) (aJP .u8 128 (7 - t.val)) = (q.val : Int) + (1 - (q.val : Int) / 2 ^ t.val % 2) * 2 ^ t.val := by decide +kernel
 exact key ⟨t, ht⟩ ⟨q, by omega⟩
end Go.VM
