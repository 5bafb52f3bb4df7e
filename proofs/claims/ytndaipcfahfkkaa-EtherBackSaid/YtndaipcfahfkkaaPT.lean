/- The law on tags, plainly. -/
import Derived.Test.YtndaipcfahfkkaaPA
namespace Go.Proofs.Ytndaipcfahfkkaa
open Go.VM
theorem awake_at : n8 40 () = some true := by kernel_rfl
theorem awake_eq {N : Nat} (h : 40 ≤ N) : n8 N () = some true := nfN_mono (T := TN) h 8 () true awake_at
theorem same_refl (N : Nat) (f : Fr) : n33 (N + 1) (f, f) = some true := by
  rw [e33]
  simp [letS]
theorem dec_enc (N : Nat) {f : Fr} (hf : FR f) (hv : valid f = true) : n31 (N + 2) (encB f) = some (f, 0) := by
  obtain ⟨m1, m2, vl, ty, l⟩ := f
  obtain ⟨k1, k2, v0, v1, t0, t1, hb, hl⟩ := hf
  simp only at k1 k2 v0 v1 t0 t1 hb hl
  simp only [↓letS, valid, decide_eq_true_eq] at hv
  have hx : B8 (ty / 256) := ⟨by omega, by omega⟩
  have hy : B8 (ty % 256) := ⟨by omega, by omega⟩
  have ht : ty / 256 * 256 + ty % 256 = ty := by omega
  have fin : ∀ vl, finB m1 m2 vl (ty / 256 :: ty % 256 :: l) = ((m1, m2, vl, ty, l), 0) := by
    intro vl
    simp only [finB, ht]
    rw [if_neg (by omega), if_neg (by omega)]
  by_cases h0 : vl = 0
  · subst h0
    have e : encB (m1, m2, 0, ty, l) = macL m1 ++ (macL m2 ++ ty / 256 :: ty % 256 :: l) := by simp [encB]
    rw [e, dec_eq N hx hy hb (by omega)]
    simp only [decR, ht]
    rw [if_neg (by omega), fin]
  · have e : encB (m1, m2, vl, ty, l) = macL m1 ++ (macL m2 ++ 129 :: 0 :: vl / 256 :: vl % 256 :: ty / 256 :: ty % 256 :: l) := by simp [encB, h0]
    rw [e, dec_eq N (by simp [B8]) (by simp [B8]) (fun x hx' => ?_) (by simp only [List.length_cons]; omega)]
    · simp only [decR]
      have hvv : (vl / 256 * 256 + vl % 256) % 4096 = vl := by omega
      rw [if_pos (by omega), if_neg (by simp only [List.length_cons]; omega), hvv, if_neg (by omega), fin]
    · simp only [List.mem_cons] at hx'
      rcases hx' with rfl | rfl | rfl | rfl | hx'
      · exact ⟨by omega, by omega⟩
      · exact ⟨by omega, by omega⟩
      · exact hx
      · exact hy
      · exact hb x hx'
theorem bs_enc {f : Fr} (hf : FR f) : Bs (encB f) := by
  obtain ⟨m1, m2, vl, ty, l⟩ := f
  obtain ⟨⟨a1, a2, a3, a4, a5, a6⟩, ⟨b1, b2, b3, b4, b5, b6⟩, v0, v1, t0, t1, hb, hl⟩ := hf
  simp only at v0 v1 t0 t1 hb
  intro x hx
  simp only [encB, macL, List.mem_append, List.mem_cons, List.not_mem_nil, or_false] at hx
  have hvl : ∀ x ∈ (if vl ≠ 0 then [129, 0, vl / 256, vl % 256] else []), B8 x := by
    intro x hx
    split at hx
    · simp only [List.mem_cons, List.not_mem_nil, or_false] at hx
      rcases hx with rfl | rfl | rfl | rfl <;> constructor <;> omega
    · cases hx
  rcases hx with ((hx | hx) | hx | hx) | hx
  · rcases hx with rfl | rfl | rfl | rfl | rfl | rfl <;> assumption
  · rcases hx with rfl | rfl | rfl | rfl | rfl | rfl <;> assumption
  · exact hvl x hx
  · rcases hx with rfl | rfl <;> constructor <;> omega
  · exact hb x hx
theorem tags (a0 : List Int) (a1 : Int) (h : a0.length ≤ 9223372036854775807) : n7 61 (a0, a1) = some true := by
  rw [e7, e26]
  obtain ⟨f, d', hfr, hf, _⟩ := frame_ok 20 (d := (a0, 0)) ⟨Int.le_refl _, by omega, h⟩
  simp only [↓letS, bindS]
  rw [hfr]
  simp only [↓letS, bindS]
  obtain ⟨m1, m2, vl0, ty, l⟩ := f
  obtain ⟨k1, k2, v0, v1, t0, t1, hb, hl⟩ := hf
  simp only at k1 k2 v0 v1 t0 t1 hb hl
  simp only [↓letS]
  rw [(valid_eq 59 _).1]
  simp only [↓letS, bindS]
  cases hv : valid (m1, m2, 0, ty, l) with
  | false =>
    rw [awake_eq (by omega)]; rfl
  | true =>
    obtain ⟨r, hr, r0, r1⟩ := mod_ok 59 (a := a1) (b := 4094) (by omega) (by omega)
    simp only [↓letS, Bool.not_true, condF, hr, bindS]
    rw [wrap_i64 (n := 1 + r) (by omega) (by omega)]
    have hv2 : valid (m1, m2, 1 + r, ty, l) = true := by
      simp only [↓letS, valid, decide_eq_true_eq] at hv ⊢
      omega
    rw [(enc_eq 58 (f := (m1, m2, 0, ty, l)) (by simp) (by simp) t0 t1 (by simp only; omega)).1, (enc_eq 58 (f := (m1, m2, 1 + r, ty, l)) (by simp only; omega) (by simp only; omega) t0 t1 (by simp only; omega)).1]
    rw [if_pos hv, if_pos hv2]
    simp only [↓letS, bindS]
    have hF : FR (m1, m2, 0, ty, l) := ⟨k1, k2, by simp, by simp, t0, t1, hb, hl⟩
    have hG : FR (m1, m2, 1 + r, ty, l) := ⟨k1, k2, by simp only; omega, by simp only; omega, t0, t1, hb, hl⟩
    have ea : encB (m1, m2, 0, ty, l) = macL m1 ++ macL m2 ++ (ty / 256 :: ty % 256 :: l) := by simp [encB]
    have eb : encB (m1, m2, 1 + r, ty, l) = macL m1 ++ macL m2 ++ (129 :: 0 :: (1 + r) / 256 :: (1 + r) % 256 :: ty / 256 :: ty % 256 :: l) := by
      have : ¬ (1 + r = 0) := by omega
      simp [encB, this]
    have la : (encB (m1, m2, 0, ty, l)).length = 14 + l.length := by rw [ea]; simp [macL]; omega
    have lb : (encB (m1, m2, 1 + r, ty, l)).length = 18 + l.length := by rw [eb]; simp [macL]; omega
    have q1 : IntKind.i64.wrap (nLen (encB (m1, m2, 0, ty, l)) + 4) = 18 + l.length := by
      simp only [nLen, la]
      rw [wrap_i64 (by omega) (by omega)]; omega
    have q2 : decide (nLen (encB (m1, m2, 0, ty, l)) < 14) = false := by
      rw [decide_eq_false_iff_not]
      simp only [nLen, la]; omega
    have q3 : (nLen (encB (m1, m2, 1 + r, ty, l)) != 18 + (l.length : Int)) = false := by
      simp only [nLen, lb, bne_eq_false_iff_eq]; omega
    have t12b : nTake (encB (m1, m2, 1 + r, ty, l)) 12 = some (macL m1 ++ macL m2) := by
      rw [show (12 : Int) = ((12 : Nat) : Int) from rfl, nTake_ok (by omega), eb]; rfl
    have t12a : nTake (encB (m1, m2, 0, ty, l)) 12 = some (macL m1 ++ macL m2) := by
      rw [show (12 : Int) = ((12 : Nat) : Int) from rfl, nTake_ok (by omega), ea]; rfl
    have d16 : nDrop (encB (m1, m2, 1 + r, ty, l)) 16 = some (ty / 256 :: ty % 256 :: l) := by
      rw [show (16 : Int) = ((16 : Nat) : Int) from rfl, nDrop_ok (by omega), eb]; rfl
    have d12 : nDrop (encB (m1, m2, 0, ty, l)) 12 = some (ty / 256 :: ty % 256 :: l) := by
      rw [show (12 : Int) = ((12 : Nat) : Int) from rfl, nDrop_ok (by omega), ea]; rfl
    simp only [↓letS, q1, q2, q3, t12b, t12a, d16, d12, bindS, bne_self_eq_false, condF]
    rw [nApp_ok (by simp [macL]) (by simp [macL])]
    simp only [↓letS, bindS, List.nil_append]
    rw [nApp_ok (by simp [macL]; omega) (by simp [macL]; omega)]
    simp only [↓letS, bindS, ← ea]
    rw [dec_enc 58 hF hv]
    simp only [↓letS, bindS, beq_self_eq_true, condT]
    rw [same_refl 59]
    simp only [↓letS, bindS, condT]
    rw [awake_eq (by omega)]
    rfl
end Go.Proofs.Ytndaipcfahfkkaa
