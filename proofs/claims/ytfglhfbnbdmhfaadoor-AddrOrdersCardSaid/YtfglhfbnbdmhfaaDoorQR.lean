/- Chapter 01, plainly: program and reference side by side. -/
import Derived.Test.YtfglhfbnbdmhfaaDoorQO
namespace Go.Proofs.YtfglhfbnbdmhfaaDoor
open Go.VM
set_option maxRecDepth 10000
theorem Bs_take {l : List Int} (h : Bs l) (k : Nat) : Bs (l.take k) := fun x hx => h x (List.mem_of_mem_take hx)
theorem u64_of {x : Int} (h : IntKind.u64.min ≤ x ∧ x ≤ IntKind.u64.max) : U64 x := ⟨h.1, Int.lt_of_le_of_lt h.2 (by decide)⟩
theorem u8_of {l : List Int} (h : ∀ x ∈ l, IntKind.u8.min ≤ x ∧ x ≤ IntKind.u8.max) : Bs l := h
theorem orders {a0 : Ad} {a1 a2 : List Int} (h0 : AD a0) (hb1 : Bs a1) (h : a2.length ≤ 9223372036854775807) : n6 200 (a0, a1, a2) = some true := by
  rw [e6]
  refine bindB (v := decide (a1.length ≤ 600)) ?_ ?_
  · rw [e19]; unfold nLen
    rw [letS]; congr 1; rw [decide_eq_decide]; omega
  by_cases hl : a1.length ≤ 600
  case neg =>
    refine bifT (by simp [hl]) (bindB (awake' (by omega)) rfl)
  refine bifF (by simp [hl]) ?_
  refine bindB (new_eq _ _) ?_
  obtain ⟨a, d1, h1, ha, hd1⟩ := addr_ok 195 (DK0 h)
  obtain ⟨b, d2, h2, hb, hd2⟩ := addr_ok 195 hd1
  refine bindB h1 (bindB h2 (bindB (valid_eq 198 a0).1 (bindB (valid_eq 198 a0).2 ?_)))
  have hvv : (true != (valid a0 == valid a0)) = false := by simp
  refine bindB (v := bytesA a0) ?_ (bindB (v := bytesA a0) ?_ (letB (v := false) ?_ (bifF rfl ?_)))
  · rw [hvv]; exact bifT rfl (bytes1 179 h0)
  · rw [hvv]; exact bifT rfl (bytes2 179 h0)
  · rw [hvv]; simp
  rw [letS, joinK_eq]
  have hall : ∀ k (hk : k < 3), OkA ([(a, b), (b, a), (a, a)][k]'hk).1 ∧ OkA ([(a, b), (b, a), (a, a)][k]'hk).2 := by
    intro k hk
    have : k = 0 ∨ k = 1 ∨ k = 2 := by omega
    rcases this with rfl | rfl | rfl
    · exact ⟨ha, hb⟩
    · exact ⟨hb, ha⟩
    · exact ⟨ha, ha⟩
  refine loopN_seq (s := fun k => (a1, a, b, [(a, b), (b, a), (a, a)], nLen [(a, b), (b, a), (a, a)], (k : Int))) 3 (fun k hk => ?_) ?_ (by omega)
  · obtain ⟨hx, hy⟩ := hall k hk
    have hd : ((k : Int) < nLen [(a, b), (b, a), (a, a)]) := by unfold nLen; simp only [List.length_cons, List.length_nil]; omega
    refine letB (decide_eq_true hd) (bifT rfl ?_)
    refine bindB (nIdx_lt (l := [(a, b), (b, a), (a, a)]) hk) ?_
    generalize ([(a, b), (b, a), (a, a)][k]'hk) = q at *
    refine bindB (next_eq 197 hx).1 (bindB (next_eq 197 hx).2 (bindB (cmp_eq 191 hx.ad hy.ad).1 (bindB (cmp_eq 191 hx.ad hy.ad).2 ?_)))
    refine letB (v := false) (by simp) (letB (v := false) (by simp) (letB (v := false) (by simp) ?_))
    refine bindB (bifT rfl (bytes1 179 hx.ad)) (bindB (bifT rfl (bytes2 179 hx.ad)) (letB (v := false) (by simp) (bifF rfl ?_)))
    exact letB (v := (k : Int) + 1) (wrap_i64 (n := (k : Int) + 1) (by omega) (by omega)) rfl
  · refine letB (v := false) ?_ (bifF rfl ?_)
    · unfold nLen; rfl
    refine leaveB ?_
    refine bindB (bytes2 179 ha.ad) (bindB (bytes2 179 hb.ad) ?_)
    have lb : (bytesA b).length ≤ 16 := by
      unfold bytesA
      split
      · rw [beI_length]; unfold wid; split <;> omega
      · exact Nat.zero_le _
    refine bindB (nApp_ok (by simp only [List.length_singleton]; omega) (by simp only [List.length_singleton]; omega)) ?_
    have mm : ∀ m : Nat, mmT false (m : Int) (nLen a1) = ((min m a1.length : Nat) : Int) := by
      intro m
      unfold mmT nLen
      simp only [Bool.false_eq_true, if_false]
      split <;> omega
    refine letB (mm 4) (bindB (nTake_ok (l := a1) (by omega)) (letB (mm 16) (bindB (nTake_ok (l := a1) (by omega)) (letB rfl (jB ?_)))))
    have hbs : ∀ k (hk : k < 5), Bs ([a1, bytesA a, bytesA b ++ [1], a1.take (min 4 a1.length), a1.take (min 16 a1.length)][k]'hk) := by
      intro k hk
      have : k = 0 ∨ k = 1 ∨ k = 2 ∨ k = 3 ∨ k = 4 := by omega
      rcases this with rfl | rfl | rfl | rfl | rfl
      · exact hb1
      · exact bytesA_Bs a
      · intro x hx
        rcases List.mem_append.1 hx with hx | hx
        · exact bytesA_Bs b x hx
        · rw [List.mem_singleton.1 hx]; omega
      · exact Bs_take hb1 _
      · exact Bs_take hb1 _
    obtain ⟨L, hL⟩ : ∃ L, [a1, bytesA a, bytesA b ++ [1], a1.take (min 4 a1.length), a1.take (min 16 a1.length)] = L := ⟨_, rfl⟩
    have hlen : L.length = 5 := by rw [← hL]; rfl
    refine loopN_seq' (s := fun k => (L, nLen L, (k : Int))) 5 (by rw [← hL]; rfl) (fun k hk => ?_) ?_ (by omega)
    · have hd : ((k : Int) < nLen L) := by unfold nLen; omega
      refine bifT (decide_eq_true hd) ?_
      refine bindB (nIdx_lt (l := L) (by omega)) ?_
      have hq : Bs (L[k]'(by omega)) := by
        subst hL
        exact hbs k hk
      obtain ⟨r, hr⟩ := from_some 179 hq
      refine bindB hr (bindB (by rw [from_same]; exact hr) (letB (v := false) (by simp) (letB (v := false) (by simp) (bifF rfl ?_))))
      exact letB (v := (k : Int) + 1) (wrap_i64 (n := (k : Int) + 1) (by omega) (by omega)) rfl
    · have hd : ¬ (((5 : Nat) : Int) < nLen L) := by unfold nLen; omega
      refine bifF (decide_eq_false hd) (leaveB ?_)
      exact bindB (awake' (by omega)) rfl
end Go.Proofs.YtfglhfbnbdmhfaaDoor
