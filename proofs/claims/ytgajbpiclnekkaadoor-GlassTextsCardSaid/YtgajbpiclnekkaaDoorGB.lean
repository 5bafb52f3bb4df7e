/- Chapter 36, plainly: explanations printed, and read by the program. -/
import Derived.Test.YtgajbpiclnekkaaDoorGA
import Derived.Test.YtgajbpiclnekkaaDoorNE1
import Derived.Lib.ItoaLen
namespace Go.Proofs.YtgajbpiclnekkaaDoor
open Go.VM Go.Txt
set_option maxRecDepth 10000
def i64r (v : Int) : Prop := -9223372036854775808 ≤ v ∧ v ≤ 9223372036854775807
def r4 (w : I4) : Prop := i64r w.1 ∧ i64r w.2.1 ∧ i64r w.2.2.1 ∧ i64r w.2.2.2
theorem ok4.r {w : I4} (h : ok4 w) : r4 w := by
  unfold ok4 ok40 at h
  unfold r4 i64r
  omega
theorem mod_ok (N : Nat) {a b : Int} (hb : 0 < b) (hb2 : b ≤ 9223372036854775807) : ∃ r, n7 (N + 1) (a, b) = some r ∧ 0 ≤ r ∧ r < b := by
  refine ⟨a % b, ?_, Int.emod_nonneg _ (by omega), Int.emod_lt_of_pos _ hb⟩
  rw [e7]
  have h0 : b ≠ 0 := by omega
  simp only [↓letS, h0, if_false, bindS, joinK_eq, bif_if, decide_eq_true_eq]
  have h1 := Int.mul_tdiv_add_tmod a b
  have h2 := Int.tmod_lt_of_pos a hb
  have h3 := Int.lt_tmod_of_pos a hb
  have h4 : a % b = a.tmod b % b := by
    conv => lhs; rw [← h1, Int.add_comm, Int.add_mul_emod_self_left]
  by_cases hn : a.tmod b < 0
  · rw [if_pos hn, wrap_i64 (by omega) (by omega), h4]
    rw [← Int.add_emod_right, Int.emod_eq_of_lt (by omega) (by omega)]
  · rw [if_neg hn, h4, Int.emod_eq_of_lt (by omega) (by omega)]
theorem itoa_n (N : Nat) {v : Int} (h : i64r v) : n10 (N + 1) v = some (Lib.itoa v) := by rw [e10]; exact qItoa_ok h
theorem itoa21 {v : Int} (h : i64r v) : (Lib.itoa v).length ≤ 21 := Lib.itoa_length_le v h.1 h.2
theorem pr_len2 {w : I4} (h : r4 w) : (pr w).length ≤ 87 ∧ 3 ≤ (pr w).length := by
  obtain ⟨h0, h1, h2, h3⟩ := h
  have := itoa21 h0
  have := itoa21 h1
  have := itoa21 h2
  have := itoa21 h3
  rw [pr_eq]
  simp only [List.length_append, List.length_cons]
  omega
theorem print_g (N : Nat) {w : I4} (h : r4 w) : n5 (N + 20) w = some (pr w) := by
  rw [e5]
  obtain ⟨w0, w1, w2, w3⟩ := w
  obtain ⟨h0, h1, h2, h3⟩ := h
  simp only at h0 h1 h2 h3
  have hw : ∀ v ∈ [w0, w1, w2, w3], i64r v := by
    intro v hv
    simp only [List.mem_cons, List.not_mem_nil, or_false] at hv
    rcases hv with rfl | rfl | rfl | rfl <;> assumption
  have hpl := (pr_len2 (w := (w0, w1, w2, w3)) ⟨h0, h1, h2, h3⟩).1
  refine letB rfl (jB ?_)
  refine loopN_seq' (fun k => ((([w0, w1, w2, w3].take k).map Lib.itoa, [w0, w1, w2, w3], (4 : Int), (k : Int)) : (List (List UInt8) × (List (Int) × (Int × Int))))) 4 rfl (fun k hk => ?_) ?_ (by omega)
  · have hx : nIdx [w0, w1, w2, w3] (k : Int) = some ([w0, w1, w2, w3][k]'(by simp; omega)) := nIdx_lt (by simp; omega)
    have hr := hw _ (List.getElem_mem (l := [w0, w1, w2, w3]) (n := k) (by simp; omega))
    refine letB (v := true) (decide_eq_true (show (k : Int) < 4 by omega)) (bifT rfl (bindB hx (bindB (itoa_n (N + 18) hr) (bindB (v := ([w0, w1, w2, w3].take (k + 1)).map Lib.itoa) ?_ (letB (v := (k : Int) + 1) (wv _ rfl (by omega) (by omega)) rfl)))))
    rw [nApp_ok (by simp; omega) (by simp; omega), List.take_succ_eq_append_getElem (by simp; omega), List.map_append]
    rfl
  · refine letB (v := false) rfl (bifF rfl (leaveB (bindB (v := pr (w0, w1, w2, w3)) ?_ rfl)))
    rw [e11]
    show qJoin ([Lib.itoa w0, Lib.itoa w1, Lib.itoa w2, Lib.itoa w3], [32]) = _
    rw [qJoin]
    exact if_pos ⟨by simp, Nat.le_trans hpl (by omega)⟩
theorem print_r (N : Nat) {w : I4} (h : r4 w) : n6 (N + 2) w = some (pr w) := by
  rw [e6]
  obtain ⟨w0, w1, w2, w3⟩ := w
  obtain ⟨h0, h1, h2, h3⟩ := h
  simp only at h0 h1 h2 h3
  have l0 := itoa21 h0
  have l1 := itoa21 h1
  have l2 := itoa21 h2
  have l3 := itoa21 h3
  refine bindB (itoa_n N h0) (bindB (cat_ok (by simp; omega)) (bindB (itoa_n N h1) (bindB (cat_ok (by simp; omega)) (bindB (cat_ok (by simp; omega)) (bindB (itoa_n N h2) (bindB (cat_ok (by simp; omega)) (bindB (cat_ok (by simp; omega)) (bindB (itoa_n N h3) (bindB (cat_ok (by simp; omega)) ?_)))))))))
  rw [pr_eq]
  simp [List.append_assoc]
theorem atoi_rng {x : List UInt8} (h : (atoiR x).2 = false) : i64r (atoiR x).1 := by
  unfold atoiR at h ⊢
  cases hp : Lib.atoiAll x with
  | ok v =>
    simp only
    unfold Lib.atoiAll at hp
    cases x with
    | nil => cases hp
    | cons c r =>
      simp only at hp
      split at hp
      · cases hp
      · cases hp
      · split at hp
        · cases hp
        · split at hp
          · cases hp
          · cases hp
            unfold i64r
            split <;> omega
  | range => rw [hp] at h; cases h
  | _ => rw [hp] at h; cases h
/-- A text, as the program reads it. -/
theorem parse_g (N : Nat) {t : List UInt8} (ht : t.length ≤ 100000) : n8 (N + 20) t = some (match gp t with | some w => (w, 0) | none => ((0, 0, 0, 0), 2)) := by
  rw [e8]
  have h12 : n12 (N + 19) (t, [32]) = some (parts 32 t) := by
    rw [e12, ← split_parts]
    exact qSplit_ok ⟨by omega, by simp⟩
  refine bindB h12 ?_
  by_cases h4 : (parts 32 t).length = 4
  · have hn4 : nLen (parts 32 t) = (4 : Int) := by unfold nLen; rw [h4]; rfl
    unfold gp
    rw [if_pos h4]
    refine bifF (by rw [hn4]; rfl) (jB ?_)
    have hl : ∀ x ∈ parts 32 t, x.length ≤ 100000 := fun x hx => Nat.le_trans (Nat.le_trans (by
      have h1 : ∀ (l : List (List UInt8)) (x : List UInt8), x ∈ l → x.length ≤ (Lib.join l [32]).length := by
        intro l
        induction l with
        | nil => intro x hx; cases hx
        | cons a l ih =>
          intro x hx
          cases l with
          | nil =>
            rw [Lib.join_one, List.mem_singleton.1 hx]; exact Nat.le_refl _
          | cons b l =>
            rw [join_cons2, List.length_append, List.length_cons]
            rcases List.mem_cons.1 hx with rfl | hx
            · omega
            · have := ih x hx; omega
      exact h1 _ x hx) (Nat.le_of_eq (by rw [join_parts]))) ht
    generalize parts 32 t = ps at *
    refine loopF_go (FG ps) (fun _ _ => True) (fun i a => ((((0 : Int), (0 : Int), (0 : Int), (0 : Int)), a, ps, (4 : Int), (i : Int)) : ((Int × Int × Int × Int) × ((Int × Int × Int × Int) × (List (List UInt8) × (Int × Int)))))) 4 (((0 : Int), (0 : Int), (0 : Int), (0 : Int)), (2 : Int)) (fun a => (a, 0)) (0, 0, 0, 0) (by rw [hn4]; rfl) trivial (fun i hi a _ => ?_) (fun a _ => ?_) (by omega) (by cases runF (FG ps) 4 0 (0, 0, 0, 0) <;> rfl)
    · have hx : nIdx ps (i : Int) = some (ps.getD i []) := by rw [nIdx_lt (by omega), List.getD, List.getElem?_eq_getElem (by omega)]; rfl
      have hxl : (ps.getD i []).length ≤ 100000 := by
        rw [List.getD, List.getElem?_eq_getElem (by omega)]
        exact hl _ (List.getElem_mem _)
      unfold FG
      generalize ps.getD i [] = x at *
      obtain ⟨v, k1, k2⟩ := qParseInt_ok (te := 60) (a := x) (by omega)
      have h13 : n13 (N + 19) (x, (10 : Int), (64 : Int)) = some (v, (atoiR x).2) := by rw [e13]; exact k1
      cases he : (atoiR x).2 with
      | true =>
        have hg : gnum x = none := by unfold gnum; rw [he, if_neg (by simp)]
        rw [hg]
        rw [he] at h13
        refine ⟨fun b hb => (by cases hb), fun _ => ?_⟩
        refine letB (v := true) (decide_eq_true (show (i : Int) < 4 by omega)) (bifT rfl (bindB hx (bindB h13 (bindB (bifF rfl rfl) (letB (v := true) rfl (letB rfl (letB rfl (letB (v := true) ?_ (bifT rfl (leaveB rfl))))))))))
        simp
      | false =>
        have hv := k2 he
        have hr := atoi_rng he
        rw [he] at h13
        rw [← hv] at hr
        have h14 : n14 (N + 19) (v, (10 : Int)) = some (Lib.itoa v) := by rw [e14]; exact qFormatInt_ok hr
        have hg : gnum x = if Lib.itoa v = x ∧ ok40 v then some v else none := by
          unfold gnum
          rw [he, ← hv]
          by_cases hc : Lib.itoa v = x ∧ ok40 v
          · rw [if_pos hc, if_pos ⟨rfl, hc⟩]
          · rw [if_neg hc, if_neg (fun k => hc k.2)]
        rw [hg]
        by_cases hc : Lib.itoa v = x ∧ ok40 v
        · rw [if_pos hc]
          refine ⟨fun b hb => ⟨trivial, ?_⟩, fun hb => (by cases hb)⟩
          have hb := Option.some.inj hb
          subst hb
          obtain ⟨c1, c2, c3⟩ := hc
          refine letB (v := true) (decide_eq_true (show (i : Int) < 4 by omega)) (bifT rfl (bindB hx (bindB h13 (bindB (bifT rfl h14) (letB (v := false) (by rw [c1]; simp) (letB (v := false) (decide_eq_false (show ¬ v < -1099511627776 by omega)) (letB (v := false) (decide_eq_false (show ¬ v > 1099511627776 by omega)) (letB (v := false) rfl (bifF rfl (bindB (nBnd_ok i rfl hi) (letB (v := set4 a i v) rfl (letB (v := (i : Int) + 1) (wv _ rfl (by omega) (by omega)) rfl))))))))))))
        · rw [if_neg hc]
          refine ⟨fun b hb => (by cases hb), fun _ => ?_⟩
          refine letB (v := true) (decide_eq_true (show (i : Int) < 4 by omega)) (bifT rfl (bindB hx (bindB h13 (bindB (bifT rfl h14) (letB (v := !(Lib.itoa v == x)) rfl (letB rfl (letB rfl (letB (v := true) ?_ (bifT rfl (leaveB rfl))))))))))
          by_cases e : Lib.itoa v = x
          · have h5 : ¬ ok40 v := fun k => hc ⟨e, k⟩
            unfold ok40 at h5
            by_cases e2 : v < -1099511627776
            · simp [e2]
            · have e3 : v > 1099511627776 := by omega
              simp [e3]
          · simp [e]
    · exact letB (v := false) rfl (bifF rfl (leaveB rfl))
  · unfold gp
    rw [if_neg h4]
    refine bifT ?_ rfl
    have : ¬ nLen (parts 32 t) = 4 := by unfold nLen; omega
    simp [this]
end Go.Proofs.YtgajbpiclnekkaaDoor
