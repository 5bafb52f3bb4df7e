/- Chapter 36, plainly: explanations read by the document's answer. -/
import Derived.Test.YtgajbpiclnekkaaDoorGB
namespace Go.Proofs.YtgajbpiclnekkaaDoor
open Go.VM Go.Txt
set_option maxRecDepth 10000
/-- How many digits stand ahead, n at most. -/
def dk : Nat → List UInt8 → Nat
  | 0, _ => 0
  | _ + 1, [] => 0
  | n + 1, c :: r => if isD c = true then dk n r + 1 else 0
theorem dk_le : ∀ (n : Nat) (d : List UInt8), dk n d ≤ n ∧ dk n d ≤ d.length
  | 0, _ => ⟨Nat.le_refl _, Nat.zero_le _⟩
  | _ + 1, [] => ⟨Nat.zero_le _, Nat.le_refl _⟩
  | n + 1, c :: r => by
    have := dk_le n r
    unfold dk
    rw [List.length_cons]
    split <;> omega
theorem dk_at : ∀ (n : Nat) (d : List UInt8) (i : Nat), i < dk n d → isD (d.getD i 0) = true
  | 0, _, i, h => by cases h
  | _ + 1, [], i, h => by cases h
  | n + 1, c :: r, i, h => by
    unfold dk at h
    split at h
    · rename_i hc
      cases i with
      | zero => exact hc
      | succ i => exact dk_at n r i (by omega)
    · cases h
theorem dk_end : ∀ (n : Nat) (d : List UInt8), dk n d < n → dk n d < d.length → isD (d.getD (dk n d) 0) = false
  | 0, _, h, _ => by cases h
  | _ + 1, [], _, h => by cases h
  | n + 1, c :: r, h1, h2 => by
    unfold dk at h1 h2 ⊢
    split
    · rename_i hc
      rw [if_pos hc] at h1 h2
      rw [List.length_cons] at h2
      exact dk_end n r (by omega) (by omega)
    · rename_i hc
      exact Bool.eq_false_iff.2 hc
theorem dk_all {d : List UInt8} : dk 14 d = d.length ↔ d.all isD = true ∧ d.length ≤ 14 := by
  have hl := dk_le 14 d
  constructor
  · intro h
    refine ⟨?_, by omega⟩
    rw [List.all_eq_true]
    intro x hx
    obtain ⟨i, hi, e⟩ := List.getElem_of_mem hx
    have := dk_at 14 d i (by omega)
    rwa [List.getD, List.getElem?_eq_getElem hi, e] at this
  · rintro ⟨h1, h2⟩
    rcases Nat.lt_or_ge (dk 14 d) d.length with h | h
    · have h3 := dk_end 14 d (by omega) h
      rw [List.getD, List.getElem?_eq_getElem h, Option.getD_some, List.all_eq_true.1 h1 _ (List.getElem_mem _)] at h3
      cases h3
    · omega
theorem dval_lt : ∀ (l : List UInt8) (a : Nat), (∀ c ∈ l, isD c = true) → dval a l < (a + 1) * 10 ^ l.length
  | [], a, _ => by rw [dval_nil]; simp
  | c :: r, a, h => by
    have hc : 48 ≤ c.toNat ∧ c.toNat ≤ 57 := of_decide_eq_true (h c List.mem_cons_self)
    have := dval_lt r (a * 10 + (c.toNat - 48)) (fun x hx => h x (List.mem_cons_of_mem _ hx))
    rw [dval_cons, List.length_cons, Nat.pow_succ]
    refine Nat.lt_of_lt_of_le this ?_
    rw [Nat.mul_comm (10 ^ r.length) 10, ← Nat.mul_assoc]
    exact Nat.mul_le_mul_right _ (by omega)
/- where the words stand -/
def start : List (List UInt8) → Nat → Nat
  | _, 0 => 0
  | [], _ + 1 => 0
  | w :: r, i + 1 => w.length + 1 + start r i
theorem start_at : ∀ (ps : List (List UInt8)) (i : Nat), i < ps.length → ∃ tail, (Lib.join ps [32]).drop (start ps i) = ps.getD i [] ++ tail ∧ (tail = [] ∨ ∃ r, tail = 32 :: r) ∧ start ps i + (ps.getD i []).length + tail.length = (Lib.join ps [32]).length ∧ start ps (i + 1) = start ps i + (ps.getD i []).length + 1
  | [], i, h => by cases h
  | [w], 0, _ => ⟨[], by rw [Lib.join_one, List.append_nil]; rfl, .inl rfl, by rw [Lib.join_one]; simp [start], by simp [start]⟩
  | [w], i + 1, h => by simp at h
  | w :: x :: r, 0, _ => ⟨32 :: Lib.join (x :: r) [32], by rw [join_cons2]; rfl, .inr ⟨_, rfl⟩, by rw [join_cons2]; simp [start], by simp [start]⟩
  | w :: x :: r, i + 1, h => by
    obtain ⟨tail, h1, h2, h3, h4⟩ := start_at (x :: r) i (by simpa using h)
    have hj : (Lib.join (w :: x :: r) [32]).drop (w.length + 1 + start (x :: r) i) = (Lib.join (x :: r) [32]).drop (start (x :: r) i) := by
      rw [join_cons2, show w ++ 32 :: Lib.join (x :: r) [32] = (w ++ [32]) ++ Lib.join (x :: r) [32] by simp, ← List.drop_drop, List.drop_left' (by simp)]
    refine ⟨tail, ?_, h2, ?_, ?_⟩
    · show (Lib.join (w :: x :: r) [32]).drop (w.length + 1 + start (x :: r) i) = _
      rw [hj]; exact h1
    · show w.length + 1 + start (x :: r) i + ((x :: r).getD i []).length + tail.length = _
      rw [join_cons2, List.length_append, List.length_cons]
      omega
    · show w.length + 1 + start (x :: r) (i + 1) = w.length + 1 + start (x :: r) i + ((x :: r).getD i []).length + 1
      omega
theorem start_end : ∀ (ps : List (List UInt8)), ps ≠ [] → start ps ps.length = (Lib.join ps [32]).length + 1
  | [], h => absurd rfl h
  | [w], _ => by rw [Lib.join_one]; simp [start]
  | w :: x :: r, _ => by
    have := start_end (x :: r) (by simp)
    show w.length + 1 + start (x :: r) (x :: r).length = (Lib.join (w :: x :: r) [32]).length + 1
    rw [this, join_cons2, List.length_append, List.length_cons]
    omega
theorem at_drop {t : List UInt8} {p k : Nat} {b : UInt8} (h : (t.drop p)[k]? = some b) : nIdxB t (((p + k : Nat)) : Int) = some (b.toNat : Int) := by
  rw [List.getElem?_drop] at h
  unfold nIdxB
  rw [nIdx_ok h]; rfl
abbrev SR := List UInt8 × ((Int × Int × Int × Int) × (List (Int) × (Int × (Int × (Int × Int)))))
abbrev S4 := List UInt8 × ((Int × Int × Int × Int) × (List (Int) × Int))
abbrev z4 : I4 := ((0 : Int), (0 : Int), (0 : Int), (0 : Int))
/-- The digits of a word. -/
theorem run_digits (M : Nat) (hM : 20 < M) {t tail d : List UInt8} {p : Nat} {acc : List Int} {sgn : Int} (ht : t.length ≤ 60) (h : t.drop p = d ++ tail) (htl : tail = [] ∨ ∃ r, tail = 32 :: r) (hp : p + d.length + tail.length = t.length)
    {R : Type} {j18 : SR → Option R} {r : R} (hj : j18 (t, z4, acc, ((p + dk 14 d : Nat) : Int), sgn, (dval 0 (d.take (dk 14 d)) : Int), (p : Int)) = some r) :
    loopN M (fun (p28 : (List UInt8 × ((Int × Int × Int × Int) × (List (Int) × (Int × (Int × (Int × Int))))))) =>
 letK (decide (p28.2.2.2.1 < (nLen p28.1))) fun v29 =>
 (bif v29 then (nIdxB p28.1 p28.2.2.2.1) else some (0 : Int)).bind fun v30 =>
 letK (bif v29 then (decide (v30 ≥ (48 : Int))) else false) fun v31 =>
 (bif v31 then (nIdxB p28.1 p28.2.2.2.1) else some (0 : Int)).bind fun v32 =>
 letK (bif v31 then (decide (v32 ≤ (57 : Int))) else false) fun v33 =>
 letK (IntKind.i64.wrap (p28.2.2.2.1 - p28.2.2.2.2.2.2)) fun v34 =>
 letK (bif v33 then (decide (v34 < (14 : Int))) else false) fun v35 =>
 bif v35 then (letK (IntKind.i64.wrap (p28.2.2.2.2.2.1 * (10 : Int))) fun v36 =>
 (nIdxB p28.1 p28.2.2.2.1).bind fun v37 =>
 letK (IntKind.u8.wrap (v37 - (48 : Int))) fun v38 =>
 letK (IntKind.i64.wrap (v36 + (IntKind.i64.wrap v38))) fun v39 =>
 letK (IntKind.i64.wrap (p28.2.2.2.1 + (1 : Int))) fun v40 =>
 again (p28.1, p28.2.1, p28.2.2.1, v40, p28.2.2.2.2.1, v39, p28.2.2.2.2.2.2)) else (leave (j18 (p28.1, p28.2.1, p28.2.2.1, p28.2.2.2.1, p28.2.2.2.2.1, p28.2.2.2.2.2.1, p28.2.2.2.2.2.2)))) (t, z4, acc, (p : Int), sgn, (0 : Int), (p : Int)) = some r := by
  have hdl := dk_le 14 d
  have hget : ∀ i, i < d.length → nIdxB t (((p + i : Nat)) : Int) = some ((d.getD i 0).toNat : Int) := fun i hi => at_drop (by
    rw [h, List.getElem?_append_left hi, List.getD, List.getElem?_eq_getElem hi]; rfl)
  have hlen : nLen t = (t.length : Int) := rfl
  refine loopN_seq' (fun i => ((t, z4, acc, ((p + i : Nat) : Int), sgn, (dval 0 (d.take i) : Int), (p : Int)) : SR)) (dk 14 d) rfl (fun i hi => ?_) ?_ (by omega)
  · have hD := dk_at 14 d i hi
    have hx := hget i (by omega)
    have hc : 48 ≤ (d.getD i 0).toNat ∧ (d.getD i 0).toNat ≤ 57 := of_decide_eq_true hD
    have hstep : dval 0 (d.take (i + 1)) = dval 0 (d.take i) * 10 + ((d.getD i 0).toNat - 48) := by
      rw [List.take_succ_eq_append_getElem (by omega), dval_snoc, List.getD, List.getElem?_eq_getElem (by omega)]; rfl
    have hb : dval 0 (d.take i) < 10 ^ 14 := by
      refine Nat.lt_of_lt_of_le (dval_lt _ 0 fun c hc => ?_) ?_
      · obtain ⟨j, hj, e⟩ := List.getElem_of_mem hc
        rw [List.length_take] at hj
        have := dk_at 14 d j (by omega)
        rw [List.getD, List.getElem?_eq_getElem (by omega), Option.getD_some] at this
        rw [← e, List.getElem_take]; exact this
      · rw [Nat.zero_add, Nat.one_mul]
        exact Nat.pow_le_pow_right (by omega) (by rw [List.length_take]; omega)
    have hb2 : dval 0 (d.take i) < 100000000000000 := hb
    generalize (d.getD i 0).toNat = c at *
    generalize dval 0 (d.take i) = n at *
    refine letB (v := true) (decide_eq_true (show ((p + i : Nat) : Int) < nLen t by omega)) (bindB hx (letB (v := true) (decide_eq_true (show (c : Int) ≥ 48 by omega)) (bindB hx (letB (v := true) (decide_eq_true (show (c : Int) ≤ 57 by omega)) (letB (v := (i : Int)) (wv _ (show ((p + i : Nat) : Int) - (p : Int) = (i : Int) by omega) (by omega) (by omega)) (letB (v := true) (decide_eq_true (show (i : Int) < 14 by omega)) (bifT rfl (letB (v := (n : Int) * 10) (wv _ rfl (by omega) (by omega)) (bindB hx (letB (v := (c : Int) - 48) (wrap8_self (by omega) (by omega)) (letB (v := (n : Int) * 10 + ((c : Int) - 48)) ?_ (letB (v := ((p + (i + 1) : Nat) : Int)) (wv _ (show ((p + i : Nat) : Int) + 1 = _ by omega) (by omega) (by omega)) ?_))))))))))))
    · rw [wrap_i64 (n := (c : Int) - 48) (by omega) (by omega)]
      exact wv _ rfl (by omega) (by omega)
    · rw [hstep, show (n : Int) * 10 + ((c : Int) - 48) = ((n * 10 + (c - 48) : Nat) : Int) by omega]; rfl
  · have hw : IntKind.i64.wrap (((p + dk 14 d : Nat) : Int) - (p : Int)) = ((dk 14 d : Nat) : Int) := wv _ (by omega) (by omega) (by omega)
    rcases Nat.lt_or_ge (p + dk 14 d) t.length with hlt | hge
    · have hb : ∃ b : Nat, nIdxB t ((p + dk 14 d : Nat) : Int) = some (b : Int) ∧ (48 ≤ b → b ≤ 57 → dk 14 d = 14) := by
        rcases Nat.lt_or_ge (dk 14 d) d.length with h1 | h1
        · refine ⟨_, hget _ h1, fun k1 k2 => ?_⟩
          rcases Nat.lt_or_ge (dk 14 d) 14 with h2 | h2
          · have h3 := dk_end 14 d h2 h1
            unfold isD at h3
            rw [decide_eq_true ⟨k1, k2⟩] at h3
            cases h3
          · omega
        · rcases htl with rfl | ⟨r', rfl⟩
          · simp at hp; omega
          · refine ⟨32, at_drop (b := 32) ?_, fun k1 => by omega⟩
            rw [h, List.getElem?_append_right h1, show dk 14 d - d.length = 0 by omega]; rfl
      obtain ⟨b, hx, hb⟩ := hb
      refine letB (v := true) (decide_eq_true (show ((p + dk 14 d : Nat) : Int) < nLen t by omega)) (bindB hx ?_)
      by_cases e1 : (b : Int) ≥ 48
      · refine letB (v := true) (decide_eq_true e1) (bindB hx ?_)
        by_cases e2 : (b : Int) ≤ 57
        · have := hb (by omega) (by omega)
          exact letB (v := true) (decide_eq_true e2) (letB hw (letB (v := false) (decide_eq_false (show ¬ ((dk 14 d : Nat) : Int) < 14 by omega)) (bifF rfl (leaveB hj))))
        · exact letB (v := false) (decide_eq_false e2) (letB hw (letB (v := false) rfl (bifF rfl (leaveB hj))))
      · exact letB (v := false) (decide_eq_false e1) (bindB (bifF rfl rfl) (letB (v := false) rfl (letB hw (letB (v := false) rfl (bifF rfl (leaveB hj))))))
    · exact letB (v := false) (decide_eq_false (show ¬ ((p + dk 14 d : Nat) : Int) < nLen t by omega)) (bindB (bifF rfl rfl) (letB (v := false) rfl (bindB (bifF rfl rfl) (letB (v := false) rfl (letB hw (letB (v := false) rfl (bifF rfl (leaveB hj))))))))
end Go.Proofs.YtgajbpiclnekkaaDoor
