/- Chapter 36, plainly: what GlassTexts asks. -/
import Derived.Test.YtgajbpiclnekkaaDoorGC
namespace Go.Proofs.YtgajbpiclnekkaaDoor
open Go.VM Go.Txt
set_option maxRecDepth 10000
abbrev RR := (Int × Int × Int × Int) × Int
abbrev bad : RR := (((0 : Int), (0 : Int), (0 : Int), (0 : Int)), (2 : Int))
def K17 (j11 : S4 → Option (S4 ⊕ RR)) : SR → Option (S4 ⊕ RR) := fun p17 =>
 letK (p17.2.2.2.1 == p17.2.2.2.2.2.2) fun v19 =>
 letK (decide (p17.2.2.2.2.2.1 > (1099511627776 : Int))) fun v20 =>
 letK (decide (p17.2.2.2.1 < (nLen p17.1))) fun v21 =>
 (bif (v21 && (!(bif v19 then true else v20))) then (nIdxB p17.1 p17.2.2.2.1) else some (0 : Int)).bind fun v22 =>
 letK (bif v21 then (v22 != (32 : Int)) else false) fun v23 =>
 letK (bif (bif v19 then true else v20) then true else v23) fun v24 =>
 bif v24 then (leave (some bad)) else (letK (IntKind.i64.wrap (p17.2.2.2.2.1 * p17.2.2.2.2.2.1)) fun v25 =>
 (nApp 8 p17.2.2.1 ([v25] : List (Int))).bind fun v26 =>
 letK (IntKind.i64.wrap (p17.2.2.2.1 + (1 : Int))) fun v27 =>
 j11 (p17.1, p17.2.1, v26, v27))
def good (d : List UInt8) : Prop := d ≠ [] ∧ d.all isD = true ∧ d.length ≤ 14 ∧ dval 0 d ≤ 1099511627776
instance (d : List UInt8) : Decidable (good d) := inferInstanceAs (Decidable (_ ∧ _))
theorem K17_ok {j11 : S4 → Option (S4 ⊕ RR)} {t tail d : List UInt8} {p : Nat} {acc : List Int} {sgn : Int} (ht : t.length ≤ 60) (h : t.drop p = d ++ tail) (htl : tail = [] ∨ ∃ r, tail = 32 :: r) (hp : p + d.length + tail.length = t.length) (hno : (32 : UInt8) ∉ d) (hacc : acc.length ≤ 100) (hs : sgn = 1 ∨ sgn = -1) :
    K17 j11 (t, z4, acc, ((p + dk 14 d : Nat) : Int), sgn, (dval 0 (d.take (dk 14 d)) : Int), (p : Int)) = if good d then j11 (t, z4, acc ++ [sgn * (dval 0 d : Int)], ((p + d.length + 1 : Nat) : Int)) else some (.inr bad) := by
  have hdl := dk_le 14 d
  have hlen : nLen t = (t.length : Int) := rfl
  have gk : good d → dk 14 d = d.length := fun g => dk_all.2 ⟨g.2.1, g.2.2.1⟩
  unfold K17
  by_cases hk : dk 14 d = 0
  · have hg : ¬ good d := fun g => by
      have := gk g
      exact g.1 (List.length_eq_zero_iff.1 (by omega))
    rw [if_neg hg, hk]
    refine letB (v := true) (beq_iff_eq.2 (by show ((p + 0 : Nat) : Int) = p; omega)) (letB rfl (letB rfl (bindB (v := 0) (bifF (by simp) rfl) (letB rfl (letB (v := true) rfl (bifT rfl rfl))))))
  · have h19 : (((p + dk 14 d : Nat) : Int) == (p : Int)) = false := beq_false_of_ne (by omega)
    refine letB (v := false) h19 ?_
    by_cases hv : (dval 0 (d.take (dk 14 d)) : Int) > 1099511627776
    · have hg : ¬ good d := fun g => by
        have h1 := gk g
        rw [h1, List.take_length] at hv
        have := g.2.2.2
        omega
      rw [if_neg hg]
      exact letB (v := true) (decide_eq_true hv) (letB rfl (bindB (v := 0) (bifF (by simp) rfl) (letB rfl (letB (v := true) rfl (bifT rfl rfl)))))
    · refine letB (v := false) (decide_eq_false hv) ?_
      rcases Nat.lt_or_ge (dk 14 d) d.length with h1 | h1
      · have hg : ¬ good d := fun g => by have := gk g; omega
        rw [if_neg hg]
        have hx : nIdxB t ((p + dk 14 d : Nat) : Int) = some (((d[dk 14 d]).toNat : Nat) : Int) := at_drop (by rw [h, List.getElem?_append_left h1, List.getElem?_eq_getElem h1])
        have hne : ((d[dk 14 d]).toNat : Int) ≠ 32 := fun e => hno (by
          have : d[dk 14 d] = 32 := UInt8.toNat_inj.1 (by show (d[dk 14 d]).toNat = 32; omega)
          rw [← this]; exact List.getElem_mem _)
        exact letB (v := true) (decide_eq_true (show ((p + dk 14 d : Nat) : Int) < nLen t by omega)) (bindB (bifT rfl hx) (letB (v := true) (by show (_ != (32 : Int)) = true; simp [hne]) (letB (v := true) rfl (bifT rfl rfl))))
      · have hkl : dk 14 d = d.length := by omega
        obtain ⟨a1, a2⟩ := dk_all.1 hkl
        have hg : good d := ⟨fun e => hk (by rw [hkl, e]; rfl), a1, a2, by rw [hkl, List.take_length] at hv; omega⟩
        rw [if_pos hg]
        rw [hkl, List.take_length] at *
        have hd40 := hg.2.2.2
        have fin : (letK (IntKind.i64.wrap (sgn * (dval 0 d : Int))) fun v25 =>
            (nApp 8 acc ([v25] : List (Int))).bind fun v26 =>
            letK (IntKind.i64.wrap (((p + d.length : Nat) : Int) + (1 : Int))) fun v27 =>
            j11 (t, z4, v26, v27)) = j11 (t, z4, acc ++ [sgn * (dval 0 d : Int)], ((p + d.length + 1 : Nat) : Int)) := by
          have hsv : -1099511627776 ≤ sgn * (dval 0 d : Int) ∧ sgn * (dval 0 d : Int) ≤ 1099511627776 := by
            rcases hs with rfl | rfl <;> omega
          exact letB (wv _ rfl (by omega) (by omega)) (bindB (nApp_ok (by simp; omega) (by simp; omega)) (letB (v := ((p + d.length + 1 : Nat) : Int)) (wv _ (by omega) (by omega) (by omega)) rfl))
        rcases htl with rfl | ⟨r', rfl⟩
        · simp only [List.length_nil] at hp
          exact letB (v := false) (decide_eq_false (show ¬ ((p + d.length : Nat) : Int) < nLen t by omega)) (bindB (v := 0) (bifF rfl rfl) (letB (v := false) rfl (letB (v := false) rfl (bifF rfl fin))))
        · simp only [List.length_cons] at hp
          have hx : nIdxB t ((p + d.length : Nat) : Int) = some 32 := at_drop (b := 32) (by rw [h, List.getElem?_append_right (Nat.le_refl _), Nat.sub_self]; rfl)
          exact letB (v := true) (decide_eq_true (show ((p + d.length : Nat) : Int) < nLen t by omega)) (bindB (bifT rfl hx) (letB (v := false) rfl (letB (v := false) rfl (bifF rfl fin))))
def OB (N : Nat) (j2 : List UInt8 × ((Int × Int × Int × Int) × List (Int)) → Option RR) : S4 → Option (S4 ⊕ RR) := fun p8 =>
 letK (decide (p8.2.2.2 ≤ (nLen p8.1))) fun v9 =>
 bif v9 then (joinK (fun (p10 : (List UInt8 × ((Int × Int × Int × Int) × (List (Int) × Int)))) =>
 again (p10.1, p10.2.1, p10.2.2.1, p10.2.2.2)) fun j11 =>
 letK (decide (p8.2.2.2 < (nLen p8.1))) fun v12 =>
 (bif v12 then (nIdxB p8.1 p8.2.2.2) else some (0 : Int)).bind fun v13 =>
 letK (bif v12 then (v13 == (45 : Int)) else false) fun v14 =>
 joinK (fun (p15 : (List UInt8 × ((Int × Int × Int × Int) × (List (Int) × (Int × Int))))) =>
 joinK (K17 j11) fun j18 =>
 loopN N (fun (p28 : (List UInt8 × ((Int × Int × Int × Int) × (List (Int) × (Int × (Int × (Int × Int))))))) =>
 letK (decide (p28.2.2.2.1 < (nLen p28.1))) fun v29 =>
 (bif v29 then (nIdxB p28.1 p28.2.2.2.1) else some (0 : Int)).bind fun v30 =>
 letK (bif v29 then (decide (v30 ≥ (48 : Int))) else false) fun v31 =>
 (bif v31 then (nIdxB p28.1 p28.2.2.2.1) else some (0 : Int)).bind fun v32 =>
 letK (bif v31 then (decide (v32 ≤ (57 : Int))) else false) fun v33 =>
 letK (IntKind.i64.wrap (p28.2.2.2.1 - p28.2.2.2.2.2.2)) fun v34 =>
 letK (bif v33 then (decide (v34 < (14 : Int))) else false) fun v35 =>
 bif v35 then (letK (IntKind.i64.wrap (p28.2.2.2.2.2.1 * (10 : Int))) fun v36 =>
 (nIdxB p28.1 p28.2.2.2.1).bind fun v37 =>
 letK (IntKind.u8.wrap (v37 - (48 : Int))) fun v38 =>
 letK (IntKind.i64.wrap (v36 + (IntKind.i64.wrap v38))) fun v39 =>
 letK (IntKind.i64.wrap (p28.2.2.2.1 + (1 : Int))) fun v40 =>
 again (p28.1, p28.2.1, p28.2.2.1, v40, p28.2.2.2.2.1, v39, p28.2.2.2.2.2.2)) else (leave (j18 (p28.1, p28.2.1, p28.2.2.1, p28.2.2.2.1, p28.2.2.2.2.1, p28.2.2.2.2.2.1, p28.2.2.2.2.2.2)))) (p15.1, p15.2.1, p15.2.2.1, p15.2.2.2.1, p15.2.2.2.2, (0 : Int), p15.2.2.2.1)) fun j16 =>
 bif v14 then (letK (IntKind.i64.wrap (p8.2.2.2 + (1 : Int))) fun v41 =>
 j16 (p8.1, p8.2.1, p8.2.2.1, v41, (-1 : Int))) else (j16 (p8.1, p8.2.1, p8.2.2.1, p8.2.2.2, (1 : Int)))) else (leave (j2 (p8.1, p8.2.1, p8.2.2.1)))
theorem wnum_good (w : List UInt8) : wnum w = if good (digs w) then some ((if neg w = true then -1 else 1) * (dval 0 (digs w) : Int)) else none := by
  unfold wnum
  by_cases h : good (digs w)
  · rw [if_pos h, if_pos (show digs w ≠ [] ∧ (digs w).all isD = true ∧ (digs w).length ≤ 14 ∧ dval 0 (digs w) ≤ 1099511627776 from h)]
    congr 1
    split <;> omega
  · rw [if_neg h, if_neg (show ¬ (digs w ≠ [] ∧ (digs w).all isD = true ∧ (digs w).length ≤ 14 ∧ dval 0 (digs w) ≤ 1099511627776) from h)]
/-- One word. -/
theorem word_step (N : Nat) (hN : 20 < N) (j2 : List UInt8 × ((Int × Int × Int × Int) × List (Int)) → Option RR) {t tail w : List UInt8} {p : Nat} {acc : List Int} (ht : t.length ≤ 60) (h : t.drop p = w ++ tail) (htl : tail = [] ∨ ∃ r, tail = 32 :: r) (hp : p + w.length + tail.length = t.length) (hno : (32 : UInt8) ∉ w) (hacc : acc.length ≤ 100) :
    OB N j2 (t, z4, acc, (p : Int)) = match wnum w with
      | some v => some (.inl (t, z4, acc ++ [v], ((p + w.length + 1 : Nat) : Int)))
      | none => some (.inr bad) := by
  have hlen : nLen t = (t.length : Int) := rfl
  rw [wnum_good]
  unfold OB
  refine letB (v := true) (decide_eq_true (show (p : Int) ≤ nLen t by omega)) (bifT rfl (jB ?_))
  have first : (w ++ tail)[0]? = t[p]? := by rw [← h, List.getElem?_drop, Nat.add_zero]
  have core : ∀ (q : Nat) (d : List UInt8) (sgn : Int) (r : S4 ⊕ RR), t.drop q = d ++ tail → q + d.length + tail.length = t.length → (32 : UInt8) ∉ d → (sgn = 1 ∨ sgn = -1) →
      (if good d then again (t, z4, acc ++ [sgn * (dval 0 d : Int)], ((q + d.length + 1 : Nat) : Int)) else some (.inr bad)) = some r → _ := fun q d sgn r h1 h2 h3 h4 h5 =>
    run_digits N hN (j18 := K17 fun (p10 : S4) => again (p10.1, p10.2.1, p10.2.2.1, p10.2.2.2)) (acc := acc) (sgn := sgn) ht h1 htl h2 ((K17_ok ht h1 htl h2 h3 hacc h4).trans h5)
  cases w with
  | nil =>
    have hn : neg ([] : List UInt8) = false := rfl
    have hd : digs ([] : List UInt8) = [] := rfl
    have hg : ¬ good ([] : List UInt8) := fun g => g.1 rfl
    rw [hd, if_neg hg]
    simp only
    have c := core p [] 1 (.inr bad) h hp hno (.inl rfl) (by rw [if_neg hg])
    rcases htl with rfl | ⟨r', rfl⟩
    · simp only [List.length_nil] at hp
      exact letB (v := false) (decide_eq_false (show ¬ (p : Int) < nLen t by omega)) (bindB (v := 0) rfl (letB (v := false) rfl (jB (bifF rfl (jB c)))))
    · simp only [List.length_nil, List.length_cons] at hp
      have hx : nIdxB t (p : Int) = some 32 := by
        have := at_drop (t := t) (p := p) (k := 0) (b := 32) (by rw [h]; rfl)
        simpa using this
      exact letB (v := true) (decide_eq_true (show (p : Int) < nLen t by omega)) (bindB (bifT rfl hx) (letB (v := false) rfl (jB (bifF rfl (jB c)))))
  | cons c r =>
    simp only [List.length_cons] at hp
    have hx : nIdxB t (p : Int) = some (c.toNat : Int) := by
      have := at_drop (t := t) (p := p) (k := 0) (b := c) (by rw [h]; rfl)
      simpa using this
    refine letB (v := true) (decide_eq_true (show (p : Int) < nLen t by omega)) (bindB (bifT rfl hx) ?_)
    by_cases hc : c = 45
    · subst hc
      have hn : neg (45 :: r) = true := rfl
      have hd : digs (45 :: r) = r := by unfold digs; rw [if_pos hn]; rfl
      rw [hd, hn, if_pos rfl]
      have h2 : t.drop (p + 1) = r ++ tail := by rw [← List.drop_drop, h]; rfl
      have hno2 : (32 : UInt8) ∉ r := fun k => hno (List.mem_cons_of_mem _ k)
      refine letB (v := true) rfl (jB (bifT rfl (letB (v := ((p + 1 : Nat) : Int)) (wv _ (show (p : Int) + 1 = ((p + 1 : Nat) : Int) by omega) (by omega) (by omega)) (jB ?_))))
      by_cases hg : good r
      · rw [if_pos hg]
        exact core (p + 1) r (-1) _ h2 (by omega) hno2 (.inr rfl) (by rw [if_pos hg, show p + 1 + r.length + 1 = p + (45 :: r).length + 1 by simp; omega]; rfl)
      · rw [if_neg hg]
        exact core (p + 1) r (-1) _ h2 (by omega) hno2 (.inr rfl) (by rw [if_neg hg])
    · have hn : neg (c :: r) = false := by unfold neg; simp [hc]
      have hd : digs (c :: r) = c :: r := by unfold digs; rw [if_neg (by rw [hn]; simp)]
      have hc2 : ((c.toNat : Int) == 45) = false := beq_false_of_ne fun e => hc (UInt8.toNat_inj.1 (by show c.toNat = 45; omega))
      rw [hd, hn, if_neg (show ¬ (false = true) by decide)]
      refine letB (v := false) hc2 (jB (bifF rfl (jB ?_)))
      by_cases hg : good (c :: r)
      · rw [if_pos hg]
        exact core p (c :: r) 1 _ h (by simp; omega) hno (.inl rfl) (by rw [if_pos hg]; rfl)
      · rw [if_neg hg]
        exact core p (c :: r) 1 _ h (by simp; omega) hno (.inl rfl) (by rw [if_neg hg])
end Go.Proofs.YtgajbpiclnekkaaDoor
