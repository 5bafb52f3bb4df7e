/- Stations read, plainly. -/
import Derived.Test.YtndaipcfahfkkaaPP
namespace Go.Proofs.Ytndaipcfahfkkaa
open Go.VM
def upd6 (m : Mac) (i : Nat) (x : Int) : Mac := if i < 1 then (x, m.2) else (m.1, (if (i - 1) < 1 then (x, m.2.2) else (m.2.1, (if ((i - 1) - 1) < 1 then (x, m.2.2.2) else (m.2.2.1, (if (((i - 1) - 1) - 1) < 1 then (x, m.2.2.2.2) else (m.2.2.2.1, (if ((((i - 1) - 1) - 1) - 1) < 1 then (x, m.2.2.2.2.2) else (m.2.2.2.2.1, x)))))))))
def zM : Mac := (0, 0, 0, 0, 0, 0)
def mAt (w : Nat → Int) : Nat → Mac
  | 0 => zM
  | i + 1 => upd6 (mAt w i) i (w i)
theorem mAt6 (w : Nat → Int) : mAt w 6 = (w 0, w 1, w 2, w 3, w 4, w 5) := rfl
def cAt (t : List Int) (k : Nat) : Int := t.getD k 0
def okAt (t : List Int) (i : Nat) : Bool := decide (0 ≤ valI (cAt t (3 * i)) ∧ 0 ≤ valI (cAt t (3 * i + 1)) ∧ (i < 5 → cAt t (3 * i + 2) = 58))
def valAt (t : List Int) (i : Nat) : Int := 16 * valI (cAt t (3 * i)) + valI (cAt t (3 * i + 1))
def allOk (t : List Int) : Bool := okAt t 0 && (okAt t 1 && (okAt t 2 && (okAt t 3 && (okAt t 4 && okAt t 5))))
def parseS (s : List UInt8) : Mac × Int := if s.length = 17 ∧ allOk (nBytes s) = true then (mAt (valAt (nBytes s)) 6, 0) else (zM, 2)
theorem allOk_iff {t : List Int} : allOk t = true ↔ ∀ i, i < 6 → okAt t i = true := by
  unfold allOk
  simp only [Bool.and_eq_true]
  constructor
  · rintro ⟨h0, h1, h2, h3, h4, h5⟩ i hi
    match i, hi with
    | 0, _ => exact h0
    | 1, _ => exact h1
    | 2, _ => exact h2
    | 3, _ => exact h3
    | 4, _ => exact h4
    | 5, _ => exact h5
  · intro h
    exact ⟨h 0 (by omega), h 1 (by omega), h 2 (by omega), h 3 (by omega), h 4 (by omega), h 5 (by omega)⟩
theorem at_ok {s : List UInt8} (h : s.length = 17) {k : Nat} (hk : k < 17) : nIdxB s (k : Int) = some (cAt (nBytes s) k) ∧ B8 (cAt (nBytes s) k) := by
  have hl : (nBytes s).length = 17 := by unfold nBytes; rw [List.length_map, h]
  have he : (nBytes s)[k]? = some ((nBytes s)[k]'(by omega)) := List.getElem?_eq_getElem (by omega)
  have hc : cAt (nBytes s) k = (nBytes s)[k]'(by omega) := by unfold cAt; rw [List.getD_eq_getElem?_getD, he]; rfl
  rw [nIdxB_bytes, nIdx_ok he, hc]
  exact ⟨rfl, nBytes_rng s _ (List.getElem_mem _)⟩
theorem valI_rng {c : Int} : -1 ≤ valI c ∧ valI c < 16 := by
  unfold valI
  split
  · omega
  · split <;> omega
theorem nBnd_ok {i : Nat} (h : i < 6) : nBnd (i : Int) 6 = some i := by
  unfold nBnd
  rw [if_pos ⟨by omega, by omega⟩]; rfl
theorem parse2_ok (N : Nat) (s : List UInt8) : n20 (N + 8) s = some (parseS s) := by
  rw [e20]
  simp only [↓letS, bif_if, bne_iff_ne, ne_eq, joinK_eq]
  by_cases hl : s.length = 17
  case neg =>
    rw [if_pos (by simp only [nLen]; omega)]
    unfold parseS
    rw [if_neg (fun h => hl h.1)]; rfl
  rw [if_neg (by simp only [nLen]; omega)]
  obtain ⟨r, h1, h2⟩ := loopN_run (body := fun (p2 : List UInt8 × Mac × Mac × Int) =>
    let v3 := (decide (p2.2.2.2 < (6 : Int)));
    if v3 = true then (let v4 := (IntKind.i64.wrap ((3 : Int) * p2.2.2.2));
    (nIdxB p2.1 v4).bind fun v5 =>
    (n36 (N + 7) v5).bind fun v6 =>
    let v7 := (IntKind.i64.wrap ((3 : Int) * p2.2.2.2));
    let v8 := (IntKind.i64.wrap (v7 + (1 : Int)));
    (nIdxB p2.1 v8).bind fun v9 =>
    (n36 (N + 7) v9).bind fun v10 =>
    let v11 := (if (decide (v6 < (0 : Int))) = true then true else (decide (v10 < (0 : Int))));
    let v12 := (decide (p2.2.2.2 < (5 : Int)));
    let v13 := (IntKind.i64.wrap ((3 : Int) * p2.2.2.2));
    let v14 := (IntKind.i64.wrap (v13 + (2 : Int)));
    (if (v12 && (!v11)) = true then (nIdxB p2.1 v14) else some (0 : Int)).bind fun v15 =>
    let v16 := (if v12 = true then (v15 != (58 : Int)) else false);
    if (if v11 = true then true else v16) = true then (leave (some (((0 : Int), (0 : Int), (0 : Int), (0 : Int), (0 : Int), (0 : Int)), (2 : Int)))) else (let v17 := (IntKind.i64.wrap ((16 : Int) * v6));
    let v18 := (IntKind.i64.wrap (v17 + v10));
    (nBnd p2.2.2.2 6).bind fun v19 =>
    let v20 := (if v19 < 1 then ((IntKind.u8.wrap v18), p2.2.2.1.2) else (p2.2.2.1.1, (if (v19 - 1) < 1 then ((IntKind.u8.wrap v18), p2.2.2.1.2.2) else (p2.2.2.1.2.1, (if ((v19 - 1) - 1) < 1 then ((IntKind.u8.wrap v18), p2.2.2.1.2.2.2) else (p2.2.2.1.2.2.1, (if (((v19 - 1) - 1) - 1) < 1 then ((IntKind.u8.wrap v18), p2.2.2.1.2.2.2.2) else (p2.2.2.1.2.2.2.1, (if ((((v19 - 1) - 1) - 1) - 1) < 1 then ((IntKind.u8.wrap v18), p2.2.2.1.2.2.2.2.2) else (p2.2.2.1.2.2.2.2.1, (IntKind.u8.wrap v18)))))))))));
    let v21 := (IntKind.i64.wrap (p2.2.2.2 + (1 : Int)));
    again (p2.1, p2.2.1, v20, v21))) else (leave (some (p2.2.2.1, (0 : Int))))) (fun k p => ∃ i, i + k = 6 ∧ p = (s, zM, mAt (valAt (nBytes s)) i, (i : Int)) ∧ ∀ j, j < i → okAt (nBytes s) j = true) (fun r => r = parseS s) (fun k p ⟨i, hik, hp, hok⟩ => by
      subst hp
      by_cases hk : k = 0
      · have hi : i = 6 := by omega
        subst hi
        have hlt : ¬ (((6 : Nat) : Int) < 6) := by omega
        simp only [↓letS, hlt, decide_false, if_false, Bool.false_eq_true]
        refine .inr ⟨_, rfl, ?_⟩
        unfold parseS
        rw [if_pos ⟨hl, allOk_iff.2 hok⟩]
      · have hlt : ((i : Int) < 6) := by omega
        obtain ⟨a1, a2⟩ := at_ok hl (k := 3 * i) (by omega)
        obtain ⟨b1, b2⟩ := at_ok hl (k := 3 * i + 1) (by omega)
        have w1 : IntKind.i64.wrap (3 * (i : Int)) = ((3 * i : Nat) : Int) := by rw [wrap_i64 (by omega) (by omega)]; omega
        have w2 : IntKind.i64.wrap (((3 * i : Nat) : Int) + 1) = ((3 * i + 1 : Nat) : Int) := by rw [wrap_i64 (by omega) (by omega)]; omega
        have w3 : IntKind.i64.wrap (((3 * i : Nat) : Int) + 2) = ((3 * i + 2 : Nat) : Int) := by rw [wrap_i64 (by omega) (by omega)]; omega
        simp only [↓letS, hlt, decide_true, if_true, w1, w2, w3, a1, b1, bindS, dig_eq (N + 6) a2, dig_eq (N + 6) b2]
        have bad : okAt (nBytes s) i = false → parseS s = (zM, 2) := fun h => by
          unfold parseS
          rw [if_neg]
          rintro ⟨_, h2⟩
          rw [allOk_iff.1 h2 i (by omega)] at h; cases h
        by_cases hv : valI (cAt (nBytes s) (3 * i)) < 0 ∨ valI (cAt (nBytes s) (3 * i + 1)) < 0
        · have e1 : (if decide (valI (cAt (nBytes s) (3 * i)) < 0) = true then true else decide (valI (cAt (nBytes s) (3 * i + 1)) < 0)) = true := by
            rcases hv with h | h <;> simp [h]
          simp only [↓letS, e1, Bool.not_true, Bool.and_false, Bool.false_eq_true, if_false, bindS, if_true]
          refine .inr ⟨_, rfl, (bad ?_).symm⟩
          unfold okAt
          rw [decide_eq_false_iff_not]
          rintro ⟨h1, h2, _⟩
          omega
        · have e1 : (if decide (valI (cAt (nBytes s) (3 * i)) < 0) = true then true else decide (valI (cAt (nBytes s) (3 * i + 1)) < 0)) = false := by
            simp only [not_or] at hv
            simp [hv.1, hv.2]
          have hw : IntKind.u8.wrap (IntKind.i64.wrap (IntKind.i64.wrap (16 * valI (cAt (nBytes s) (3 * i))) + valI (cAt (nBytes s) (3 * i + 1)))) = valAt (nBytes s) i := by
            have r1 := valI_rng (c := cAt (nBytes s) (3 * i))
            have r2 := valI_rng (c := cAt (nBytes s) (3 * i + 1))
            rw [wrap_i64 (n := 16 * valI (cAt (nBytes s) (3 * i))) (by omega) (by omega), wrap_i64 (by omega) (by omega), wrap8_self (by omega) (by omega)]
            rfl
          have w4 : IntKind.i64.wrap ((i : Int) + 1) = ((i + 1 : Nat) : Int) := by rw [wrap_i64 (by omega) (by omega)]; omega
          simp only [↓letS, e1, Bool.not_false, Bool.and_true, Bool.false_eq_true, if_false, hw, w4, nBnd_ok (by omega : i < 6)]
          by_cases h5 : (i : Int) < 5
          · obtain ⟨c1, c2⟩ := at_ok hl (k := 3 * i + 2) (by omega)
            simp only [↓letS, h5, decide_true, if_true, c1, bindS]
            by_cases hc : cAt (nBytes s) (3 * i + 2) = 58
            · rw [hc]
              simp only [↓letS, bne_self_eq_false, Bool.false_eq_true, if_false, bindS]
              refine .inl ⟨_, rfl, k - 1, by omega, i + 1, by omega, rfl, fun j hj => ?_⟩
              by_cases hji : j = i
              · subst hji
                unfold okAt
                rw [decide_eq_true_eq]
                exact ⟨by omega, by omega, fun _ => hc⟩
              · exact hok j (by omega)
            · have : (cAt (nBytes s) (3 * i + 2) != 58) = true := by simp [hc]
              simp only [this, if_true]
              refine .inr ⟨_, rfl, (bad ?_).symm⟩
              unfold okAt
              rw [decide_eq_false_iff_not]
              rintro ⟨_, _, h3⟩
              exact hc (h3 (by omega))
          · simp only [↓letS, h5, decide_false, if_false, bindS, Bool.false_eq_true]
            refine .inl ⟨_, rfl, k - 1, by omega, i + 1, by omega, rfl, fun j hj => ?_⟩
            by_cases hji : j = i
            · subst hji
              unfold okAt
              rw [decide_eq_true_eq]
              exact ⟨by omega, by omega, fun h => by omega⟩
            · exact hok j (by omega)) (N + 7) 6 (s, zM, zM, 0) ⟨0, rfl, rfl, fun j hj => by omega⟩ (by omega)
  rw [← h2]
  exact h1
def wAt (t : List Int) (i : Nat) : Int := IntKind.u8.wrap (bits .or .i64 (nShl .i64 (valI (cAt t (3 * i))) 4) (bits .and .i64 (valI (cAt t (3 * i + 1))) 15))
theorem w_fin : ∀ h l : Fin 16, IntKind.u8.wrap (bits .or .i64 (nShl .i64 (h.val : Int) 4) (bits .and .i64 (l.val : Int) 15)) = 16 * (h.val : Int) + l.val := by decide +kernel
theorem wAt_ok {t : List Int} {i : Nat} (h1 : 0 ≤ valI (cAt t (3 * i))) (h2 : 0 ≤ valI (cAt t (3 * i + 1))) : wAt t i = valAt t i := by
  have r1 := (valI_rng (c := cAt t (3 * i))).2
  have r2 := (valI_rng (c := cAt t (3 * i + 1))).2
  unfold wAt valAt
  obtain ⟨a, ha⟩ := Int.eq_ofNat_of_zero_le h1
  obtain ⟨b, hb⟩ := Int.eq_ofNat_of_zero_le h2
  rw [ha] at r1 ⊢
  rw [hb] at r2 ⊢
  exact w_fin ⟨a, by omega⟩ ⟨b, by omega⟩
theorem seventeen {t : List Int} (h : t.length = 17) : ∃ t0 t1 t2 t3 t4 t5 t6 t7 t8 t9 t10 t11 t12 t13 t14 t15 t16, t = [t0, t1, t2, t3, t4, t5, t6, t7, t8, t9, t10, t11, t12, t13, t14, t15, t16] := by
  obtain ⟨t0, t, rfl⟩ := List.exists_cons_of_length_pos (l := t) (by omega)
  simp only [List.length_cons] at h
  obtain ⟨t1, t, rfl⟩ := List.exists_cons_of_length_pos (l := t) (by omega)
  simp only [List.length_cons] at h
  obtain ⟨t2, t, rfl⟩ := List.exists_cons_of_length_pos (l := t) (by omega)
  simp only [List.length_cons] at h
  obtain ⟨t3, t, rfl⟩ := List.exists_cons_of_length_pos (l := t) (by omega)
  simp only [List.length_cons] at h
  obtain ⟨t4, t, rfl⟩ := List.exists_cons_of_length_pos (l := t) (by omega)
  simp only [List.length_cons] at h
  obtain ⟨t5, t, rfl⟩ := List.exists_cons_of_length_pos (l := t) (by omega)
  simp only [List.length_cons] at h
  obtain ⟨t6, t, rfl⟩ := List.exists_cons_of_length_pos (l := t) (by omega)
  simp only [List.length_cons] at h
  obtain ⟨t7, t, rfl⟩ := List.exists_cons_of_length_pos (l := t) (by omega)
  simp only [List.length_cons] at h
  obtain ⟨t8, t, rfl⟩ := List.exists_cons_of_length_pos (l := t) (by omega)
  simp only [List.length_cons] at h
  obtain ⟨t9, t, rfl⟩ := List.exists_cons_of_length_pos (l := t) (by omega)
  simp only [List.length_cons] at h
  obtain ⟨t10, t, rfl⟩ := List.exists_cons_of_length_pos (l := t) (by omega)
  simp only [List.length_cons] at h
  obtain ⟨t11, t, rfl⟩ := List.exists_cons_of_length_pos (l := t) (by omega)
  simp only [List.length_cons] at h
  obtain ⟨t12, t, rfl⟩ := List.exists_cons_of_length_pos (l := t) (by omega)
  simp only [List.length_cons] at h
  obtain ⟨t13, t, rfl⟩ := List.exists_cons_of_length_pos (l := t) (by omega)
  simp only [List.length_cons] at h
  obtain ⟨t14, t, rfl⟩ := List.exists_cons_of_length_pos (l := t) (by omega)
  simp only [List.length_cons] at h
  obtain ⟨t15, t, rfl⟩ := List.exists_cons_of_length_pos (l := t) (by omega)
  simp only [List.length_cons] at h
  obtain ⟨t16, t, rfl⟩ := List.exists_cons_of_length_pos (l := t) (by omega)
  simp only [List.length_cons] at h
  have h0 : t = [] := List.eq_nil_of_length_eq_zero (by omega)
  subst h0
  exact ⟨t0, t1, t2, t3, t4, t5, t6, t7, t8, t9, t10, t11, t12, t13, t14, t15, t16, rfl⟩
theorem okAt_iff {t : List Int} {i : Nat} : okAt t i = true ↔ (0 ≤ valI (cAt t (3 * i)) ∧ 0 ≤ valI (cAt t (3 * i + 1)) ∧ (i < 5 → cAt t (3 * i + 2) = 58)) := decide_eq_true_iff
theorem print_all {m : Mac} (h : Mac8 m) : allOk (printI m) = true := by
  obtain ⟨a, b, c, d, e, f⟩ := m
  obtain ⟨⟨a0, a1⟩, ⟨b0, b1⟩, ⟨c0, c1⟩, ⟨d0, d1⟩, ⟨e0, e1⟩, ⟨f0, f1⟩⟩ := h
  have key : ∀ x : Int, 0 ≤ x → x ≤ 255 → 0 ≤ valI (hexI (x / 16)) ∧ 0 ≤ valI (hexI (x % 16)) := fun x h0 h1 => by
    rw [valI_hexI (by omega) (by omega), valI_hexI (by omega) (by omega)]; omega
  rw [allOk_iff]
  intro i hi
  rw [okAt_iff]
  match i, hi with
  | 0, _ => exact ⟨(key a a0 a1).1, (key a a0 a1).2, fun _ => rfl⟩
  | 1, _ => exact ⟨(key b b0 b1).1, (key b b0 b1).2, fun _ => rfl⟩
  | 2, _ => exact ⟨(key c c0 c1).1, (key c c0 c1).2, fun _ => rfl⟩
  | 3, _ => exact ⟨(key d d0 d1).1, (key d d0 d1).2, fun _ => rfl⟩
  | 4, _ => exact ⟨(key e e0 e1).1, (key e e0 e1).2, fun _ => rfl⟩
  | 5, _ => exact ⟨(key f f0 f1).1, (key f f0 f1).2, fun h => by omega⟩
theorem all_print {t : List Int} (h : t.length = 17) (ha : allOk t = true) : printI (mAt (wAt t) 6) = t := by
  rw [allOk_iff] at ha
  have hh : ∀ i, i < 6 → hexI (wAt t i / 16) = cAt t (3 * i) ∧ hexI (wAt t i % 16) = cAt t (3 * i + 1) := by
    intro i hi
    obtain ⟨h1, h2, _⟩ := okAt_iff.1 (ha i hi)
    obtain ⟨p1, p2⟩ := hexI_valI h1
    obtain ⟨q1, q2⟩ := hexI_valI h2
    rw [wAt_ok h1 h2]
    unfold valAt
    have e1 : (16 * valI (cAt t (3 * i)) + valI (cAt t (3 * i + 1))) / 16 = valI (cAt t (3 * i)) := by omega
    have e2 : (16 * valI (cAt t (3 * i)) + valI (cAt t (3 * i + 1))) % 16 = valI (cAt t (3 * i + 1)) := by omega
    rw [e1, e2]; exact ⟨p1, q1⟩
  have hk : ∀ i, i < 5 → cAt t (3 * i + 2) = 58 := fun i hi => (okAt_iff.1 (ha i (by omega))).2.2 hi
  rw [mAt6]
  simp only [printI, hx2]
  rw [(hh 0 (by omega)).1, (hh 0 (by omega)).2, (hh 1 (by omega)).1, (hh 1 (by omega)).2, (hh 2 (by omega)).1, (hh 2 (by omega)).2, (hh 3 (by omega)).1, (hh 3 (by omega)).2, (hh 4 (by omega)).1, (hh 4 (by omega)).2, (hh 5 (by omega)).1, (hh 5 (by omega)).2]
  have k0 := hk 0 (by omega)
  have k1 := hk 1 (by omega)
  have k2 := hk 2 (by omega)
  have k3 := hk 3 (by omega)
  have k4 := hk 4 (by omega)
  clear hh hk ha
  obtain ⟨t0, t1, t2, t3, t4, t5, t6, t7, t8, t9, t10, t11, t12, t13, t14, t15, t16, rfl⟩ := seventeen h
  have k0 : t2 = 58 := k0
  have k1 : t5 = 58 := k1
  have k2 : t8 = 58 := k2
  have k3 : t11 = 58 := k3
  have k4 : t14 = 58 := k4
  subst k0 k1 k2 k3 k4
  rfl
theorem mac8_w (t : List Int) : Mac8 (mAt (wAt t) 6) := ⟨wrap8_rng _, wrap8_rng _, wrap8_rng _, wrap8_rng _, wrap8_rng _, wrap8_rng _⟩
theorem print_iff {s : List UInt8} (hl : s.length = 17) : (nStr (printI (mAt (wAt (nBytes s)) 6)) == s) = allOk (nBytes s) := by
  have hlen : (nBytes s).length = 17 := by unfold nBytes; rw [List.length_map, hl]
  have e : (nStr (printI (mAt (wAt (nBytes s)) 6)) == s) = (printI (mAt (wAt (nBytes s)) 6) == nBytes s) := by
    have := nStr_beq (l := printI (mAt (wAt (nBytes s)) 6)) (m := nBytes s) (printI_rng (mac8_w _)) (nBytes_rng s)
    rw [nStr_nBytes] at this
    exact this
  rw [e, Bool.eq_iff_iff, beq_iff_eq]
  constructor
  · intro h
    have := print_all (mac8_w (nBytes s))
    rw [h] at this
    exact this
  · exact all_print hlen
theorem mAt_eq {t : List Int} (ha : allOk t = true) : mAt (wAt t) 6 = mAt (valAt t) 6 := by
  rw [allOk_iff] at ha
  rw [mAt6, mAt6]
  have : ∀ i, i < 6 → wAt t i = valAt t i := fun i hi => wAt_ok (okAt_iff.1 (ha i hi)).1 (okAt_iff.1 (ha i hi)).2.1
  rw [this 0 (by omega), this 1 (by omega), this 2 (by omega), this 3 (by omega), this 4 (by omega), this 5 (by omega)]
theorem parse_ok (N : Nat) (s : List UInt8) : n19 (N + 20) s = some (parseS s) := by
  rw [e19]
  simp only [↓letS, bif_if, bne_iff_ne, ne_eq, joinK_eq]
  by_cases hl : s.length = 17
  case neg =>
    rw [if_pos (by simp only [nLen]; omega)]
    unfold parseS
    rw [if_neg (fun h => hl h.1)]; rfl
  rw [if_neg (by simp only [nLen]; omega)]
  refine loopN_seq (s := fun i : Nat => (s, zM, mAt (wAt (nBytes s)) i, (i : Int))) (n := 6) (fun i hi => ?_) ?_ (by omega)
  · have hlt : ((i : Int) < 6) := by omega
    obtain ⟨a1, a2⟩ := at_ok hl (k := 3 * i) (by omega)
    obtain ⟨b1, b2⟩ := at_ok hl (k := 3 * i + 1) (by omega)
    have w1 : IntKind.i64.wrap (3 * (i : Int)) = ((3 * i : Nat) : Int) := by rw [wrap_i64 (by omega) (by omega)]; omega
    have w2 : IntKind.i64.wrap (((3 * i : Nat) : Int) + 1) = ((3 * i + 1 : Nat) : Int) := by rw [wrap_i64 (by omega) (by omega)]; omega
    have w4 : IntKind.i64.wrap ((i : Int) + 1) = ((i + 1 : Nat) : Int) := by rw [wrap_i64 (by omega) (by omega)]; omega
    have ix : ∀ c, B8 c → n35 (N + 19) ([48, 49, 50, 51, 52, 53, 54, 55, 56, 57, 97, 98, 99, 100, 101, 102], c) = some (valI c) := fun c hc => by
      rw [e35]; exact congrArg some (ib_at hc)
    have hw : IntKind.u8.wrap (bits .or .i64 (nShl .i64 (valI (cAt (nBytes s) (3 * i))) 4) (bits .and .i64 (valI (cAt (nBytes s) (3 * i + 1))) 15)) = wAt (nBytes s) i := rfl
    simp only [↓letS, hlt, decide_true, if_true, w1, w2, w4, a1, b1, bindS, ix _ a2, ix _ b2, nBnd_ok hi, hw]
    rfl
  · have hlt : ¬ (((6 : Nat) : Int) < 6) := by omega
    simp only [↓letS, hlt, decide_false, Bool.false_eq_true, if_false]
    rw [print_ok (N + 10) (mac8_w _)]
    simp only [↓letS, bindS]
    have hp := print_iff hl
    unfold parseS
    cases ha : allOk (nBytes s) with
    | true =>
      rw [ha] at hp
      rw [if_neg (by rw [hp]; simp), if_pos ⟨hl, rfl⟩, mAt_eq ha]
      rfl
    | false =>
      rw [ha] at hp
      rw [if_pos (by rw [hp]; simp), if_neg (by simp)]
      rfl
end Go.Proofs.Ytndaipcfahfkkaa
