/- Chapter 17, plainly: a text read, by the program and by the document. -/
import Derived.Test.YtghpknbkecolnaaGreatDoorCE
namespace Go.Proofs.YtghpknbkecolnaaGreatDoor
open Go.VM Go.Txt
set_option maxRecDepth 10000
theorem loop_out {α R : Type} {body : α → Option (α ⊕ R)} {x : α} {r : R} {M : Nat} (h : body x = some (.inr r)) (hM : 0 < M) : loopN M body x = some r := by
  obtain ⟨M, rfl⟩ : ∃ k, M = k + 1 := ⟨M - 1, by omega⟩
  simp only [loopN, h]
theorem bif_and (a b : Bool) : (bif a then b else false) = (a && b) := by cases a <;> rfl
theorem PW_len {pn : List UInt8 → Option Int} {p q : List Cm × List Lg} {w : List UInt8} (h : PW pn p w = some q) : q.1.length ≤ p.1.length + 1 ∧ q.2.length ≤ p.2.length + 1 := by
  unfold PW at h
  split at h
  · have h := Option.some.inj h; subst h; exact ⟨by simp, by simp⟩
  · have h := Option.some.inj h; subst h; exact ⟨by simp, by simp⟩
  · cases h
def FE (vc : List Cm → Option Bool) (vl : List Lg → Option Bool) (pr : List Cm × List Lg → Option (List UInt8)) (s : List UInt8) (l : List Cm) (m : List Lg) : Option RR :=
 (vc l).bind fun v4 =>
 (bif (!(!v4)) then (vl m) else some false).bind fun v5 =>
 letK (bif (!v4) then true else (!v5)) fun v6 =>
 (bif (!v6) then (pr (l, m)) else some ([] : List UInt8)).bind fun v7 =>
 letK (bif v6 then true else (!(v7 == s))) fun v8 =>
 bif v8 then (some (([] : List ((Int × Int))), ([] : List ((Int × Int × Int))), (2 : Int))) else (some (l, m, (0 : Int)))
theorem FE_ok {vc : List Cm → Option Bool} {vl : List Lg → Option Bool} {pr : List Cm × List Lg → Option (List UInt8)} {s : List UInt8} {l : List Cm} {m : List Lg} (h1 : vc l = some (vldC l)) (h2 : vl m = some (vldL m)) (h3 : pr (l, m) = some (printP l m)) : FE vc vl pr s l m = some (res s (some (l, m))) := by
  unfold FE res
  refine bindB h1 ?_
  cases hc : vldC l with
  | false => exact bindB (v := false) rfl (letB (v := true) rfl (bindB rfl (letB (v := true) rfl (bifT rfl (by simp [hc])))))
  | true =>
    refine bindB (bifT rfl h2) ?_
    cases hd : vldL m with
    | false => exact letB (v := true) rfl (bindB rfl (letB (v := true) rfl (bifT rfl (by simp [hd]))))
    | true =>
      refine letB (v := false) rfl (bindB (bifT rfl h3) (letB (v := !(printP l m == s)) rfl ?_))
      have e : printP l m = prt l m := by unfold printP; rw [hc, hd]; rfl
      rw [e]
      by_cases k : prt l m = s
      · exact bifF (by simp [k]) (by simp [k, hc, hd])
      · exact bifT (by simp [k]) (by simp [k, hc, hd])
theorem getD_len {ws : List (List UInt8)} {k : Nat} (h : ∀ w ∈ ws, w.length ≤ k) (i : Nat) : (ws.getD i []).length ≤ k := by
  rw [List.getD]
  cases hh : ws[i]? with
  | none => exact Nat.zero_le _
  | some w => exact h w (List.mem_of_getElem? hh)
theorem nIdx_getD {T : Type} {ws : List T} {i : Nat} (z : T) (h : i < ws.length) : nIdx ws (i : Int) = some (ws.getD i z) := by rw [nIdx_lt h, List.getD, List.getElem?_eq_getElem h]; rfl
theorem parse_p (N : Nat) (hN : 4000 < N) {s : List UInt8} (hs : s.length ≤ 3000) : n13 (N + 100) s = some (res s (parse0 pnP (Lib.fieldsD s))) := by
  rw [e13]
  obtain ⟨f1, f2⟩ := fields_len s
  have h38 : n38 (N + 99) s = some (Lib.fieldsD s) := by rw [e38]; exact qFields_ok (by omega)
  have vend : ∀ (l : List Cm) (m : List Lg), l.length ≤ 3001 → m.length ≤ 3001 → FE (n18 (N + 99)) (n26 (N + 99)) (n11 (N + 99)) s l m = some (res s (some (l, m))) := fun l m h1 h2 =>
    FE_ok (valid_c (N + 49) (by omega) (by omega)) (valid_l (N + 49) (by omega) (by omega)) (print_p (N + 39) (by omega) (by omega) (by omega) (by omega) (by omega))
  refine letB (v := false) (decide_eq_false (by unfold nLen; omega)) (bifF rfl (bindB h38 (jB ?_)))
  unfold parse0
  generalize Lib.fieldsD s = ws at *
  refine loopF_go (fun i p => PW pnP p (ws.getD i [])) (fun i p => p.1.length ≤ i ∧ p.2.length ≤ i) (fun i p => ((s, p.1, p.2, ws, nLen ws, (i : Int)) : SS)) ws.length bad (fun p => res s (some p)) ([], []) rfl ⟨by simp, by simp⟩ (fun i hi p hP => ?_) (fun p hP => ?_) (by omega) ?_
  · have wl := getD_len f2 i
    have st := word_step (N + 98) (num := n40 (N + 99)) (q := fun b => true != !b) (pn := pnP) (fun x v hx h => by
        unfold pnP at h
        split at h
        · cases h
        · rename_i hb
          have h := Option.some.inj h
          rw [e40]
          exact ⟨(atoiR x).2, by rw [qAtoi_ok (by omega), ← h], by rw [Bool.not_eq_true] at hb; rw [hb]; rfl⟩) (fun x hx h => by
        unfold pnP at h
        split at h
        · rename_i hb
          rw [e40]
          exact ⟨atoiR x, qAtoi_ok (by omega), by rw [hb]; rfl⟩
        · cases h) (s := s) (w := ws.getD i []) (l := p.1) (m := p.2) (ws := ws) (n := nLen ws) (i := i) (by omega) (by omega) (by omega) (by omega) (by omega)
    have hx := nIdx_getD [] hi
    refine ⟨fun b hb => ⟨?_, ?_⟩, fun hb => ?_⟩
    · have := PW_len hb; omega
    · refine letB (v := true) (decide_eq_true (show (i : Int) < nLen ws by unfold nLen; omega)) (bifT rfl (jB (bindB hx (st.trans ?_))))
      rw [show PW pnP (p.1, p.2) (ws.getD i []) = some b from hb]
    · refine letB (v := true) (decide_eq_true (show (i : Int) < nLen ws by unfold nLen; omega)) (bifT rfl (jB (bindB hx (st.trans ?_))))
      rw [show PW pnP (p.1, p.2) (ws.getD i []) = none from hb]
  · refine letB (v := false) (decide_eq_false (show ¬ (ws.length : Int) < nLen ws by unfold nLen; omega)) (bifF rfl (leaveB ?_))
    exact vend p.1 p.2 (by omega) (by omega)
  · cases runF (fun i p => PW pnP p (ws.getD i [])) ws.length 0 ([], []) <;> rfl
theorem parse_r (N : Nat) (hN : 200000 < N) {s : List UInt8} (hs : s.length ≤ 3000) : n14 (N + 100) s = some (res s (parseR s)) := by
  rw [e14]
  have h39 : n39 (N + 99) (s, [32]) = some (parts 32 s) := by rw [e39, ← split_parts]; exact qSplit_ok ⟨by omega, by simp⟩
  have vend : ∀ (l : List Cm) (m : List Lg), l.length ≤ 3001 → m.length ≤ 3001 → FE (n19 (N + 99)) (n27 (N + 99)) (n10 (N + 99)) s l m = some (res s (some (l, m))) := fun l m h1 h2 =>
    FE_ok (valid_rc (N + 97) (by omega) (by omega)) (valid_rl (N + 97) (by omega) (by omega)) (print_r (N + 39) (by omega) (by omega) (by omega) (by omega) (by omega))
  refine letB (v := false) (decide_eq_false (by unfold nLen; omega)) (bifF rfl (bindB h39 (jB ?_)))
  by_cases he : s = []
  · subst he
    refine loop_out ?_ (by omega)
    exact letB (v := true) rfl (bifT rfl (jB (bindB rfl (bifT rfl (leaveB (vend [] [] (by simp) (by simp)))))))
  unfold parseR
  rw [if_neg he]
  have f1 : (parts 32 s).length ≤ s.length + 1 := by
    rw [parts_length]
    have := List.count_le_length (a := (32 : UInt8)) (l := s)
    omega
  have f2 : ∀ w ∈ parts 32 s, w.length ≤ s.length := fun x hx => by
    have h3 : ∀ (l : List (List UInt8)) (x : List UInt8), x ∈ l → x.length ≤ (Lib.join l [32]).length := by
      intro l
      induction l with
      | nil => intro x hx; cases hx
      | cons a l ih =>
        intro x hx
        cases l with
        | nil => rw [Lib.join_one, List.mem_singleton.1 hx]; exact Nat.le_refl _
        | cons b l =>
          rw [join_cons2, List.length_append, List.length_cons]
          rcases List.mem_cons.1 hx with rfl | hx
          · omega
          · have := ih x hx; omega
    have := h3 _ x hx
    rwa [join_parts] at this
  unfold parse0
  generalize parts 32 s = ws at *
  refine loopF_go (fun i p => PW pnR p (ws.getD i [])) (fun i p => p.1.length ≤ i ∧ p.2.length ≤ i) (fun i p => ((s, p.1, p.2, ws, nLen ws, (i : Int)) : SS)) ws.length bad (fun p => res s (some p)) ([], []) rfl ⟨by simp, by simp⟩ (fun i hi p hP => ?_) (fun p hP => ?_) (by omega) ?_
  · have wl := getD_len f2 i
    have h1 : ∀ (x : List UInt8) (v : Int), x.length ≤ 100000 → pnR x = some v → ∃ e, n41 (N + 99) x = some (v, e) ∧ (!e) = false := fun x v hx h => by
      have hd := decimal_eq (N + 98) (w := x) (by omega) (by omega)
      unfold pnR at h
      cases hr : decR x with
      | none => rw [hr] at h; cases h
      | some n =>
        rw [hr] at h hd
        simp only at h hd
        split at h
        · rename_i hb
          have h := Option.some.inj h
          subst h
          exact ⟨_, hd, by rw [bif_and, hb]; rfl⟩
        · cases h
    have h2 : ∀ x : List UInt8, x.length ≤ 100000 → pnR x = none → ∃ p, n41 (N + 99) x = some p ∧ (!p.2) = true := fun x hx h => by
      have hd := decimal_eq (N + 98) (w := x) (by omega) (by omega)
      unfold pnR at h
      cases hr : decR x with
      | none => rw [hr] at hd; exact ⟨_, hd, rfl⟩
      | some n =>
        rw [hr] at h hd
        simp only at h hd
        split at h
        · cases h
        · rename_i hb
          exact ⟨_, hd, by rw [bif_and, Bool.eq_false_iff.2 hb]; rfl⟩
    have st := word_step (N + 98) (num := n41 (N + 99)) (q := fun b => !b) (pn := pnR) h1 h2 (s := s) (w := ws.getD i []) (l := p.1) (m := p.2) (ws := ws) (n := nLen ws) (i := i) (by omega) (by omega) (by omega) (by omega) (by omega)
    · have hx := nIdx_getD [] hi
      have hse : (s == []) = false := by simpa using he
      refine ⟨fun b hb => ⟨?_, ?_⟩, fun hb => ?_⟩
      · have := PW_len hb; omega
      · refine letB (v := true) (decide_eq_true (show (i : Int) < nLen ws by unfold nLen; omega)) (bifT rfl (jB (bindB hx (bifF hse (st.trans ?_)))))
        rw [show PW pnR (p.1, p.2) (ws.getD i []) = some b from hb]
      · refine letB (v := true) (decide_eq_true (show (i : Int) < nLen ws by unfold nLen; omega)) (bifT rfl (jB (bindB hx (bifF hse (st.trans ?_)))))
        rw [show PW pnR (p.1, p.2) (ws.getD i []) = none from hb]
  · refine letB (v := false) (decide_eq_false (show ¬ (ws.length : Int) < nLen ws by unfold nLen; omega)) (bifF rfl (leaveB ?_))
    exact vend p.1 p.2 (by omega) (by omega)
  · cases runF (fun i p => PW pnR p (ws.getD i [])) ws.length 0 ([], []) <;> rfl
end Go.Proofs.YtghpknbkecolnaaGreatDoor
