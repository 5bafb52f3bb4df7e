/- Chapter 17, plainly: words read. -/
import Derived.Test.YtghpknbkecolnaaGreatDoorCC
namespace Go.Proofs.YtghpknbkecolnaaGreatDoor
open Go.VM Go.Txt
set_option maxRecDepth 10000
theorem runF_inv {A : Type} {F : Nat → A → Option A} (P : A → Prop) (h : ∀ i a b, P a → F i a = some b → P b) : ∀ m i a b, P a → runF F m i a = some b → P b
  | 0, i, a, b, ha, e => by cases e; exact ha
  | m + 1, i, a, b, ha, e => by
    rw [runF] at e
    cases hF : F i a with
    | none => rw [hF] at e; cases e
    | some c => rw [hF, Option.bind_some] at e; exact runF_inv P h m (i + 1) c b (h i a c ha hF) e
def decF (w : List Int) (i : Nat) (n : Int) : Option Int := if w.getD i 0 < 48 ∨ 57 < w.getD i 0 ∨ 1099511627776 < n then none else some (10 * n + (w.getD i 0 - 48))
def decR (w : List UInt8) : Option Int := runF (decF (nBytes w)) w.length 0 0
theorem decR_nonneg {w : List UInt8} {n : Int} (h : decR w = some n) : 0 ≤ n :=
  runF_inv (F := decF (nBytes w)) (fun n => 0 ≤ n) (fun i a b ha hb => by
    unfold decF at hb
    split at hb
    · cases hb
    · have hb := Option.some.inj hb
      omega) w.length 0 0 n (Int.le_refl _) h
theorem decimal_eq (N : Nat) {w : List UInt8} (hw : w.length ≤ 100000) (hN : w.length < N) : n41 (N + 1) w = some (match decR w with | some n => (n, (bif !(w == []) then decide (n ≤ 1099511627776) else false)) | none => (0, false)) := by
  rw [e41]
  refine jB ?_
  refine loopF_go (decF (nBytes w)) (fun _ n => 0 ≤ n ∧ n ≤ 17592186044416) (fun i n => (w, n, nLen w, (i : Int))) w.length (((0 : Int), false)) (fun n => (n, (bif !(w == []) then decide (n ≤ 1099511627776) else false))) 0 rfl ⟨by omega, by omega⟩ (fun i hi n hn => ?_) (fun n hn => ?_) hN (by unfold decR; cases runF (decF (nBytes w)) w.length 0 0 <;> rfl)
  · have hd : ((i : Int) < nLen w) := by unfold nLen; omega
    have hx := nIdxB_lt hi
    have hc := nBytes_getD_rng w i
    have hF : decF (nBytes w) i n = if (nBytes w).getD i 0 < 48 ∨ 57 < (nBytes w).getD i 0 ∨ 1099511627776 < n then none else some (10 * n + ((nBytes w).getD i 0 - 48)) := rfl
    rw [hF]
    generalize (nBytes w).getD i 0 = c at *
    by_cases hb : c < 48 ∨ 57 < c ∨ 1099511627776 < n
    · rw [if_pos hb]
      refine ⟨fun b hb => (by cases hb), fun _ => ?_⟩
      refine letB (v := true) (decide_eq_true hd) (bifT rfl (bindB hx (bindB (bC hx rfl) (letB rfl (letB rfl (bifT ?_ rfl))))))
      by_cases h1 : c < 48
      · simp [h1]
      · by_cases h2 : 57 < c
        · simp [h1, h2]
        · have h3 : 1099511627776 < n := by omega
          simp [h1, h2, h3]
    · rw [if_neg hb]
      refine ⟨fun b hb => ?_, fun hb => by cases hb⟩
      have hb := Option.some.inj hb
      subst hb
      have h1 : ¬ c < 48 := by omega
      have h2 : ¬ c > 57 := by omega
      have h3 : ¬ n > 1099511627776 := by omega
      refine ⟨by omega, ?_⟩
      have hu : IntKind.u8.wrap (c - 48) = c - 48 := wrap8_self (by omega) (by omega)
      refine letB (v := true) (decide_eq_true hd) (bifT rfl (bindB hx (bindB (bC hx rfl) (letB (v := false) ?_ (letB (v := false) (decide_eq_false h3) (bifF rfl (letB (v := 10 * n) (wv _ rfl (by omega) (by omega)) (bindB hx (letB hu (letB (v := 10 * n + (c - 48)) ?_ (letB (v := (i : Int) + 1) (wv _ rfl (by omega) (by omega)) rfl)))))))))))
      · simp [h1, h2]
      · rw [wrap_i64 (n := c - 48) (by omega) (by omega)]
        exact wv _ rfl (by omega) (by omega)
  · have hd : ¬ ((w.length : Int) < nLen w) := by unfold nLen; omega
    exact letB (v := false) (decide_eq_false hd) (bifF rfl (leaveB (letB rfl (letB rfl rfl))))
abbrev SS := List UInt8 × (List ((Int × Int)) × (List ((Int × Int × Int)) × (List (List UInt8) × (Int × Int))))
abbrev SI := List UInt8 × (List ((Int × Int)) × (List ((Int × Int × Int)) × (List (Int) × (List (List UInt8) × (Int × (Int × (List (List UInt8) × (Int × Int))))))))
abbrev RR := List ((Int × Int)) × List ((Int × Int × Int)) × Int
abbrev bad : RR := (([] : List ((Int × Int))), ([] : List ((Int × Int × Int))), (2 : Int))
noncomputable def WB (N : Nat) (num : List UInt8 → Option (Int × Bool)) (q : Bool → Bool) (p9 : SS) (v14 : List UInt8) (j12 : SS → Option (SS ⊕ RR)) : Option (SS ⊕ RR) :=
 (n39 N (v14, ([58] : List UInt8))).bind fun v15 =>
 joinK (fun (p16 : (List UInt8 × (List ((Int × Int)) × (List ((Int × Int × Int)) × (List (Int) × (List (List UInt8) × (Int × Int))))))) =>
 joinK (fun (p18 : (List UInt8 × (List ((Int × Int)) × (List ((Int × Int × Int)) × (List (List UInt8) × (Int × Int)))))) =>
 j12 (p18.1, p18.2.1, p18.2.2.1, p18.2.2.2.1, p18.2.2.2.2.1, p18.2.2.2.2.2)) fun j19 =>
 letK ((nLen p16.2.2.2.1) == (2 : Int)) fun v20 =>
 joinK (fun (p21 : (List UInt8 × (List ((Int × Int)) × (List ((Int × Int × Int)) × (List (List UInt8) × (Int × Int)))))) =>
 j19 (p21.1, p21.2.1, p21.2.2.1, p21.2.2.2.1, p21.2.2.2.2.1, p21.2.2.2.2.2)) fun j22 =>
 bif v20 then ((nIdx p16.2.2.2.1 (0 : Int)).bind fun v23 =>
 (nIdx p16.2.2.2.1 (1 : Int)).bind fun v24 =>
 letK ([(v23, v24)] : List ((Int × Int))) fun v25 =>
 (nApp 16 p16.2.1 v25).bind fun v26 =>
 j22 (p16.1, v26, p16.2.2.1, p16.2.2.2.2.1, p16.2.2.2.2.2.1, p16.2.2.2.2.2.2)) else (letK ((nLen p16.2.2.2.1) == (3 : Int)) fun v27 =>
 bif v27 then ((nIdx p16.2.2.2.1 (0 : Int)).bind fun v28 =>
 (nIdx p16.2.2.2.1 (1 : Int)).bind fun v29 =>
 (nIdx p16.2.2.2.1 (2 : Int)).bind fun v30 =>
 letK ([(v28, v29, v30)] : List ((Int × Int × Int))) fun v31 =>
 (nApp 24 p16.2.2.1 v31).bind fun v32 =>
 j22 (p16.1, p16.2.1, v32, p16.2.2.2.2.1, p16.2.2.2.2.2.1, p16.2.2.2.2.2.2)) else (leave (some (([] : List ((Int × Int))), ([] : List ((Int × Int × Int))), (2 : Int)))))) fun j17 =>
 loopN N (fun (p33 : (List UInt8 × (List ((Int × Int)) × (List ((Int × Int × Int)) × (List (Int) × (List (List UInt8) × (Int × (Int × (List (List UInt8) × (Int × Int)))))))))) =>
 letK (decide (p33.2.2.2.2.2.2.2.2.2 < p33.2.2.2.2.2.2.2.2.1)) fun v34 =>
 bif v34 then ((nIdx p33.2.2.2.2.2.2.2.1 p33.2.2.2.2.2.2.2.2.2).bind fun v35 =>
 (num v35).bind fun v36 =>
 bif (q v36.2) then (leave (leave (some (([] : List ((Int × Int))), ([] : List ((Int × Int × Int))), (2 : Int))))) else ((nApp 8 p33.2.2.2.1 ([v36.1] : List (Int))).bind fun v37 =>
 letK (IntKind.i64.wrap (p33.2.2.2.2.2.2.2.2.2 + (1 : Int))) fun v38 =>
 again (p33.1, p33.2.1, p33.2.2.1, v37, p33.2.2.2.2.1, p33.2.2.2.2.2.1, p33.2.2.2.2.2.2.1, p33.2.2.2.2.2.2.2.1, p33.2.2.2.2.2.2.2.2.1, v38))) else (leave (j17 (p33.1, p33.2.1, p33.2.2.1, p33.2.2.2.1, p33.2.2.2.2.1, p33.2.2.2.2.2.1, p33.2.2.2.2.2.2.1)))) (p9.1, p9.2.1, p9.2.2.1, ([] : List (Int)), p9.2.2.2.1, p9.2.2.2.2.1, p9.2.2.2.2.2, v15, (nLen v15), (0 : Int))
/-- The numbers of a word. -/
def AF (pn : List UInt8 → Option Int) (ps : List (List UInt8)) (i : Nat) (acc : List Int) : Option (List Int) := (pn (ps.getD i [])).map fun v => acc ++ [v]
def aw (pn : List UInt8 → Option Int) (w : List UInt8) : Option (List Int) := runF (AF pn (parts 58 w)) (parts 58 w).length 0 []
/-- A word put to the lists. -/
def PW (pn : List UInt8 → Option Int) (p : List Cm × List Lg) (w : List UInt8) : Option (List Cm × List Lg) := match aw pn w with
  | some [a, b] => some (p.1 ++ [(a, b)], p.2)
  | some [a, b, c] => some (p.1, p.2 ++ [(a, b, c)])
  | _ => none
def fin17 (s : List UInt8) (l : List Cm) (m : List Lg) (ws : List (List UInt8)) (n i : Int) : List Int → SS ⊕ RR
  | [a, b] => .inl (s, l ++ [(a, b)], m, ws, n, i)
  | [a, b, c] => .inl (s, l, m ++ [(a, b, c)], ws, n, i)
  | _ => .inr bad
theorem word_step (N : Nat) {num : List UInt8 → Option (Int × Bool)} {q : Bool → Bool} {pn : List UInt8 → Option Int} (h1 : ∀ x v, x.length ≤ 100000 → pn x = some v → ∃ e, num x = some (v, e) ∧ q e = false) (h2 : ∀ x, x.length ≤ 100000 → pn x = none → ∃ p, num x = some p ∧ q p.2 = true)
    {s w : List UInt8} {l : List Cm} {m : List Lg} {ws : List (List UInt8)} {n : Int} {i : Nat} (hw : w.length ≤ 100000) (hN : w.length + 1 < N) (hl : l.length ≤ 100000) (hm : m.length ≤ 100000) (hi : i ≤ 100000) :
    WB (N + 1) num q (s, l, m, ws, n, (i : Int)) w (fun p11 => letK (IntKind.i64.wrap (p11.2.2.2.2.2 + (1 : Int))) fun v13 => again (p11.1, p11.2.1, p11.2.2.1, p11.2.2.2.1, p11.2.2.2.2.1, v13)) = match PW pn (l, m) w with
      | some p => some (.inl (s, p.1, p.2, ws, n, ((i + 1 : Nat) : Int)))
      | none => some (.inr bad) := by
  unfold WB
  have h39 : n39 (N + 1) (w, [58]) = some (parts 58 w) := by
    rw [e39, ← split_parts]
    exact qSplit_ok ⟨by omega, by simp⟩
  have hpl : (parts 58 w).length ≤ w.length + 1 := by
    rw [parts_length]
    have := List.count_le_length (a := (58 : UInt8)) (l := w)
    omega
  have hmem := parts_mem 58 w
  have hlen : ∀ x ∈ parts 58 w, x.length ≤ 100000 := fun x hx => by
    have h3 : ∀ (l : List (List UInt8)) (x : List UInt8), x ∈ l → x.length ≤ (Lib.join l [58]).length := by
      intro l
      induction l with
      | nil => intro x hx; cases hx
      | cons a l ih =>
        intro x hx
        cases l with
        | nil => rw [Lib.join_one, List.mem_singleton.1 hx]; exact Nat.le_refl _
        | cons b l =>
          rw [join_cons2, List.length_append, List.length_cons]
          rcases List.mem_cons.1 hx with rfl | hx
          · omega
          · have := ih x hx; omega
    have := h3 _ x hx
    rw [join_parts] at this
    omega
  refine bindB h39 (jB ?_)
  unfold PW aw
  generalize parts 58 w = ps at *
  have nx : IntKind.i64.wrap ((i : Int) + 1) = ((i + 1 : Nat) : Int) := wv _ (by omega) (by omega) (by omega)
  have hR : (match (match runF (AF pn ps) ps.length 0 [] with
      | some [a, b] => some (l ++ [(a, b)], m)
      | some [a, b, c] => some (l, m ++ [(a, b, c)])
      | _ => none : Option (List Cm × List Lg)) with
      | some p => some (.inl (s, p.1, p.2, ws, n, ((i + 1 : Nat) : Int)))
      | none => some (.inr bad)) = (some (match runF (AF pn ps) ps.length 0 [] with
      | some acc => fin17 s l m ws n ((i + 1 : Nat) : Int) acc
      | none => .inr bad) : Option (SS ⊕ RR)) := by
    cases runF (AF pn ps) ps.length 0 [] with
    | none => rfl
    | some acc =>
      cases acc with
      | nil => rfl
      | cons a acc => cases acc with
        | nil => rfl
        | cons b acc => cases acc with
          | nil => rfl
          | cons c acc => cases acc with
            | nil => rfl
            | cons d acc => rfl
  refine Eq.trans ?_ hR.symm
  refine loopF_go (AF pn ps) (fun i acc => acc.length ≤ i) (fun k acc => ((s, l, m, acc, ws, n, (i : Int), ps, nLen ps, (k : Int)) : SI)) ps.length (.inr bad) (fin17 s l m ws n ((i + 1 : Nat) : Int)) [] rfl (Nat.le_refl _) (fun k hk acc hP => ?_) (fun acc hP => ?_) (by omega) (by cases runF (AF pn ps) ps.length 0 [] <;> rfl)
  · have hx : nIdx ps (k : Int) = some (ps.getD k []) := by rw [nIdx_lt hk, List.getD, List.getElem?_eq_getElem hk]; rfl
    have hxl : (ps.getD k []).length ≤ 100000 := by
      rw [List.getD, List.getElem?_eq_getElem hk]
      exact hlen _ (List.getElem_mem hk)
    have hd : ((k : Int) < nLen ps) := by unfold nLen; omega
    unfold AF
    generalize ps.getD k [] = x at *
    cases hp : pn x with
    | none =>
      obtain ⟨p, g1, g2⟩ := h2 x hxl hp
      exact ⟨fun b hb => (by cases hb), fun _ => letB (v := true) (decide_eq_true hd) (bifT rfl (bindB hx (bindB g1 (bifT g2 (leaveB (leaveB rfl))))))⟩
    | some v =>
      obtain ⟨e, g1, g2⟩ := h1 x v hxl hp
      refine ⟨fun b hb => ?_, fun hb => (by cases hb)⟩
      have hb := Option.some.inj hb
      subst hb
      refine ⟨by rw [List.length_append]; simp; omega, letB (v := true) (decide_eq_true hd) (bifT rfl (bindB hx (bindB g1 (bifF g2 (bindB (nApp_ok (by simp; omega) (by simp; omega)) (letB (v := ((k + 1 : Nat) : Int)) (wv _ (show (k : Int) + 1 = ((k + 1 : Nat) : Int) by omega) (by omega) (by omega)) rfl))))))⟩
  · have hd : ¬ ((ps.length : Int) < nLen ps) := by unfold nLen; omega
    refine letB (v := false) (decide_eq_false hd) (bifF rfl (leaveB (jB ?_)))
    cases acc with
    | nil => exact letB (v := false) rfl (jB (bifF rfl (letB (v := false) rfl (bifF rfl rfl))))
    | cons a acc => cases acc with
      | nil => exact letB (v := false) rfl (jB (bifF rfl (letB (v := false) rfl (bifF rfl rfl))))
      | cons b acc => cases acc with
        | nil => exact letB (v := true) rfl (jB (bifT rfl (bindB rfl (bindB rfl (letB rfl (bindB (nApp_ok (by simp; omega) (by simp; omega)) (letB nx rfl)))))))
        | cons c acc => cases acc with
          | nil => exact letB (v := false) rfl (jB (bifF rfl (letB (v := true) rfl (bifT rfl (bindB rfl (bindB rfl (bindB rfl (letB rfl (bindB (nApp_ok (by simp; omega) (by simp; omega)) (letB nx rfl))))))))))
          | cons d acc =>
            have e2 : (nLen (a :: b :: c :: d :: acc) == (2 : Int)) = false := beq_false_of_ne (by unfold nLen; simp only [List.length_cons]; omega)
            have e3 : (nLen (a :: b :: c :: d :: acc) == (3 : Int)) = false := beq_false_of_ne (by unfold nLen; simp only [List.length_cons]; omega)
            exact letB (v := false) e2 (jB (bifF rfl (letB (v := false) e3 (bifF rfl rfl))))
end Go.Proofs.YtghpknbkecolnaaGreatDoor
