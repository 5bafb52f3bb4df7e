/- Chapter 36, plainly: words and numbers, no program. -/
import Derived.Test.YtgajbpiclnekkaaDoorT31
import Derived.Test.YtgajbpiclnekkaaDoorT33
import Derived.Test.YtgajbpiclnekkaaDoorT34
namespace Go.Proofs.YtgajbpiclnekkaaDoor
open Go.VM Go.Txt
set_option maxRecDepth 10000
abbrev I4 := Int × Int × Int × Int
def ok40 (v : Int) : Prop := -1099511627776 ≤ v ∧ v ≤ 1099511627776
instance (v : Int) : Decidable (ok40 v) := inferInstanceAs (Decidable (_ ∧ _))
def wl (w : I4) : List (List UInt8) := [Lib.itoa w.1, Lib.itoa w.2.1, Lib.itoa w.2.2.1, Lib.itoa w.2.2.2]
/-- The text of an explanation. -/
def pr (w : I4) : List UInt8 := Lib.join (wl w) [32]
def ok4 (w : I4) : Prop := ok40 w.1 ∧ ok40 w.2.1 ∧ ok40 w.2.2.1 ∧ ok40 w.2.2.2
def gnum (x : List UInt8) : Option Int := if (atoiR x).2 = false ∧ Lib.itoa (atoiR x).1 = x ∧ ok40 (atoiR x).1 then some (atoiR x).1 else none
theorem gnum_some {x : List UInt8} {v : Int} (h : gnum x = some v) : x = Lib.itoa v ∧ ok40 v := by
  unfold gnum at h
  split at h
  · rename_i k; cases h; exact ⟨k.2.1.symm, k.2.2⟩
  · cases h
theorem gnum_itoa {v : Int} (h : ok40 v) : gnum (Lib.itoa v) = some v := by
  have := h.1
  have := h.2
  unfold gnum
  rw [atoi_itoa (by omega), if_pos ⟨rfl, rfl, h⟩]
def set4 (a : I4) (i : Nat) (v : Int) : I4 := if i < 1 then (v, a.2) else (a.1, if i - 1 < 1 then (v, a.2.2) else (a.2.1, if i - 1 - 1 < 1 then (v, a.2.2.2) else (a.2.2.1, v)))
def FG (ps : List (List UInt8)) (i : Nat) (a : I4) : Option I4 := (gnum (ps.getD i [])).map (set4 a i)
/-- What is read. -/
def gp (t : List UInt8) : Option I4 := if (parts 32 t).length = 4 then runF (FG (parts 32 t)) 4 0 (0, 0, 0, 0) else none
theorem wl_no (w : I4) : ∀ x ∈ wl w, (32 : UInt8) ∉ x := by
  intro x hx
  simp only [wl, List.mem_cons, List.not_mem_nil, or_false] at hx
  rcases hx with rfl | rfl | rfl | rfl <;> exact itoa_no (by decide) (by decide)
theorem parts_pr (w : I4) : parts 32 (pr w) = wl w := parts_join 32 (by simp [wl]) (wl_no w)
theorem len4 {ps : List (List UInt8)} (h : ps.length = 4) : ∃ a b c d, ps = [a, b, c, d] := by
  cases ps with
  | nil => cases h
  | cons a ps => cases ps with
    | nil => cases h
    | cons b ps => cases ps with
      | nil => cases h
      | cons c ps => cases ps with
        | nil => cases h
        | cons d ps => cases ps with
          | nil => exact ⟨a, b, c, d, rfl⟩
          | cons e ps => simp at h
theorem run4 (a b c d : List UInt8) : runF (FG [a, b, c, d]) 4 0 (0, 0, 0, 0) = (gnum a).bind fun v0 => (gnum b).bind fun v1 => (gnum c).bind fun v2 => (gnum d).bind fun v3 => some (v0, v1, v2, v3) := by
  simp only [runF, FG, List.getD_cons_zero, List.getD_cons_succ]
  cases gnum a <;> cases gnum b <;> cases gnum c <;> cases gnum d <;> rfl
theorem gp_iff {t : List UInt8} {w : I4} : gp t = some w ↔ t = pr w ∧ ok4 w := by
  unfold gp
  constructor
  · intro h
    split at h
    · rename_i h4
      obtain ⟨a, b, c, d, hp⟩ := len4 h4
      rw [hp, run4] at h
      have hj := join_parts 32 t
      rw [hp] at hj
      cases ha : gnum a with
      | none => rw [ha] at h; cases h
      | some v0 => cases hb : gnum b with
        | none => rw [ha, hb] at h; cases h
        | some v1 => cases hc : gnum c with
          | none => rw [ha, hb, hc] at h; cases h
          | some v2 => cases hd : gnum d with
            | none => rw [ha, hb, hc, hd] at h; cases h
            | some v3 =>
              rw [ha, hb, hc, hd] at h
              cases h
              obtain ⟨rfl, k0⟩ := gnum_some ha
              obtain ⟨rfl, k1⟩ := gnum_some hb
              obtain ⟨rfl, k2⟩ := gnum_some hc
              obtain ⟨rfl, k3⟩ := gnum_some hd
              exact ⟨hj.symm, k0, k1, k2, k3⟩
    · cases h
  · rintro ⟨rfl, k0, k1, k2, k3⟩
    rw [parts_pr, if_pos (show (wl w).length = 4 from rfl)]
    unfold wl
    rw [run4, gnum_itoa k0, gnum_itoa k1, gnum_itoa k2, gnum_itoa k3]
    rfl
theorem itoa_len {v : Int} (h : ok40 v) : 1 ≤ (Lib.itoa v).length ∧ (Lib.itoa v).length ≤ 14 := by
  obtain ⟨h1, h2⟩ := h
  rcases int_cases v with ⟨u, hu, rfl⟩ | ⟨u, rfl⟩
  · rw [Lib.itoa_neg u hu, List.length_cons]
    have := dd_len 12 u (by omega)
    omega
  · rw [Lib.itoa_nonneg u]
    have := dd_len 12 u (by omega)
    have := List.length_pos_iff.2 (dd_facts u).1
    omega
theorem pr_eq (w : I4) : pr w = Lib.itoa w.1 ++ 32 :: (Lib.itoa w.2.1 ++ 32 :: (Lib.itoa w.2.2.1 ++ 32 :: Lib.itoa w.2.2.2)) := by
  unfold pr wl
  rw [join_cons2, join_cons2, join_cons2, Lib.join_one]
theorem pr_len {w : I4} (h : ok4 w) : (pr w).length ≤ 59 := by
  obtain ⟨h0, h1, h2, h3⟩ := h
  have := itoa_len h0
  have := itoa_len h1
  have := itoa_len h2
  have := itoa_len h3
  rw [pr_eq]
  simp only [List.length_append, List.length_cons]
  omega
/- words, as the document's answer reads them -/
def neg (w : List UInt8) : Bool := w.head? == some 45
def digs (w : List UInt8) : List UInt8 := if neg w = true then w.drop 1 else w
def wnum (w : List UInt8) : Option Int := if digs w ≠ [] ∧ (digs w).all isD = true ∧ (digs w).length ≤ 14 ∧ dval 0 (digs w) ≤ 1099511627776 then some (if neg w = true then -(dval 0 (digs w) : Int) else dval 0 (digs w)) else none
theorem wnum_ok {w : List UInt8} {v : Int} (h : wnum w = some v) : ok40 v := by
  unfold wnum at h
  split at h
  · rename_i k
    have := k.2.2.2
    cases h
    unfold ok40
    split <;> omega
  · cases h
theorem wnum_itoa {v : Int} (h : ok40 v) : wnum (Lib.itoa v) = some v := by
  have hl := itoa_len h
  obtain ⟨h1, h2⟩ := h
  rcases int_cases v with ⟨u, hu, rfl⟩ | ⟨u, rfl⟩
  · rw [Lib.itoa_neg u hu] at hl ⊢
    obtain ⟨k1, k2, k3⟩ := dd_facts u
    have hn : neg (45 :: Lib.decDigits u) = true := rfl
    have hd : digs (45 :: Lib.decDigits u) = Lib.decDigits u := by unfold digs; rw [if_pos hn]; rfl
    unfold wnum
    rw [hd, hn, k3, if_pos ⟨k1, k2, by simp at hl; omega, by omega⟩, if_pos rfl]
  · rw [Lib.itoa_nonneg u] at hl ⊢
    obtain ⟨k1, k2, k3⟩ := dd_facts u
    have hn : neg (Lib.decDigits u) = false := by
      unfold neg
      cases e : Lib.decDigits u with
      | nil => exact absurd e k1
      | cons c r =>
        have : c ≠ 45 := fun hc => dd_no (u := u) (c := 45) (by decide) (by rw [e, hc]; exact List.mem_cons_self)
        simp [this]
    have hd : digs (Lib.decDigits u) = Lib.decDigits u := by unfold digs; rw [if_neg (by rw [hn]; simp)]
    unfold wnum
    rw [hd, hn, k3, if_pos ⟨k1, k2, hl.2, by omega⟩, if_neg (by simp)]
def RW (ps : List (List UInt8)) (i : Nat) (acc : List Int) : Option (List Int) := (wnum (ps.getD i [])).map fun v => acc ++ [v]
/-- What the document's answer reads. -/
def gr (t : List UInt8) : Option I4 := match runF (RW (parts 32 t)) (parts 32 t).length 0 [] with
  | some l => (match l with
    | [a, b, c, d] => if pr (a, b, c, d) = t then some (a, b, c, d) else none
    | _ => none)
  | none => none
theorem rw_ok (ps : List (List UInt8)) : ∀ m i acc l, (∀ v ∈ acc, ok40 v) → runF (RW ps) m i acc = some l → (∀ v ∈ l, ok40 v) ∧ l.length = acc.length + m
  | 0, i, acc, l, ha, h => by cases h; exact ⟨ha, rfl⟩
  | m + 1, i, acc, l, ha, h => by
    rw [runF] at h
    cases hw : wnum (ps.getD i []) with
    | none => simp only [RW, hw] at h; cases h
    | some v =>
      simp only [RW, hw, Option.map_some, Option.bind_some] at h
      obtain ⟨k1, k2⟩ := rw_ok ps m (i + 1) (acc ++ [v]) l (fun x hx => by
        rcases List.mem_append.1 hx with hx | hx
        · exact ha x hx
        · rw [List.mem_singleton.1 hx]; exact wnum_ok hw) h
      exact ⟨k1, by rw [k2, List.length_append]; simp; omega⟩
theorem gr_gp (t : List UInt8) : gr t = gp t := by
  have key : ∀ w, gr t = some w ↔ gp t = some w := fun w => by
    rw [gp_iff]
    unfold gr
    constructor
    · intro h
      split at h
      · rename_i l hl
        obtain ⟨k1, _⟩ := rw_ok _ _ _ _ _ (fun v hv => by cases hv) hl
        split at h
        · rename_i a b c d
          split at h
          · rename_i e
            cases h
            exact ⟨e.symm, k1 _ (by simp), k1 _ (by simp), k1 _ (by simp), k1 _ (by simp)⟩
          · cases h
        · cases h
      · cases h
    · rintro ⟨rfl, k0, k1, k2, k3⟩
      obtain ⟨a, b, c, d⟩ := w
      have : runF (RW (parts 32 (pr (a, b, c, d)))) (parts 32 (pr (a, b, c, d))).length 0 [] = some [a, b, c, d] := by
        rw [parts_pr]
        simp only [wl, List.length_cons, List.length_nil, runF, RW, List.getD_cons_zero, List.getD_cons_succ]
        rw [wnum_itoa k0]
        simp only [Option.map_some, Option.bind_some]
        rw [wnum_itoa k1]
        simp only [Option.map_some, Option.bind_some]
        rw [wnum_itoa k2]
        simp only [Option.map_some, Option.bind_some]
        rw [wnum_itoa k3]
        rfl
      rw [this]
      simp only [if_true]
  cases h : gr t with
  | none =>
    cases k : gp t with
    | none => rfl
    | some w => rw [(key w).2 k] at h; cases h
  | some w => exact ((key w).1 h).symm
end Go.Proofs.YtgajbpiclnekkaaDoor
