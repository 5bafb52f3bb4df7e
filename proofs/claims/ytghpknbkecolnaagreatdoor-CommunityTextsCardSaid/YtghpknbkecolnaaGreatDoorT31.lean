/- Texts cut at a byte: parts, joints, doubled bytes. No program. -/
import Derived.Lib.SplitLaws
import Derived.Lib.IndexMore
import Derived.Lib.IndexLaws
import Derived.Lib.CountLaws
import Derived.Lib.Join
namespace Go.Txt
open Go

/-- The parts of a text between the bytes c. -/
def parts (c : UInt8) : List UInt8 → List (List UInt8)
  | [] => [[]]
  | b :: l => if b = c then [] :: parts c l else match parts c l with
    | h :: t => (b :: h) :: t
    | [] => [[b]]
theorem parts_ne (c : UInt8) : ∀ l, parts c l ≠ []
  | [] => by simp [parts]
  | b :: l => by
    unfold parts
    split
    · simp
    · split <;> simp
theorem parts_hd (c b : UInt8) (l : List UInt8) (h : b ≠ c) : ∃ x t, parts c l = x :: t ∧ parts c (b :: l) = (b :: x) :: t := by
  cases hp : parts c l with
  | nil => exact absurd hp (parts_ne c l)
  | cons x t => exact ⟨x, t, rfl, by rw [parts, if_neg h, hp]⟩
theorem parts_app (c : UInt8) : ∀ (x y : List UInt8), parts c (x ++ c :: y) = parts c x ++ parts c y
  | [], y => by simp [parts]
  | b :: x, y => by
    have ih := parts_app c x y
    by_cases h : b = c
    · subst h
      simp only [List.cons_append, parts, if_true, ih]
    · obtain ⟨h1, t1, e1, e2⟩ := parts_hd c b x h
      obtain ⟨h2, t2, e3, e4⟩ := parts_hd c b (x ++ c :: y) h
      rw [List.cons_append, e4, e2]
      rw [ih, e1] at e3
      simp only [List.cons_append, List.cons.injEq] at e3
      obtain ⟨rfl, rfl⟩ := e3
      rfl
theorem parts_none (c : UInt8) : ∀ {w : List UInt8}, c ∉ w → parts c w = [w]
  | [], _ => rfl
  | b :: w, h => by
    have h1 : b ≠ c := fun e => h (by rw [e]; exact List.mem_cons_self ..)
    have h2 : c ∉ w := fun e => h (List.mem_cons_of_mem _ e)
    rw [parts, if_neg h1, parts_none c h2]
theorem parts_mem (c : UInt8) : ∀ (s : List UInt8), ∀ w ∈ parts c s, c ∉ w ∧ ∀ b ∈ w, b ∈ s
  | [], w, h => by
    rw [parts, List.mem_singleton] at h
    subst h
    exact ⟨List.not_mem_nil, fun b h => (List.not_mem_nil h).elim⟩
  | b :: l, w, h => by
    by_cases hb : b = c
    · rw [parts, if_pos hb] at h
      rcases List.mem_cons.1 h with rfl | h
      · exact ⟨List.not_mem_nil, fun b h => (List.not_mem_nil h).elim⟩
      · obtain ⟨h1, h2⟩ := parts_mem c l w h
        exact ⟨h1, fun x hx => List.mem_cons_of_mem _ (h2 x hx)⟩
    · obtain ⟨x, t, e1, e2⟩ := parts_hd c b l hb
      rw [e2] at h
      rcases List.mem_cons.1 h with rfl | h
      · obtain ⟨h1, h2⟩ := parts_mem c l x (by rw [e1]; exact List.mem_cons_self ..)
        refine ⟨fun hx => ?_, fun y hy => ?_⟩
        · rcases List.mem_cons.1 hx with hx | hx
          · exact hb hx.symm
          · exact h1 hx
        · rcases List.mem_cons.1 hy with rfl | hy
          · exact List.mem_cons_self ..
          · exact List.mem_cons_of_mem _ (h2 y hy)
      · obtain ⟨h1, h2⟩ := parts_mem c l w (by rw [e1]; exact List.mem_cons_of_mem _ h)
        exact ⟨h1, fun x hx => List.mem_cons_of_mem _ (h2 x hx)⟩
theorem join_cons2 (x y : List UInt8) (r : List (List UInt8)) (c : UInt8) : Lib.join (x :: y :: r) [c] = x ++ c :: Lib.join (y :: r) [c] := by
  rw [Lib.join_cons, Lib.join_cons]
  simp [Lib.joinTail]
/-- Words joined are cut into the words. -/
theorem parts_join (c : UInt8) : ∀ {ws : List (List UInt8)}, ws ≠ [] → (∀ w ∈ ws, c ∉ w) → parts c (Lib.join ws [c]) = ws
  | [], h, _ => absurd rfl h
  | [w], _, h => by rw [Lib.join_one]; exact parts_none c (h w (List.mem_singleton.2 rfl))
  | x :: y :: r, _, h => by
    rw [join_cons2, parts_app, parts_none c (h x (List.mem_cons_self ..)), parts_join c (ws := y :: r) (by simp) fun w hw => h w (List.mem_cons_of_mem _ hw)]
    rfl
theorem join_parts (c : UInt8) : ∀ s : List UInt8, Lib.join (parts c s) [c] = s
  | [] => by rw [parts, Lib.join_one]
  | b :: l => by
    have ih := join_parts c l
    by_cases hb : b = c
    · rw [parts, if_pos hb]
      cases hp : parts c l with
      | nil => exact absurd hp (parts_ne c l)
      | cons x t => rw [join_cons2, ← hp, ih, hb]; rfl
    · obtain ⟨x, t, e1, e2⟩ := parts_hd c b l hb
      rw [e2, Lib.join_cons]
      rw [e1, Lib.join_cons] at ih
      rw [List.cons_append, ih]
theorem parts_inj (c : UInt8) {s t : List UInt8} (h : parts c s = parts c t) : s = t := by
  rw [← join_parts c s, h, join_parts]
theorem parts_length (c : UInt8) : ∀ s : List UInt8, (parts c s).length = s.count c + 1
  | [] => rfl
  | b :: l => by
    have ih := parts_length c l
    by_cases hb : b = c
    · subst hb; rw [parts, if_pos rfl, List.length_cons, ih]; simp
    · obtain ⟨x, t, e1, e2⟩ := parts_hd c b l hb
      rw [e2, List.length_cons, List.count_cons_of_ne (by simpa using hb), ← ih, e1, List.length_cons]
theorem first_at {c : UInt8} : ∀ {s : List UInt8}, c ∈ s → ∃ x y, s = x ++ c :: y ∧ c ∉ x
  | [], h => (List.not_mem_nil h).elim
  | b :: l, h => by
    by_cases hb : b = c
    · exact ⟨[], l, by rw [hb]; rfl, List.not_mem_nil⟩
    · have hl : c ∈ l := by
        rcases List.mem_cons.1 h with h | h
        · exact absurd h.symm hb
        · exact h
      obtain ⟨x, y, e, hx⟩ := first_at hl
      exact ⟨b :: x, y, by rw [e]; rfl, fun h => by
        rcases List.mem_cons.1 h with h | h
        · exact hb h.symm
        · exact hx h⟩
/-- strings.Split at one byte. -/
theorem split_parts (c : UInt8) (s : List UInt8) : Lib.split s [c] = parts c s := by
  have key : ∀ (n : Nat) (s : List UInt8), s.length ≤ n → Lib.splitK [c] 0 (s.count c) s = parts c s := by
    intro n
    induction n with
    | zero =>
      intro s hs
      have : s = [] := List.length_eq_zero_iff.1 (by omega)
      subst this; rfl
    | succ n ih =>
      intro s hs
      by_cases hc : c ∈ s
      · obtain ⟨x, y, rfl, hx⟩ := first_at hc
        have hcount : (x ++ c :: y).count c = y.count c + 1 := by
          rw [List.count_append, List.count_eq_zero_of_not_mem hx, List.count_cons_self]; omega
        have hidx : Lib.index (x ++ c :: y) [c] = (x.length : Nat) := by
          refine Lib.index_first (by simp) ?_ ?_
          · unfold Lib.occAt
            rw [List.drop_left]; simp
          · intro j hj
            unfold Lib.occAt
            cases hd : (x ++ c :: y).drop j with
            | nil => rfl
            | cons b r =>
              have : b = x[j] := by
                have h1 := congrArg (·[0]?) hd
                simp only [List.getElem?_drop, Nat.add_zero, List.getElem?_cons_zero] at h1
                rw [List.getElem?_append_left hj, List.getElem?_eq_getElem hj] at h1
                exact (Option.some.inj h1).symm
              have hne : c ≠ b := fun e => hx (by rw [e, this]; exact List.getElem_mem hj)
              simp [List.isPrefixOf, hne]
        rw [hcount, Lib.splitK, if_neg (fun e => by have := beq_iff_eq.1 e; omega), hidx]
        have e1 : (x ++ c :: y).take (((x.length : Nat) : Int).toNat + 0) = x := by simp
        have e2 : (x ++ c :: y).drop (((x.length : Nat) : Int).toNat + [c].length) = y := by
          simp only [Int.toNat_natCast, List.length_singleton]
          rw [show x ++ c :: y = (x ++ [c]) ++ y by simp, show x.length + 1 = (x ++ [c]).length by simp, List.drop_left]
        rw [e1, e2, ih y (by simp only [List.length_append, List.length_cons] at hs; omega), parts_app, parts_none c hx]
        rfl
      · rw [List.count_eq_zero_of_not_mem hc, parts_none c hc]; rfl
  unfold Lib.split
  rw [Lib.count_one]
  exact key _ s (Nat.le_refl _)

/- two bytes c, one behind the other -/
/-- Empty parts that are neither the first nor the last. -/
def inner (ps : List (List UInt8)) : Nat := ((ps.drop 1).dropLast).count []
theorem inner_app {p q : List (List UInt8)} (hp : p ≠ []) (hq : q ≠ []) : inner (p ++ [] :: q) = (p.drop 1).count [] + 1 + q.dropLast.count [] := by
  obtain ⟨a, p, rfl⟩ := List.exists_cons_of_ne_nil hp
  unfold inner
  simp only [List.cons_append, List.drop_succ_cons, List.drop_zero]
  rw [List.dropLast_append_of_ne_nil (by simp), List.count_append]
  obtain ⟨b, q, rfl⟩ := List.exists_cons_of_ne_nil hq
  simp only [List.dropLast_cons_cons, List.count_cons_self]
  omega
theorem occ_split {s t : List UInt8} {i : Nat} (hi : i ≤ s.length) (h : Lib.occAt s t i = true) : s = s.take i ++ (t ++ (s.drop i).drop t.length) := by
  unfold Lib.occAt at h
  obtain ⟨r, hr⟩ := List.isPrefixOf_iff_prefix.1 h
  rw [← hr, List.drop_left, hr, List.take_append_drop]
theorem index_split {s t : List UInt8} {i : Nat} (h : Lib.index s t = i) : ∃ x y, s = x ++ (t ++ y) ∧ x.length = i := by
  rcases Lib.index_spec s t with ⟨h1, _⟩ | ⟨j, h1, h2, h3, _⟩
  · omega
  · have : i = j := by omega
    subst this
    exact ⟨_, _, occ_split h2 h3, by rw [List.length_take]; omega⟩
theorem contains_app (x t y : List UInt8) : Lib.contains (x ++ (t ++ y)) t = true := by
  unfold Lib.contains
  rcases Lib.index_spec (x ++ (t ++ y)) t with ⟨_, h2⟩ | ⟨j, h1, _⟩
  · have := h2 x.length (by simp)
    unfold Lib.occAt at this
    rw [List.drop_left] at this
    have h3 : t.isPrefixOf (t ++ y) = true := List.isPrefixOf_iff_prefix.2 ⟨y, rfl⟩
    rw [h3] at this; cases this
  · rw [h1]; simp
theorem contains_split {s t : List UInt8} (h : Lib.contains s t = true) : ∃ x y, s = x ++ (t ++ y) := by
  unfold Lib.contains at h
  have h := of_decide_eq_true h
  obtain ⟨x, y, e, _⟩ := index_split (s := s) (t := t) (i := (Lib.index s t).toNat) (by omega)
  exact ⟨x, y, e⟩
theorem parts_two (c : UInt8) (x y : List UInt8) : parts c (x ++ ([c, c] ++ y)) = parts c x ++ [] :: parts c y := by
  rw [show x ++ ([c, c] ++ y) = x ++ c :: (c :: y) by simp, parts_app]
  rw [show parts c (c :: y) = [] :: parts c y by rw [parts, if_pos rfl]]
/-- No inner part is empty: no two bytes c. -/
theorem no_two {c : UInt8} {s : List UInt8} (h : inner (parts c s) = 0) : Lib.contains s [c, c] = false := by
  rw [Bool.eq_false_iff]
  intro hc
  obtain ⟨x, y, rfl⟩ := contains_split hc
  rw [parts_two, inner_app (parts_ne c x) (parts_ne c y)] at h
  omega
/-- At most one inner part is empty: no three bytes c. -/
theorem no_three {c : UInt8} {s : List UInt8} (h : inner (parts c s) ≤ 1) : Lib.contains s [c, c, c] = false := by
  rw [Bool.eq_false_iff]
  intro hc
  obtain ⟨x, y, rfl⟩ := contains_split hc
  rw [show x ++ ([c, c, c] ++ y) = x ++ ([c, c] ++ (c :: y)) by simp, parts_two, inner_app (parts_ne c x) (parts_ne c _), show parts c (c :: y) = [] :: parts c y by rw [parts, if_pos rfl]] at h
  obtain ⟨b, q, e⟩ := List.exists_cons_of_ne_nil (parts_ne c y)
  rw [e, List.dropLast_cons_cons, List.count_cons_self] at h
  omega
theorem one_two {c : UInt8} {s : List UInt8} (h : inner (parts c s) ≤ 1) : Lib.count s [c, c] ≤ 1 := by
  rcases Lib.index_spec s [c, c] with ⟨h1, _⟩ | ⟨i, h1, _⟩
  · rw [Lib.count_miss h1]; omega
  · rw [Lib.count_hit (by simp) h1]
    obtain ⟨x, y, rfl, hx⟩ := index_split h1
    rw [parts_two, inner_app (parts_ne c x) (parts_ne c y)] at h
    have e : (x ++ ([c, c] ++ y)).drop (i + [c, c].length) = y := by
      rw [← hx, ← List.append_assoc, show x.length + [c, c].length = (x ++ [c, c]).length by simp, List.drop_left]
    rw [e]
    rcases Lib.index_spec y [c, c] with ⟨h2, _⟩ | ⟨j, h2, _⟩
    · rw [Lib.count_miss h2]; omega
    · obtain ⟨x', y', rfl, _⟩ := index_split h2
      rw [parts_two] at h
      have : ((parts c x' ++ [] :: parts c y').dropLast).count [] ≥ 1 := by
        rw [List.dropLast_append_of_ne_nil (by simp), List.count_append]
        obtain ⟨b, q, e⟩ := List.exists_cons_of_ne_nil (parts_ne c y')
        rw [e, List.dropLast_cons_cons, List.count_cons_self]
        omega
      omega
end Go.Txt
