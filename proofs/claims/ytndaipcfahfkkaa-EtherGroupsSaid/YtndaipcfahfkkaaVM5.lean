/- The operations that only answer and make nothing: one lemma an operation. -/
import Derived.Test.YtndaipcfahfkkaaVM4
namespace Go.VM
open Go.RowKit

/-- The operation o yields c in w and leaves w alone. -/
def Yields (P : Program) (a : Act) (o : Oper) (w : World) (c : Value) : Prop := (execOp a.eval o).run P w = .ok (.value c) w

section
variable {P : Program} {D M : Nat → Prop} {G : Gh} {σ : St} {a : Act} {w : World} {o : Oper}

theorem yields_of {s : Sem Value} {c : Value} (ho : execOp a.eval o = (do pure (.value (← s)))) (h : s.run P w = .ok c w) : Yields P a o w c := by
  unfold Yields; rw [ho]; simp [h]

theorem run_mv {x : Operand} (ho : o.op = .move x ∨ o.op = .assign x) : Yields P a o w (a.eval x) := by
  unfold Yields execOp
  rcases ho with ho | ho <;> simp [ho]

theorem run_pick {c x y : Operand} {t : Bool} (ho : o.op = .pick c x y) (hc : a.eval c = .bool t) : Yields P a o w (if t then a.eval x else a.eval y) := by
  unfold Yields execOp
  cases t <;> simp [ho, hc, asBool]

/- a cell, or a run of cells, of a known row -/
theorem aggT_some {t : TypeId} {g : Bool} (h : aggT P t = some g) (w : World) : (isAgg t).run P w = .ok g w := by
  unfold aggT at h
  unfold isAgg
  split at h <;> first | (cases h) | skip
  · rename_i hu; simp [run_underlying hu]
  · rename_i hu; simp [run_underlying hu]
  · rename_i d h1 h2 hu
    simp only [Sem.run_bind, run_underlying hu, Result.andThen_ok]
    cases d <;> first | rfl | exact absurd hu (by first | exact h1 _ | exact h2 _ _)

theorem sizeT_some {t : TypeId} {sz : Nat} (h : sizeT P t = some sz) (w : World) : (sizeOf t).run P w = .ok sz w := by
  unfold sizeT at h
  cases hi : P.info? t with
  | none => rw [hi] at h; cases h
  | some i =>
    rw [hi] at h; cases h
    simp [sizeOf, typeInfo, hi]

theorem wrapAgg_rel {w : World} {A : Pl} {B : List Nat} {g : Bool} {cs : List V} {v : V} {xs : List Value} (hv : wrapAgg g cs = some v) (h : RelL w A B cs xs) :
    Rel w A B v (if g then .agg xs.toArray else xs.headD Go.undef) ∧ (g = false → xs.length = 1) ∧ v.far := by
  unfold wrapAgg at hv
  cases g with
  | true => cases hv; exact ⟨.agg _ _ (by simpa using h), by simp, trivial⟩
  | false =>
    simp only [Bool.false_eq_true, if_false] at hv ⊢
    split at hv
    · rename_i u
      split at hv
      · rename_i hu
        cases hv
        cases h with
        | cons _ c _ cs h1 h2 => cases h2; exact ⟨by simpa using h1, by simp, V.far_of_ok1 hu⟩
      · cases hv
    · cases hv

theorem part_rel {w : World} {A : Pl} {B : List Nat} {g : Bool} {off sz : Nat} {cs : List V} {v : V} {xs : List Value} (hv : part g off sz cs = some v) (h : RelL w A B cs xs) :
    Rel w A B v (if g then .agg ((xs.drop off).take sz).toArray else ((xs.drop off).take sz).headD Go.undef) ∧ off + sz ≤ xs.length ∧ (g = false → sz = 1) ∧ v.far := by
  unfold part at hv
  split at hv
  · rename_i hl
    have hl' : off + sz ≤ xs.length := by rw [← h.length]; exact hl
    obtain ⟨h1, h2, h3⟩ := wrapAgg_rel hv ((h.drop off).take sz)
    refine ⟨h1, hl', fun hg => ?_, h3⟩
    have h4 := h2 hg
    rw [List.length_take, List.length_drop] at h4
    omega
  · cases hv

theorem head_drop_take (xs : List Value) (off sz : Nat) (h : off + sz ≤ xs.length) (h1 : sz = 1) : xs[off]? = some (((xs.drop off).take sz).headD Go.undef) := by
  subst h1
  have : off < xs.length := by omega
  rw [List.getElem?_eq_getElem this]
  simp [List.headD_eq_head?_getD, List.head?_take, List.head?_drop, List.getElem?_eq_getElem this]

/-- 'part' of a row that is a value. -/
theorem run_part {g : Bool} {off sz : Nat} {t : TypeId} {xs : Array Value} (hg : aggT P t = some g) (hs : sizeT P t = some sz) (hl : off + sz ≤ xs.size) (h1 : g = false → sz = 1) (w : World) :
    (Go.part t xs off).run P w = .ok (if g then .agg ((xs.toList.drop off).take sz).toArray else ((xs.toList.drop off).take sz).headD Go.undef) w := by
  unfold Go.part
  simp only [Sem.run_bind, aggT_some hg, Result.andThen_ok]
  cases g with
  | true =>
    simp only [if_true, Sem.run_bind, sizeT_some hs, Result.andThen_ok, Sem.run_pure]
    congr 2
    apply Array.ext'
    simp [Array.toList_extract, List.extract_eq_take_drop]
  | false =>
    have hh := head_drop_take xs.toList off sz (by simpa using hl) (h1 rfl)
    simp only [Bool.false_eq_true, if_false]
    rw [Array.getElem?_toList] at hh
    rw [hh]
    rfl

theorem row_drop {a : Addr} {xs : List Value} (h : Row w a xs) (off n : Nat) : Row w (a.add off) ((xs.drop off).take n) := by
  intro j u hu
  rw [Go.Deep.add_add]
  have hj : j < n := by
    have := (List.getElem?_eq_some_iff.1 hu).1
    rw [List.length_take] at this; omega
  rw [List.getElem?_take, if_pos hj, List.getElem?_drop] at hu
  exact h _ u hu

/-- A load of cells that are known. -/
theorem run_loadVar_row' {g : Bool} {off sz : Nat} {t : TypeId} {a : Addr} {xs : List Value} (hg : aggT P t = some g) (hs : sizeT P t = some sz) (hl : off + sz ≤ xs.length) (h1 : g = false → sz = 1) (hr : Row w a xs) :
    (loadVar t (a.add off)).run P w = .ok (if g then .agg ((xs.drop off).take sz).toArray else ((xs.drop off).take sz).headD Go.undef) w := by
  unfold loadVar
  simp only [Sem.run_bind, aggT_some hg, Result.andThen_ok]
  cases g with
  | true =>
    simp only [if_true, Sem.run_bind, sizeT_some hs, Result.andThen_ok]
    have hlen : ((xs.drop off).take sz).length = sz := by rw [List.length_take, List.length_drop]; omega
    have := run_loadCells_list (P := P) (w := w) (a.add off) ((xs.drop off).take sz) (fun j v hv => row_drop hr off sz j v hv)
    rw [hlen] at this
    rw [this]
    rfl
  | false =>
    have hh := head_drop_take xs off sz hl (h1 rfl)
    simp only [Bool.false_eq_true, if_false]
    have := hr off _ hh
    simp [this]

theorem row_of_block {g : Nat} {xs : Array Value} {e : TypeId} {fr : Nat × Nat} (h : w.heap[g]? = some (.cells xs e fr)) : Row w ⟨g, 0, none⟩ xs.toList := by
  intro j u hu
  have : (⟨g, 0, none⟩ : Addr).add j = ⟨g, j, none⟩ := by unfold Addr.add; split <;> simp_all
  rw [this, cell_of_row w g j xs e fr h]
  simpa using hu

theorem add_zero_off (g n : Nat) : (⟨g, n, none⟩ : Addr) = (⟨g, 0, none⟩ : Addr).add n := by
  unfold Addr.add; split <;> simp_all
end
end Go.VM
