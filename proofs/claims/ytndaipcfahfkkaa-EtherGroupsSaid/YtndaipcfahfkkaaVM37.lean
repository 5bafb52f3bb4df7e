/- A law's arguments, by their types. -/
import Derived.Test.YtndaipcfahfkkaaVM36
import Derived.Test.YtndaipcfahfkkaaVM33
namespace Go.VM
section
variable {P : Program} {t : TypeId} {cs : List V} {v : V}

theorem tyc_bool (h : TyC P t cs) (hu : P.underlying t = some .bool) : ∃ b, cs = [.bool b] := by
  cases h with
  | bool _ b _ => exact ⟨b, rfl⟩
  | _ => simp_all
theorem tyc_int {k : IntKind} (h : TyC P t cs) (hu : P.underlying t = some (.int k)) : ∃ n, cs = [.int k n] ∧ k.min ≤ n ∧ n ≤ k.max := by
  cases h with
  | int _ k' n h1 h2 h3 => rw [hu] at h1; cases h1; exact ⟨n, rfl, h2, h3⟩
  | _ => simp_all
theorem tyc_str (h : TyC P t cs) (hu : P.underlying t = some .string) : ∃ s, cs = [.str s] ∧ s.length ≤ maxLen := by
  cases h with
  | str _ s _ h2 => exact ⟨s, rfl, h2⟩
  | _ => simp_all
theorem tyc_slice {e : TypeId} (h : TyC P t cs) (hu : P.underlying t = some (.slice e)) :
    cs = [.nils] ∨ ∃ css : List (List V), cs = [.sl .none (P.cellsOf e) css.length css.flatten] ∧ 0 < P.cellsOf e ∧ css.length ≤ maxLen ∧ (∀ c, c ∈ css → TyC P e c) ∧ ∀ c, c ∈ css → c.length = P.cellsOf e := by
  cases h with
  | nils => exact .inl rfl
  | sl _ e' css h1 h2 h3 h4 h5 => rw [hu] at h1; cases h1; exact .inr ⟨css, rfl, h2, h3, h4, h5⟩
  | _ => simp_all
def TyCs (P : Program) : List TypeId → List (List V) → Prop
  | [], css => css = []
  | t :: ts, css => ∃ c r, css = c :: r ∧ TyC P t c ∧ TyCs P ts r
theorem tycs_of : ∀ {fs : List Field} {css : List (List V)}, css.length = fs.length → (∀ (i : Nat) f c, fs[i]? = some f → css[i]? = some c → TyC P f.type c) → TyCs P (fs.map (·.type)) css
  | [], css, hl, _ => List.eq_nil_of_length_eq_zero hl
  | f :: fs, [], hl, _ => by simp at hl
  | f :: fs, c :: css, hl, h => ⟨c, css, rfl, h 0 f c rfl rfl, tycs_of (by simpa using hl) fun i f c h1 h2 => h (i + 1) f c (by simpa using h1) (by simpa using h2)⟩
theorem tyc_struct {fs : Array Field} (h : TyC P t cs) (hu : P.underlying t = some (.struct fs)) : ∃ css, cs = css.flatten ∧ TyCs P (fs.toList.map (·.type)) css := by
  cases h with
  | struct _ fs' css h1 h2 h3 =>
    rw [hu] at h1; cases h1
    exact ⟨css, rfl, tycs_of (by simpa using h2) fun i f c k1 k2 => h3 i f c (by simpa using k1) k2⟩
  | _ => simp_all
theorem tyc_array {n : Nat} {e : TypeId} (h : TyC P t cs) (hu : P.underlying t = some (.array n e)) : ∃ css : List (List V), cs = css.flatten ∧ css.length = n ∧ ∀ c ∈ css, TyC P e c := by
  cases h with
  | array _ n' e' css h1 h2 h3 => rw [hu] at h1; cases h1; exact ⟨css, rfl, h2, h3⟩
  | _ => simp_all

theorem tyv_bool (h : TyV P t v) (hu : P.underlying t = some .bool) : ∃ b, v = .bool b := by
  unfold TyV at h
  rw [hu] at h
  obtain ⟨b, hb⟩ := tyc_bool h hu
  cases hb
  exact ⟨b, rfl⟩
theorem tyv_int {k : IntKind} (h : TyV P t v) (hu : P.underlying t = some (.int k)) : ∃ n, v = .int k n ∧ k.min ≤ n ∧ n ≤ k.max := by
  unfold TyV at h
  rw [hu] at h
  obtain ⟨b, hb, h1⟩ := tyc_int h hu
  cases hb
  exact ⟨b, rfl, h1⟩
theorem tyv_str (h : TyV P t v) (hu : P.underlying t = some .string) : ∃ s, v = .str s ∧ s.length ≤ maxLen := by
  unfold TyV at h
  rw [hu] at h
  obtain ⟨b, hb, h1⟩ := tyc_str h hu
  cases hb
  exact ⟨b, rfl, h1⟩
theorem tyv_slice {e : TypeId} (h : TyV P t v) (hu : P.underlying t = some (.slice e)) :
    v = .nils ∨ ∃ css : List (List V), v = .sl .none (P.cellsOf e) css.length css.flatten ∧ 0 < P.cellsOf e ∧ css.length ≤ maxLen ∧ (∀ c, c ∈ css → TyC P e c) ∧ ∀ c, c ∈ css → c.length = P.cellsOf e := by
  unfold TyV at h
  rw [hu] at h
  rcases tyc_slice h hu with hb | ⟨css, hb, h1⟩
  · cases hb; exact .inl rfl
  · cases hb; exact .inr ⟨css, rfl, h1⟩
theorem tyv_struct {fs : Array Field} (h : TyV P t v) (hu : P.underlying t = some (.struct fs)) : ∃ css, v = .agg css.flatten ∧ TyCs P (fs.toList.map (·.type)) css := by
  unfold TyV at h
  rw [hu] at h
  obtain ⟨cs, rfl, h⟩ := h
  obtain ⟨css, rfl, h2⟩ := tyc_struct h hu
  exact ⟨css, rfl, h2⟩
theorem tyv_array {n : Nat} {e : TypeId} (h : TyV P t v) (hu : P.underlying t = some (.array n e)) : ∃ css : List (List V), v = .agg css.flatten ∧ css.length = n ∧ ∀ c ∈ css, TyC P e c := by
  unfold TyV at h
  rw [hu] at h
  obtain ⟨cs, rfl, h⟩ := h
  obtain ⟨css, rfl, h2⟩ := tyc_array h hu
  exact ⟨css, rfl, h2⟩
end
end Go.VM
