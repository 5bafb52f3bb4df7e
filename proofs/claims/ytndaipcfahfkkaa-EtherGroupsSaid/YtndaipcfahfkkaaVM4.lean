/- Operands, and the operations that only answer: what the machine says is what the model's operation yields. -/
import Derived.Test.YtndaipcfahfkkaaVM2
import Derived.Test.YtndaipcfahfkkaaVM3
import Derived.Deep.Slices
namespace Go.VM
open Go.RowKit

section consts
variable {w : World} {A : Pl} {B : List Nat}
theorem ofCell_rel {c : Value} {v : V} (h : ofCell c = some v) : Rel w A B v c := by
  unfold ofCell at h
  split at h <;> first | (cases h; constructor) | cases h
theorem ofCells_rel {cs : List Value} {vs : List V} (h : ofCells cs = some vs) : RelL w A B vs cs := by
  induction cs generalizing vs with
  | nil => cases h; exact .nil
  | cons c r ih =>
    simp only [ofCells] at h
    split at h
    · rename_i v vs' h1 h2; cases h; exact .cons _ _ _ _ (ofCell_rel h1) (ih h2)
    · cases h
theorem ofCell_ok {c : Value} {v : V} (h : ofCell c = some v) : v.ok1 = true ∧ v.ok = true ∧ v.names = [] ∧ v.cells = [v] := by
  unfold ofCell at h
  split at h <;> first | (cases h; exact ⟨rfl, rfl, rfl, rfl⟩) | cases h
theorem ofConst_rel {c : Value} {v : V} (h : ofConst c = some v) : Rel w A B v c := by
  unfold ofConst at h
  split at h
  · rename_i cs
    cases hc : ofCells cs.toList with
    | none => rw [hc] at h; cases h
    | some vs => rw [hc] at h; cases h; exact .agg _ _ (ofCells_rel hc)
  · exact ofCell_rel h
end consts

/-- Values that are no names of this call's own variables. -/
def V.far : V → Prop
  | .rp .. | .reg .. => False
  | .sl (.rv ..) .. | .ep (.rv ..) .. => False
  | _ => True

theorem VR.of_rel {G : Gh} {A : Pl} {w : World} {e : Nat → V} {v : V} {c : Value} (hf : v.far) (h : Rel w A G.bxB v c) : VR G A w e v c := by
  cases v with
  | rp => exact hf.elim
  | reg => exact hf.elim
  | sl l z n cs => cases l <;> first | exact hf.elim | exact h
  | ep l cs off => cases l <;> first | exact hf.elim | exact h
  | _ => exact h
theorem VR.rel {G : Gh} {A : Pl} {w : World} {e : Nat → V} {v : V} {c : Value} (hf : v.far) (h : VR G A w e v c) : Rel w A G.bxB v c := by
  cases v with
  | rp => exact hf.elim
  | reg => exact hf.elim
  | sl l z n cs => cases l <;> first | exact hf.elim | exact h
  | ep l cs off => cases l <;> first | exact hf.elim | exact h
  | _ => exact h
theorem V.far_of_ok1 {v : V} (h : v.ok1 = true) : v.far := by
  cases v with
  | sl l z n cs => cases l <;> first | trivial | cases h
  | ep l cs off => cases l <;> first | trivial | cases h
  | rp => cases h
  | reg => cases h
  | _ => trivial
theorem V.far_of_ok {v : V} (h : v.ok = true) : v.far := by
  cases v with
  | agg => trivial
  | undef => trivial
  | _ => exact V.far_of_ok1 (by simpa [V.ok] using h)
theorem V.ok_known {v : V} (h : v.ok = true) : v ≠ .undef ∧ ∀ vs, v ≠ .tup vs := by
  cases v with
  | undef => cases h
  | tup => cases h
  | _ => exact ⟨by simp, by simp⟩

theorem ofConst_far {c : Value} {v : V} (h : ofConst c = some v) : v.far := by
  unfold ofConst at h
  split at h
  · rename_i cs
    cases hc : ofCells cs.toList with
    | none => rw [hc] at h; cases h
    | some vs => rw [hc] at h; cases h; trivial
  · exact V.far_of_ok1 (ofCell_ok h).1

section
variable {D M : Nat → Prop} {G : Gh} {σ : St} {a : Act} {w : World}

/-- An operand's value stands to the model's. -/
theorem SR.opd (h : SR D M G σ a.tmps w) {x : Operand} {y : Opd} (hy : opdOf x = some y) : VR G (At G σ.tips σ.lk w) w (get σ.env) (ev (get σ.env) y) (a.eval x) := by
  cases x with
  | tmp t =>
    simp only [opdOf] at hy; cases hy
    have hs := h.slots t
    simp only [ev, Act.eval]
    generalize get σ.env t = v at hs ⊢
    cases v with
    | reg c n cs =>
      simp only [SlotR, RegR] at hs
      exact ⟨hs.2.1, hs.2.2.1⟩
    | _ => exact hs
  | const c =>
    simp only [opdOf] at hy
    cases hc : ofConst c with
    | none => rw [hc] at hy; cases hy
    | some v =>
      rw [hc] at hy; cases hy
      exact VR.of_rel (ofConst_far hc) (ofConst_rel hc)
  | global g => cases hy
  | func f => simp only [opdOf] at hy; cases hy; exact .fn _ _ _ _ _ .nil .nil rfl rfl

theorem SR.opd_ok (h : SR D M G σ a.tmps w) {x : Operand} {y : Opd} (hy : opdOf x = some y) (hk : (ev (get σ.env) y).ok = true) :
    Rel w (At G σ.tips σ.lk w) G.bxB (ev (get σ.env) y) (a.eval x) := (h.opd hy).rel (V.far_of_ok hk)
end

/- what a Rel says of each kind -/
section inv
variable {w : World} {A : Pl} {B : List Nat} {c : Value}
theorem Rel.int_inv {k : IntKind} {n : Int} (h : Rel w A B (.int k n) c) : c = .int k n := by cases h; rfl
theorem Rel.bool_inv {b : Bool} (h : Rel w A B (.bool b) c) : c = .bool b := by cases h; rfl
theorem Rel.str_inv {s : List UInt8} (h : Rel w A B (.str s) c) : ∃ t : ByteArray, c = .string t ∧ t.data.toList = s := by cases h with | str t => exact ⟨t, rfl, rfl⟩
theorem Rel.nils_inv (h : Rel w A B .nils c) : c = .slice none 0 0 := by cases h; rfl
theorem Rel.sl_inv {l : Lab} {z n : Nat} {cs : List V} (h : Rel w A B (.sl l z n cs) c) : ∃ a cap xs, c = .slice (some a) n cap ∧ A l a xs.length z n cap ∧ 0 < z ∧ xs.length = n * z ∧ n ≤ cap ∧ cap ≤ maxLen ∧ Row w a xs ∧ RelL w A B cs xs ∧ namesL cs = [] := by
  cases h with | sl _ _ _ _ a cap xs h1 h2 h3 h4 h5 h6 h7 h8 => exact ⟨a, cap, xs, rfl, h1, h2, h3, h4, h5, h6, h7, h8⟩
theorem Rel.ep_inv {l : Lab} {cs : List V} {off : Nat} (h : Rel w A B (.ep l cs off) c) : ∃ a z n cap xs, c = .pointer (some (a.add off)) ∧ A l a xs.length z n cap ∧ Row w a xs ∧ RelL w A B cs xs ∧ namesL cs = [] := by
  cases h with | ep _ _ _ a z n cap xs h1 h2 h3 h4 => exact ⟨a, z, n, cap, xs, rfl, h1, h2, h3, h4⟩
theorem Rel.bp_inv {b off : Nat} (h : Rel w A B (.bp b off) c) : ∃ blk, c = .pointer (some ⟨blk, off, none⟩) ∧ B[b]? = some blk := by
  cases h with | bp _ _ blk h => exact ⟨blk, rfl, h⟩
theorem Rel.agg_inv {cs : List V} (h : Rel w A B (.agg cs) c) : ∃ xs : Array Value, c = .agg xs ∧ RelL w A B cs xs.toList := by
  cases h with | agg _ xs h => exact ⟨xs, rfl, h⟩
theorem Rel.tup_inv {cs : List V} (h : Rel w A B (.tup cs) c) : ∃ xs : Array Value, c = .tuple xs ∧ RelL w A B cs xs.toList := by
  cases h with | tup _ xs h => exact ⟨xs, rfl, h⟩
theorem Rel.fn_inv {f : Fn} {a b : List V} (h : Rel w A B (.fn f a b) c) : ∃ xs ys : Array Value, c = .func f xs ys ∧ RelL w A B a xs.toList ∧ RelL w A B b ys.toList ∧ namesL a = [] ∧ namesL b = [] := by
  cases h with | fn _ _ _ xs ys h1 h2 h3 h4 => exact ⟨xs, ys, rfl, h1, h2, h3, h4⟩
end inv

theorem get_set (e : Env) (s t : Nat) (v : V) : get (set e s v) t = if t = s then v else get e t := by
  induction e with
  | nil =>
    simp only [set, get]
    by_cases h : s = t
    · simp [h]
    · simp [h, Ne.symm h]
  | cons x r ih =>
    obtain ⟨a, u⟩ := x
    simp only [set]
    by_cases h : a = s
    · subst h
      simp only [if_true, get]
      by_cases h2 : a = t
      · simp [h2]
      · simp [h2, Ne.symm h2]
    · simp only [if_neg h, get, ih]
      by_cases h2 : a = t
      · subst h2; simp [h]
      · simp [h2]

theorem get_set_fun (e : Env) (s : Nat) (v : V) : get (set e s v) = upd (get e) s v := by
  funext t; rw [get_set]; rfl

/-- What a slot's value says goes on to hold where the labels' places, the variables and the cells go on. -/
structure Goes (G G' : Gh) (A A' : Pl) (w w' : World) (e e' : Nat → V) : Prop where
  keeps : Keeps w w' A A' G.bxB G'.bxB
  rgs : ∀ b s c, G.Z b = .rg s c → G'.Z b = .rg s c ∧ G'.rgB s c = G.rgB s c ∧ G.ver s c ≤ G'.ver s c
  live : ∀ s c v cs, e' s = .reg c v cs → (∃ cs', e s = .reg c v cs' ∧ (∀ j, w'.cell? ⟨G.rgB s c, j, none⟩ = w.cell? ⟨G.rgB s c, j, none⟩)) ∨ (∀ b, G.Z b ≠ .rg s c) ∨ G.ver s c < v

theorem add_block (a : Addr) (n : Nat) : (a.add n).block = a.block := by unfold Addr.add; split <;> rfl

theorem VR.goes {G G' : Gh} {A A' : Pl} {w w' : World} {e e' : Nat → V} (hok : GOk G w) (hg : Goes G G' A A' w w' e e') {v : V} {c : Value} (h : VR G A w e v c) : VR G' A' w' e' v c := by
  have rowk : ∀ (t c v : Nat) (a : Addr) (cs : List V), G.Z a.block = .rg t c → v ≤ G.ver t c → (∀ cs', e t = .reg c v cs' → ∃ xs, Row w a xs ∧ RelL w A G.bxB cs xs) →
      ∀ cs', e' t = .reg c v cs' → ∃ xs, Row w' a xs ∧ RelL w' A' G'.bxB cs xs := by
    intro t c v a cs hz hv hl cs' he
    rcases hg.live t c v cs' he with ⟨cs'', h1, h2⟩ | h1 | h1
    · obtain ⟨xs, h3, h4⟩ := hl cs'' h1
      refine ⟨xs, fun j u hu => ?_, h4.keep hg.keeps⟩
      have h5 := h3 j u hu
      have hb : (a.add j).block = G.rgB t c := by rw [add_block]; exact hok.rgU _ _ _ hz
      have hsp : (a.add j).spot = none := by
        by_cases hsn : (a.add j).spot = none
        · exact hsn
        · exfalso
          unfold World.cell? at h5
          split at h5
          · rw [if_pos (by simpa [Option.isSome_iff_ne_none] using hsn)] at h5; cases h5
          · cases h5
      have haj : a.add j = ⟨G.rgB t c, (a.add j).off, none⟩ := by
        rw [← hb, ← hsp]
      rw [haj] at h5 ⊢
      rw [h2]; exact h5
    · exact absurd hz (h1 _)
    · omega
  cases v with
  | rp t c off =>
    obtain ⟨h1, h2⟩ := h
    obtain ⟨k1, k2, _⟩ := hg.rgs _ _ _ h2
    exact ⟨by rw [k2]; exact h1, by rw [k2]; exact k1⟩
  | reg => exact h.elim
  | sl l z n cs =>
    cases l with
    | rv t c v =>
      obtain ⟨a, cap, h1, h2, h3, h4, h5, h6, h7, h9, h8⟩ := h
      obtain ⟨k1, k2, k3⟩ := hg.rgs _ _ _ h6
      exact ⟨a, cap, h1, h2, h3, h4, h5, k1, by omega, h9, rowk t c v a cs h6 h7 h8⟩
    | _ => exact Rel.keep hg.keeps h
  | ep l cs off =>
    cases l with
    | rv t c v =>
      obtain ⟨a, h1, h6, h7, h9, h8⟩ := h
      obtain ⟨k1, k2, k3⟩ := hg.rgs _ _ _ h6
      exact ⟨a, h1, k1, by omega, h9, rowk t c v a cs h6 h7 h8⟩
    | _ => exact Rel.keep hg.keeps h
  | _ => exact Rel.keep hg.keeps h

end Go.VM
