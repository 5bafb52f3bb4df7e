/- Numbers, strings, '==', closures, interface values, structs built whole. -/
import Derived.Test.YtndaipcfahfkkaaVM7
import Derived.ChangeKeysEq
namespace Go.VM
open Go.RowKit

section scal
variable {P : Program} {w : World} {A : Pl} {B : List Nat} {t : TypeId}

theorem run_intOp {op : BinOp} {k : IntKind} {a b : Int} {v : V} (h : intOp op k a b = some v) : ∃ c, (Go.binOp op t (.int k a) (.int k b)).run P w = .ok c w ∧ Rel w A B v c ∧ v.far := by
  cases op <;> simp only [intOp, Option.some.injEq, reduceCtorEq] at h
  case add => subst h; exact ⟨_, by simp [Go.binOp, Op.intArith], .int _ _, trivial⟩
  case sub => subst h; exact ⟨_, by simp [Go.binOp, Op.intArith], .int _ _, trivial⟩
  case mul => subst h; exact ⟨_, by simp [Go.binOp, Op.intArith], .int _ _, trivial⟩
  case quo =>
    split at h
    · cases h
    · rename_i hb; cases h; exact ⟨_, by simp [Go.binOp, Op.intDiv, hb], .int _ _, trivial⟩
  case rem =>
    split at h
    · cases h
    · rename_i hb; cases h; exact ⟨_, by simp [Go.binOp, Op.intDiv, hb], .int _ _, trivial⟩
  case and => subst h; exact ⟨_, by simp [Go.binOp, intBits_and], .int _ _, trivial⟩
  case or => subst h; exact ⟨_, by simp [Go.binOp, intBits_or], .int _ _, trivial⟩
  case xor => subst h; exact ⟨_, by simp [Go.binOp, intBits_xor], .int _ _, trivial⟩
  case andNot => subst h; exact ⟨_, by simp [Go.binOp, intBits_andNot], .int _ _, trivial⟩
  case eql => subst h; exact ⟨_, by simp [Go.binOp, Op.intCmp], .bool _, trivial⟩
  case neq => subst h; exact ⟨_, by simp [Go.binOp, Op.intCmp], .bool _, trivial⟩
  case lss => subst h; exact ⟨_, by simp [Go.binOp, Op.intCmp], .bool _, trivial⟩
  case leq => subst h; exact ⟨_, by simp [Go.binOp, Op.intCmp], .bool _, trivial⟩
  case gtr => subst h; exact ⟨.bool (decide (a > b)), by simp [Go.binOp, Op.intCmp], .bool _, trivial⟩
  case geq => subst h; exact ⟨.bool (decide (a ≥ b)), by simp [Go.binOp, Op.intCmp], .bool _, trivial⟩

theorem run_shiftOp {op : BinOp} (hop : op = .shl ∨ op = .shr) {k k' : IntKind} {a b : Int} {v : V} (h : shiftOp op k a b = some v) : ∃ c, (Go.binOp op t (.int k a) (.int k' b)).run P w = .ok c w ∧ Rel w A B v c ∧ v.far := by
  unfold shiftOp at h
  split at h
  · cases h
  · rename_i hb
    rcases hop with rfl | rfl
    · cases h; exact ⟨_, by simp [Go.binOp, Op.shift, hb], .int _ _, trivial⟩
    · cases h; exact ⟨_, by simp [Go.binOp, Op.shift, hb], .int _ _, trivial⟩

theorem run_strOp {op : BinOp} {x y : ByteArray} {v : V} (h : strOp op x.data.toList y.data.toList = some v) : ∃ c, (Go.binOp op t (.string x) (.string y)).run P w = .ok c w ∧ Rel w A B v c ∧ v.far := by
  cases op <;> simp only [strOp, Option.some.injEq, reduceCtorEq] at h
  case add =>
    split at h
    · rename_i hl
      cases h
      refine ⟨.string (x ++ y), ?_, ?_, trivial⟩
      · have h1 : ¬ (((x.size + y.size : Nat) : Int) > IntKind.i64.max) := by
          have e1 : x.data.toList.length = x.size := by simp
          have e2 : y.data.toList.length = y.size := by simp
          have e3 : IntKind.i64.max = 9223372036854775807 := by decide
          rw [e3]; omega
        simp only [Go.binOp, Op.stringOp]
        rw [if_neg h1]
        rfl
      · have : x.data.toList ++ y.data.toList = (x ++ y).data.toList := by simp [ByteArray.data_append]
        rw [this]
        exact .str _
    · cases h
  all_goals
    subst h
    exact ⟨_, by simp only [Go.binOp, Op.stringOp, ByteArray.toList_eq]; rfl, .bool _, trivial⟩

theorem eqGuard_int {op : BinOp} {x y : Operand} {k k' : IntKind} {a b : Int} : (eqGuard op t x y (.int k a) (.int k' b)).run P w = .ok () w := by
  unfold eqGuard
  cases op <;> rfl
theorem eqGuard_str {op : BinOp} {x y : Operand} {a b : ByteArray} : (eqGuard op t x y (.string a) (.string b)).run P w = .ok () w := by
  unfold eqGuard
  cases op <;> rfl

/- '==' of flat values -/
theorem eqCells_append {k1 k2 : List CK} {cs ds : List V} {b : Bool} (h : eqCells (k1 ++ k2) cs ds = some b) :
    ∃ b1 b2, eqCells k1 (cs.take k1.length) (ds.take k1.length) = some b1 ∧ eqCells k2 (cs.drop k1.length) (ds.drop k1.length) = some b2 ∧ b = (b1 && b2) := by
  induction k1 generalizing cs ds b with
  | nil => exact ⟨true, b, by simp [eqCells], by simpa using h, by simp⟩
  | cons k ks ih =>
    cases cs with
    | nil => simp [eqCells] at h
    | cons c cs =>
      cases ds with
      | nil => simp [eqCells] at h
      | cons d ds =>
        simp only [List.cons_append, eqCells] at h
        split at h
        · rename_i a b' h1 h2
          cases h
          obtain ⟨b1, b2, h3, h4, h5⟩ := ih h2
          refine ⟨a && b1, b2, ?_, by simpa using h4, by rw [h5, Bool.and_assoc]⟩
          simp only [List.length_cons, List.take_succ_cons, eqCells, h1, h3]
        · cases h

theorem eqCells_length {ks : List CK} {cs ds : List V} {b : Bool} (h : eqCells ks cs ds = some b) : cs.length = ks.length ∧ ds.length = ks.length := by
  induction ks generalizing cs ds b with
  | nil => cases cs <;> cases ds <;> simp [eqCells] at h <;> simp
  | cons k ks ih =>
    cases cs with
    | nil => simp [eqCells] at h
    | cons c cs =>
      cases ds with
      | nil => simp [eqCells] at h
      | cons d ds =>
        simp only [eqCells] at h
        split at h
        · rename_i a b' h1 h2
          have := ih h2
          simp [this]
        · cases h

/-- A value of a type out of its cells. -/
def valOf (g : Bool) (xs : List Value) : Value := if g then .agg xs.toArray else xs.headD Go.undef

def CK.fits (P : Program) (t : TypeId) : CK → Prop
  | .i => ∃ q, P.underlying t = some (.int q)
  | .b => P.underlying t = some .bool
  | .s => P.underlying t = some .string

theorem run_eqCell {c d : Value} {k : CK} {v u : V} {b : Bool} (hv : Rel w A B v c) (hu : Rel w A B u d) (h : eqCell k v u = some b) (n : Nat)
    (ht : k.fits P t) : (Op.equalIn (n + 1) t c d).run P w = .ok b w := by
  cases k with
  | i =>
    cases v with
    | int k1 a =>
      cases u with
      | int k2 b' =>
        by_cases hk : k1 = k2
        · subst hk
          simp only [eqCell, if_true, Option.some.injEq] at h
          subst h
          obtain ⟨q, hq⟩ := ht
          rw [Rel.int_inv hv, Rel.int_inv hu]
          exact run_equalIn_int w n t k1 q _ _ hq
        · simp [eqCell, hk] at h
      | _ => simp [eqCell] at h
    | _ => simp [eqCell] at h
  | b =>
    cases v with
    | bool a =>
      cases u with
      | bool b' =>
        simp only [eqCell, Option.some.injEq] at h
        subst h
        rw [Rel.bool_inv hv, Rel.bool_inv hu]
        exact run_equalIn_bool w n t _ _ ht
      | _ => simp [eqCell] at h
    | _ => simp [eqCell] at h
  | s =>
    cases v with
    | str a =>
      cases u with
      | str b' =>
        simp only [eqCell, Option.some.injEq] at h
        subst h
        obtain ⟨x, rfl, hx⟩ := Rel.str_inv hv
        obtain ⟨y, rfl, hy⟩ := Rel.str_inv hu
        rw [run_equalIn_string w n t x y ht, ByteArray.toList_eq, ByteArray.toList_eq, hx, hy]
      | _ => simp [eqCell] at h
    | _ => simp [eqCell] at h

theorem cellsOf_size {t : TypeId} {n : Nat} (h : sizeT P t = some n) : P.cellsOf t = n := by
  unfold sizeT at h
  unfold Program.cellsOf
  rw [h]; rfl

theorem part_val {g : Bool} {off sz : Nat} {e : TypeId} {xs : List Value} (hg : aggT P e = some g) (hs : sizeT P e = some sz) (hl : off + sz ≤ xs.length) (h1 : g = false → sz = 1) :
    (Go.part e xs.toArray off).run P w = .ok (valOf g ((xs.drop off).take sz)) w := by
  rw [run_part hg hs (by simpa using hl) h1]
  rfl

theorem flat_sound : ∀ (k : Nat) (t : TypeId) (ks : List CK), flatK P k t = some ks → ∃ g, aggT P t = some g ∧ sizeT P t = some ks.length ∧ (g = false → ks.length = 1) ∧
    ∀ (n : Nat), k ≤ n → ∀ (cs ds : List V) (xs ys : List Value) (b : Bool), RelL w A B cs xs → RelL w A B ds ys → eqCells ks cs ds = some b → (Op.equalIn n t (valOf g xs) (valOf g ys)).run P w = .ok b w := by
  intro k
  induction k with
  | zero => intro t ks h; cases h
  | succ k ih =>
    intro t ks h
    have scalar : ∀ (c : CK), ks = [c] → sizeT P t = some 1 → aggT P t = some false → c.fits P t →
        ∃ g, aggT P t = some g ∧ sizeT P t = some ks.length ∧ (g = false → ks.length = 1) ∧
        ∀ (n : Nat), k + 1 ≤ n → ∀ (cs ds : List V) (xs ys : List Value) (b : Bool), RelL w A B cs xs → RelL w A B ds ys → eqCells ks cs ds = some b → (Op.equalIn n t (valOf g xs) (valOf g ys)).run P w = .ok b w := by
      intro c hks hs hg ht
      subst hks
      refine ⟨false, hg, hs, fun _ => rfl, fun n hn cs ds xs ys b hc hd he => ?_⟩
      obtain ⟨m, rfl⟩ : ∃ m, n = m + 1 := ⟨n - 1, by omega⟩
      obtain ⟨l1, l2⟩ := eqCells_length he
      match cs, ds, hc, hd, l1, l2 with
      | [v], [u], .cons _ c1 _ _ h1 .nil, .cons _ c2 _ _ h2 .nil, _, _ =>
        simp only [eqCells] at he
        split at he
        · rename_i a b' h3 h4
          cases h4; cases he
          simp only [valOf, Bool.false_eq_true, if_false, List.headD_cons, Bool.and_true]
          exact run_eqCell h1 h2 h3 m ht
        · cases he
    unfold flatK at h
    split at h
    · rename_i hu
      split at h
      · rename_i hs; cases h; exact scalar .b rfl hs (by simp [aggT, hu]) hu
      · cases h
    · rename_i q hu
      split at h
      · rename_i hs; cases h; exact scalar .i rfl hs (by simp [aggT, hu]) ⟨q, hu⟩
      · cases h
    · rename_i hu
      split at h
      · rename_i hs; cases h; exact scalar .s rfl hs (by simp [aggT, hu]) hu
      · cases h
    · rename_i fs hu
      split at h
      · rename_i ks' hfs
        split at h
        · rename_i hc
          cases h
          refine ⟨true, by simp [aggT, hu], hc.2, by simp, fun n hn cs ds xs ys b h1 h2 he => ?_⟩
          obtain ⟨m, rfl⟩ : ∃ m, n = m + 1 := ⟨n - 1, by omega⟩
          have hfo : P.fieldsOf t = fs := by simp [Program.fieldsOf, hu]
          simp only [valOf, if_true]
          rw [run_equalIn_struct w m t _ _ (by rw [hfo]; exact hu) hc.1, hfo]
          -- field by field
          have key : ∀ (r : List Field) (off : Nat) (ls : List CK) (b : Bool), flatFs P (flatK P k) r off = some ls → eqCells ls (cs.drop off) (ds.drop off) = some b → (Op.eqFields m xs.toArray ys.toArray r).run P w = .ok b w := by
            intro r
            induction r with
            | nil =>
              intro off ls b hf he
              simp only [flatFs] at hf; cases hf
              have : b = true := by
                cases hh : cs.drop off <;> cases hh2 : ds.drop off <;> simp [hh, hh2, eqCells] at he
                exact he
              subst this
              simp [Op.eqFields]
            | cons f r ihr =>
              intro off ls b hf he
              simp only [flatFs] at hf
              split at hf
              · rename_i k1 k2 e1 e2
                split at hf
                · rename_i hcc
                  cases hf
                  obtain ⟨hnm, hoff, hlen⟩ := hcc
                  have hpos := hlen.2
                  obtain ⟨b1, b2, he1, he2, rfl⟩ := eqCells_append he
                  obtain ⟨g, hg, hs, hg1, hrun⟩ := ih f.type k1 e1
                  obtain ⟨l1, l2⟩ := eqCells_length he1
                  have hl1 : off + k1.length ≤ cs.length := by
                    rw [List.length_take, List.length_drop] at l1; omega
                  have hl2 : off + k1.length ≤ ds.length := by
                    rw [List.length_take, List.length_drop] at l2; omega
                  have hx := h1.length
                  have hy := h2.length
                  have p1 := part_val (P := P) (w := w) hg hs (xs := xs) (off := off) (by omega) hg1
                  have p2 := part_val (P := P) (w := w) hg hs (xs := ys) (off := off) (by omega) hg1
                  have p3 := hrun m (by omega) _ _ _ _ b1 ((h1.drop off).take k1.length) ((h2.drop off).take k1.length) he1
                  simp only [Op.eqFields, hnm, ne_eq, not_false_eq_true, if_true, Sem.run_bind, hoff, p1, p2, p3, Result.andThen_ok]
                  cases b1 with
                  | false => simp
                  | true =>
                    have hcl : P.cellsOf f.type = k1.length := hlen.1.symm
                    have := ihr (off + P.cellsOf f.type) k2 b2 e2 (by rw [hcl]; simpa [List.drop_drop] using he2)
                    simpa using this
                · cases hf
              · cases hf
          exact key fs.toList 0 ks b hfs (by simpa using he)
        · cases h
      · cases h
    · rename_i n' e hu
      split at h
      · rename_i ks' hke
        split at h
        · rename_i hc
          cases h
          obtain ⟨hse, hst, hpos⟩ := hc
          obtain ⟨g, hg, hs, hg1, hrun⟩ := ih e ks' hke
          have hlen : (List.replicate n' ks').flatten.length = n' * ks'.length := by simp
          refine ⟨true, by simp [aggT, hu], by rw [hlen]; exact hst, by simp, fun n hn cs ds xs ys b h1 h2 he => ?_⟩
          obtain ⟨m, rfl⟩ : ∃ m, n = m + 1 := ⟨n - 1, by omega⟩
          obtain ⟨i, hi⟩ : ∃ i, P.info? e = some i := by
            unfold sizeT at hse
            cases hq : P.info? e with
            | none => rw [hq] at hse; cases hse
            | some i => exact ⟨i, rfl⟩
          simp only [valOf, if_true]
          rw [run_equalIn_array w m _ _ hu hi, cellsOf_size hse, List.range_eq_range']
          have hx := h1.length
          have hy := h2.length
          have key : ∀ (q j : Nat) (b : Bool), eqCells (List.replicate q ks').flatten (cs.drop (j * ks'.length)) (ds.drop (j * ks'.length)) = some b → (Op.eqItems m e ks'.length xs.toArray ys.toArray (List.range' j q)).run P w = .ok b w := by
            intro q
            induction q with
            | zero =>
              intro j b he
              have : b = true := by
                cases hh : cs.drop (j * ks'.length) <;> cases hh2 : ds.drop (j * ks'.length) <;> simp [hh, hh2, eqCells] at he
                exact he
              subst this
              simp [Op.eqItems]
            | succ q ihq =>
              intro j b he
              rw [List.replicate_succ, List.flatten_cons] at he
              obtain ⟨b1, b2, he1, he2, rfl⟩ := eqCells_append he
              obtain ⟨l1, l2⟩ := eqCells_length he1
              have hl1 : j * ks'.length + ks'.length ≤ cs.length := by
                rw [List.length_take, List.length_drop] at l1; omega
              have hl2 : j * ks'.length + ks'.length ≤ ds.length := by
                rw [List.length_take, List.length_drop] at l2; omega
              have p1 := part_val (P := P) (w := w) hg hs (xs := xs) (off := j * ks'.length) (by omega) hg1
              have p2 := part_val (P := P) (w := w) hg hs (xs := ys) (off := j * ks'.length) (by omega) hg1
              have p3 := hrun m (by omega) _ _ _ _ b1 ((h1.drop (j * ks'.length)).take ks'.length) ((h2.drop (j * ks'.length)).take ks'.length) he1
              rw [List.range'_succ]
              simp only [Op.eqItems, Sem.run_bind, p1, p2, p3, Result.andThen_ok]
              cases b1 with
              | false => simp
              | true =>
                have := ihq (j + 1) b2 (by rw [Nat.add_mul, Nat.one_mul]; simpa [List.drop_drop] using he2)
                simpa using this
          exact key n' 0 b (by simpa using he)
        · cases h
      · cases h
    · cases h
end scal
end Go.VM
