/- The rest of the operations that only answer. -/
import Derived.Test.YtndaipcfahfkkaaVM8
namespace Go.VM
open Go.RowKit

theorem zip_set (xs : List Value) : ∀ (cells : Array Value) (off k : Nat), off + k + xs.length ≤ cells.size →
    ((xs.zipIdx k).foldl (fun cs (x : Value × Nat) => cs.setIfInBounds (off + x.2) x.1) cells).toList = cells.toList.take (off + k) ++ xs ++ cells.toList.drop (off + k + xs.length) := by
  induction xs with
  | nil => intro cells off k h; simp
  | cons x xs ih =>
    intro cells off k h
    simp only [List.length_cons] at h
    rw [List.zipIdx_cons, List.foldl_cons, ih _ off (k + 1) (by simp; omega)]
    simp only [Array.toList_setIfInBounds, List.length_cons]
    have hlt : off + k < cells.toList.length := by simp; omega
    rw [show off + (k + 1) = (off + k) + 1 from by omega]
    have e1 : (cells.toList.set (off + k) x).take (off + k + 1) = cells.toList.take (off + k) ++ [x] := by
      rw [List.take_add_one, List.take_set]
      simp [List.getElem?_set, hlt]
      rw [if_pos (by simpa using hlt)]
      simp
      rw [List.set_eq_of_length_le]
      simp
      omega
    have e2 : (cells.toList.set (off + k) x).drop (off + k + 1 + xs.length) = cells.toList.drop (off + k + (xs.length + 1)) := by
      rw [List.drop_set_of_lt (by omega)]
      congr 1; omega
    rw [e1, e2]
    simp

theorem fill_cells (v : Value) (cells : Array Value) (off : Nat) (h : off + v.cells.size ≤ cells.size) :
    (v.cells.zipIdx.foldl (fun cs (x : Value × Nat) => cs.setIfInBounds (off + x.2) x.1) cells).toList = cells.toList.take off ++ v.cells.toList ++ cells.toList.drop (off + v.cells.toList.length) := by
  have := zip_set v.cells.toList cells off 0 (by simpa using h)
  rw [← Array.foldl_toList]
  simpa [Array.toList_zipIdx] using this

/-- The parts of a literal: their places, and how they are spelt for the machine. -/
inductive PartsOk (place : Nat → Option (Nat × Nat)) : List (Nat × Operand) → List (Nat × Nat × Opd) → Prop
  | nil : PartsOk place [] []
  | cons (i : Nat) (x : Operand) (off sz : Nat) (y : Opd) (r : List (Nat × Operand)) (s : List (Nat × Nat × Opd)) : place i = some (off, sz) → opdOf x = some y → PartsOk place r s → PartsOk place ((i, x) :: r) ((off, sz, y) :: s)

section
variable {P : Program} {D M : Nat → Prop} {G : Gh} {σ : St} {a : Act} {w : World} {o : Oper} {t0 : Nat → Nat} {clk d : Nat} {bx : BX}

theorem fits_inv {v : V} {sz off len : Nat} (h : fits v sz off len = true) : v.ok = true ∧ v.cells.length = sz ∧ off + sz ≤ len := by
  unfold fits at h
  simp only [Bool.and_eq_true, beq_iff_eq, decide_eq_true_eq] at h
  exact ⟨h.1.1, h.1.2, h.2⟩

theorem fill_rel (h : SR D M G σ a.tmps w) {place : Nat → Option (Nat × Nat)} {ps : List (Nat × Operand)} {qs : List (Nat × Nat × Opd)} (hp : PartsOk place ps qs) :
    ∀ {zs cs : List V} {xs : Array Value}, fill (get σ.env) zs qs = some cs → RelL w (At G σ.tips σ.lk w) G.bxB zs xs.toList →
      ∃ ys : Array Value, Instr.fill place xs (ps.map fun (i, x) => (i, a.eval x)) = some ys ∧ RelL w (At G σ.tips σ.lk w) G.bxB cs ys.toList := by
  induction hp with
  | nil => intro zs cs xs hf hr; simp only [fill] at hf; cases hf; exact ⟨xs, rfl, hr⟩
  | cons i x off sz y r s h1 h2 h3 ih =>
    intro zs cs xs hf hr
    simp only [fill] at hf
    split at hf
    · rename_i hfit
      obtain ⟨k1, k2, k3⟩ := fits_inv hfit
      have hrel := h.opd_ok h2 k1
      have hc := hrel.cells (V.ok_known k1).1 (V.ok_known k1).2
      have hcl := hc.length
      have hsz : (a.eval x).cells.size = sz := by rw [← k2, hcl]; simp
      have hxl : xs.size = zs.length := by rw [hr.length]; simp
      have hspl := hr.splice hc off
      have hq := fill_cells (a.eval x) xs off (by omega)
      rw [← hq] at hspl
      obtain ⟨ys, h4, h5⟩ := ih hf hspl
      refine ⟨ys, ?_, h5⟩
      simp only [List.map_cons, Instr.fill, h1]
      rw [if_neg (by simp [hsz]; omega)]
      exact h4
    · cases hf

theorem partsS_ok {fs : Array Field} : ∀ {ps : List (Nat × Operand)} {qs : List (Nat × Nat × Opd)}, partsS P fs ps = some qs → PartsOk (fun i => (fs[i]?).bind fun f => (sizeT P f.type).map fun sz => (f.offset, sz)) ps qs
  | [], qs, h => by cases h; exact .nil
  | (i, x) :: r, qs, h => by
    simp only [partsS] at h
    split at h
    · rename_i f y ys e1 e2 e3
      cases hs : sizeT P f.type with
      | none => rw [hs] at h; cases h
      | some sz =>
        rw [hs] at h; cases h
        exact .cons _ _ _ _ _ _ _ (by simp [e1, hs]) e2 (partsS_ok e3)
    · cases h
theorem partsA_ok {z : Nat} : ∀ {ps : List (Nat × Operand)} {qs : List (Nat × Nat × Opd)}, partsA z ps = some qs → PartsOk (fun i => some (i * z, z)) ps qs
  | [], qs, h => by cases h; exact .nil
  | (i, x) :: r, qs, h => by
    simp only [partsA] at h
    split at h
    · rename_i y ys e1 e2
      cases h
      exact .cons _ _ _ _ _ _ _ rfl e1 (partsA_ok e2)
    · cases h

theorem zerosT_inv {t : TypeId} {zs : List V} (h : zerosT P t = some zs) : ∃ i z, P.info? t = some i ∧ i.zero = some z ∧ z.cells.size = i.size ∧ 0 < i.size ∧ ofCells z.cells.toList = some zs := by
  unfold zerosT at h
  split at h
  · rename_i i hi
    split at h
    · rename_i z hz
      split at h
      · rename_i hc; exact ⟨i, z, hi, hz, hc.1, hc.2, h⟩
      · cases h
    · cases h
  · cases h

theorem mapM_places {fs : List Field} (h : (fs.all fun f => (P.info? f.type).isSome) = true) : ∃ ps, fs.mapM (fun f => (P.info? f.type).map fun i => (f.offset, i.size)) = some ps ∧ ∀ (i : Nat), ps[i]? = (fs[i]?).bind fun f => (sizeT P f.type).map fun sz => (f.offset, sz) := by
  induction fs with
  | nil => exact ⟨[], rfl, fun i => by simp⟩
  | cons f r ih =>
    simp only [List.all_cons, Bool.and_eq_true] at h
    obtain ⟨ps, h1, h2⟩ := ih h.2
    obtain ⟨i, hi⟩ := Option.isSome_iff_exists.1 h.1
    refine ⟨(f.offset, i.size) :: ps, ?_, fun j => ?_⟩
    · simp [List.mapM_cons, hi, h1]
    · cases j with
      | zero => simp [sizeT, hi]
      | succ j => simpa using h2 j

theorem ans_build (h : SR D M G σ a.tmps w) {t : TypeId} {parts : Array (Nat × Operand)} {zs : List V} {qs : List (Nat × Nat × Opd)} {v : V} (ho : o.op = .build t parts) (hz : zerosT P t = some zs)
    (hq : (∃ fs, P.underlying t = some (.struct fs) ∧ (fs.toList.all fun f => (P.info? f.type).isSome) = true ∧ partsS P fs parts.toList = some qs) ∨ (∃ n e z, P.underlying t = some (.array n e) ∧ sizeT P e = some z ∧ partsA z parts.toList = some qs))
    (hv : pureOp (get σ.env) t0 clk bx d (.build zs qs) = some v) : Ans P G σ a o w v := by
  obtain ⟨it, z, hi, hzz, hzs, hpos, hof⟩ := zerosT_inv hz
  simp only [pureOp] at hv
  cases hf : fill (get σ.env) zs qs with
  | none => rw [hf] at hv; cases hv
  | some cs =>
    rw [hf] at hv; cases hv
    have hzr : RelL w (At G σ.tips σ.lk w) G.bxB zs z.cells.toList := ofCells_rel hof
    have fin : ∀ ys : Array Value, P.built t ((parts.map fun (i, x) => (i, a.eval x)).toList) = some ys → RelL w (At G σ.tips σ.lk w) G.bxB cs ys.toList → Ans P G σ a o w (.agg cs) := by
      intro ys hb hr
      refine ⟨.agg ys, ?_, .agg _ _ hr⟩
      unfold Yields execOp
      simp only [ho, Sem.run_bind, run_build w t _ ys hb, Result.andThen_ok]
      rfl
    rcases hq with ⟨fs, hu, hall, hps⟩ | ⟨n, e, sz, hu, hs, hps⟩
    · obtain ⟨ys, h1, h2⟩ := fill_rel h (partsS_ok hps) hf hzr
      obtain ⟨ps, h3, h4⟩ := mapM_places hall
      refine fin ys ?_ h2
      unfold Program.built
      simp only [hi, hu, hzz, h3]
      have hpl : (fun x : Nat => ps.toArray[x]?) = fun i => (fs[i]?).bind fun f => (sizeT P f.type).map fun sz => (f.offset, sz) := by
        funext i
        rw [List.getElem?_toArray, h4 i, Array.getElem?_toList]
      rw [hpl, Array.toList_map]
      exact h1
    · obtain ⟨ys, h1, h2⟩ := fill_rel h (partsA_ok hps) hf hzr
      refine fin ys ?_ h2
      unfold sizeT at hs
      cases hie : P.info? e with
      | none => rw [hie] at hs; cases hs
      | some ie =>
        rw [hie] at hs; cases hs
        unfold Program.built
        simp only [hi, hu, hzz, hie]
        rw [Array.toList_map]
        exact h1

theorem ans_unop (h : SR D M G σ a.tmps w) {op : UnOp} {t : TypeId} {x : Operand} {y : Opd} {v : V} (ho : o.op = .unOp op t x) (hy : opdOf x = some y) (hv : unV op (ev (get σ.env) y) = some v) : Ans P G σ a o w v := by
  unfold unV at hv
  split at hv
  · rename_i k n e1
    cases hv
    refine ⟨_, ?_, .int _ _⟩
    unfold Yields execOp
    simp [ho, h.opd_int hy e1, Op.unary, Op.intArith]
  · rename_i k n e1
    cases hv
    refine ⟨_, ?_, .int _ _⟩
    unfold Yields execOp
    simp [ho, h.opd_int hy e1, unary_xor, intBits_xor]
  · rename_i b e1
    cases hv
    refine ⟨_, ?_, .bool _⟩
    unfold Yields execOp
    simp [ho, h.opd_bool hy e1, Op.unary]
  · cases hv

theorem yields_bin {op : BinOp} {t yt : TypeId} {x y : Operand} {c : Value} (ho : o.op = .binOp op t x y yt) (hg : (eqGuard op t x y (a.eval x) (a.eval y)).run P w = .ok () w) (hr : (Go.binOp op t (a.eval x) (a.eval y)).run P w = .ok c w) : Yields P a o w c := by
  unfold Yields execOp
  simp only [ho, Sem.run_bind, hg, hr, Result.andThen_ok]
  rfl

theorem ans_bin (h : SR D M G σ a.tmps w) {op : BinOp} {t yt : TypeId} {x y : Operand} {x' y' : Opd} {v : V} (ho : o.op = .binOp op t x y yt) (hx : opdOf x = some x') (hy : opdOf y = some y') (hv : binV op (ev (get σ.env) x') (ev (get σ.env) y') = some v) : Ans P G σ a o w v := by
  unfold binV at hv
  split at hv
  · rename_i k m k' n e1 e2
    have hg : (eqGuard op t x y (a.eval x) (a.eval y)).run P w = .ok () w := by rw [h.opd_int hx e1, h.opd_int hy e2]; exact eqGuard_int
    have main : ∀ {c : Value}, (Go.binOp op t (.int k m) (.int k' n)).run P w = .ok c w ∧ Rel w (At G σ.tips σ.lk w) G.bxB v c ∧ v.far → Ans P G σ a o w v := fun ⟨q1, q2, q3⟩ =>
      ⟨_, yields_bin ho hg (by rw [h.opd_int hx e1, h.opd_int hy e2]; exact q1), VR.of_rel q3 q2⟩
    split at hv
    · obtain ⟨c, hc⟩ := run_shiftOp (P := P) (w := w) (t := t) (k' := k') (A := At G σ.tips σ.lk w) (B := G.bxB) (.inl rfl) hv
      exact main hc
    · obtain ⟨c, hc⟩ := run_shiftOp (P := P) (w := w) (t := t) (k' := k') (A := At G σ.tips σ.lk w) (B := G.bxB) (.inr rfl) hv
      exact main hc
    · split at hv
      · rename_i hk
        subst hk
        obtain ⟨c, hc⟩ := run_intOp (P := P) (w := w) (t := t) (A := At G σ.tips σ.lk w) (B := G.bxB) hv
        exact main hc
      · cases hv
  · rename_i s u e1 e2
    obtain ⟨p, h1, rfl⟩ := h.opd_str hx e1
    obtain ⟨q, h2, rfl⟩ := h.opd_str hy e2
    obtain ⟨c, q1, q2, q3⟩ := run_strOp (P := P) (w := w) (t := t) (A := At G σ.tips σ.lk w) (B := G.bxB) hv
    exact ⟨c, yields_bin ho (by rw [h1, h2]; exact eqGuard_str) (by rw [h1, h2]; exact q1), VR.of_rel q3 q2⟩
  · cases hv
end
end Go.VM
