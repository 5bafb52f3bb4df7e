/- What makes or writes something. -/
import Derived.Test.YtndaipcfahfkkaaVM15
import Derived.Laws.MakeOwn
import Derived.Lib.ConvBytes
import Derived.Great.BuildSlice
namespace Go.VM
open Go.RowKit

/-- The operation runs, and what is behind it stands to the machine's next state. -/
def Does (P : Program) (D M : Nat → Prop) (G : Gh) (a : Act) (o : Oper) (w : World) (σ' : St) : Prop :=
  ∃ c w' G', ((execOp a.eval o).run P w = .ok (.value c) w' ∨ ((execOp a.eval o).run P w = .ok .skip w' ∧ c = Go.undef)) ∧
    SR (fun s => D s ∨ o.dst = some s) M G' σ' (a.put o.dst c).tmps w' ∧ Fr G w G' w'

section
variable {P : Program} {D M : Nat → Prop} {G : Gh} {σ : St} {a : Act} {w : World} {o : Oper} {t0 : Nat → Nat} {d : Nat} {hh : Hints}

theorem put_some (a : Act) {o : Oper} (hd : o.dst = some d) (c : Value) : (a.put o.dst c).tmps = a.tmps.setIfInBounds d c := by rw [hd]; rfl

theorem dst_or (hd : o.dst = some d) (s : Nat) : (D s ∨ s = d) ↔ (D s ∨ o.dst = some s) := by
  rw [hd]
  constructor
  · rintro (h | rfl)
    · exact .inl h
    · exact .inr rfl
  · rintro (h | h)
    · exact .inl h
    · cases h; exact .inr rfl

/-- An answer alone. -/
theorem does_ans {v : V} (h : SR D M G σ a.tmps w) (hd : o.dst = some d) (hs : d < a.tmps.size) (hv : Ans P G σ a o w v) : Does P D M G a o w { σ with env := set σ.env d v } := by
  obtain ⟨c, h1, h2⟩ := hv
  exact ⟨c, w, G, .inl h1, by rw [put_some a hd]; exact (h.put hs h2).mono fun s => (dst_or hd s).1, Fr.refl G w⟩

theorem does_allocR {t : TypeId} {zs : List V} (h : SR D M G σ a.tmps w) (hop : o.op = .alloc t) (hz : zerosT P t = some zs) (hd : o.dst = some d) (hs : d < a.tmps.size) (hD : ¬ D d) :
    Does P D M G a o w { σ with env := set σ.env d (.reg σ.clk 0 zs) } := by
  obtain ⟨i, z, h1, h2, h3, h4, h5⟩ := zerosT_inv hz
  obtain ⟨G', k1, k2⟩ := h.new_rg (ty := t) hs hD (ofCells_rel h5)
  refine ⟨_, _, G', .inl ?_, by rw [put_some a hd]; exact k1.mono fun s => (dst_or hd s).1, k2⟩
  unfold execOp
  simp [hop, Instr.alloc, zeroValue, typeInfo, h1, h2, newVar, newRow]

theorem does_boxR {t : TypeId} {x : Operand} {y : Opd} {sz : Nat} (h : SR D M G σ a.tmps w) (hop : o.op = .box t x) (hy : opdOf x = some y) (hf : fits (ev (get σ.env) y) sz 0 sz = true) (hd : o.dst = some d) (hs : d < a.tmps.size) (hD : ¬ D d) :
    Does P D M G a o w { σ with env := set σ.env d (.reg σ.clk 0 (ev (get σ.env) y).cells) } := by
  obtain ⟨h1, h2, h3⟩ := fits_inv hf
  have h4 := h.opd_ok hy h1
  obtain ⟨k1, k2⟩ := V.ok_known h1
  obtain ⟨G', k3, k4⟩ := h.new_rg (ty := t) hs hD (h4.cells k1 k2)
  refine ⟨_, _, G', .inl ?_, by rw [put_some a hd]; exact k3.mono fun s => (dst_or hd s).1, k4⟩
  unfold execOp
  simp [hop, Instr.box, newVar, newRow]

theorem updL_true {lk : Nat → Bool} {ns : List Nat} {m : Nat} : updL lk true ns m = true ↔ m ∈ ns ∨ lk m = true := by
  induction ns with
  | nil => simp [updL]
  | cons n r ih =>
    simp only [updL, upd]
    split
    · rename_i h; simp [h]
    · rename_i h; rw [ih]; simp [h]

theorem bareL_rel {T : Nat → Nat} {lk : Nat → Bool} {B : List Nat} {vs : List V} {cs : List Value} (h : RelL w (At G T lk w) B vs cs) (hlk : ∀ nm ∈ namesL vs, lk nm = true) (hk : vs.all V.ok1 = true) :
    RelL w (At G T lk w) B (vs.map V.bare) cs ∧ namesL (vs.map V.bare) = [] ∧ (vs.map V.bare).all V.ok1 = true := by
  induction vs generalizing cs with
  | nil => cases h; exact ⟨.nil, rfl, rfl⟩
  | cons v r ih =>
    cases h with
    | cons _ c _ cs h1 h2 =>
      simp only [List.all_cons, Bool.and_eq_true] at hk
      obtain ⟨k1, k2, k3⟩ := ih h2 (fun nm hn => hlk nm (by simp [namesL, hn])) hk.2
      obtain ⟨b1, b2⟩ := V.bare_names1 hk.1
      refine ⟨.cons _ _ _ _ (h1.bare (fun nm hn => hlk nm (by simp [namesL, hn])) hk.1) k1, ?_, ?_⟩
      · simp [namesL, b1, k2]
      · simp only [List.map_cons, List.all_cons, b2, Bool.true_and]; exact k3

theorem V.cells_ok {v : V} (hk : v.ok = true) : v.cells.all V.ok1 = true := by
  cases v with
  | agg cs => exact hk
  | _ => simpa [V.cells, V.ok] using hk
theorem V.cells_names {v : V} (hk : v.ok = true) : namesL v.cells = v.names := by
  cases v with
  | agg cs => rfl
  | _ => simp [V.cells, namesL]
theorem V.bare_cells {v : V} (hk : v.ok = true) : v.bare.cells = v.cells.map V.bare := by
  cases v with
  | agg cs =>
    have : ∀ cs : List V, cs.all V.ok1 = true → cs.map (V.mapLab1 fun _ => Lab.none) = cs.map V.bare := fun cs => by
      intro h
      refine List.map_congr_left fun u hu => ?_
      rw [List.all_eq_true] at h
      have := h u hu
      cases u <;> first | rfl | cases this
    exact this cs hk
  | _ => rfl

theorem bare_rel {T : Nat → Nat} {lk : Nat → Bool} {B : List Nat} {v : V} {c : Value} (h : Rel w (At G T lk w) B v c) (hlk : ∀ nm ∈ v.names, lk nm = true) (hk : v.ok = true) :
    RelL w (At G T lk w) B v.bare.cells c.cells.toList ∧ namesL v.bare.cells = [] ∧ v.bare.cells.all V.ok1 = true ∧ v.bare.cells.length = v.cells.length := by
  obtain ⟨k1, k2⟩ := V.ok_known hk
  obtain ⟨h1, h2, h3⟩ := bareL_rel (h.cells k1 k2) (fun nm hn => hlk nm (by rw [← V.cells_names hk]; exact hn)) (V.cells_ok hk)
  rw [V.bare_cells hk]
  exact ⟨h1, h2, h3, by simp⟩

theorem ofCells_names {cs : List Value} {vs : List V} (h : ofCells cs = some vs) : namesL vs = [] ∧ vs.all V.ok1 = true := by
  induction cs generalizing vs with
  | nil => cases h; exact ⟨rfl, rfl⟩
  | cons c r ih =>
    simp only [ofCells] at h
    split at h
    · rename_i v vs' h1 h2
      cases h
      obtain ⟨k1, k2, k3, _⟩ := ofCell_ok h1
      exact ⟨by simp [namesL, k3, (ih h2).1], by simp only [List.all_cons, k1, Bool.true_and]; exact (ih h2).2⟩
    · cases h

theorem does_allocB {t : TypeId} {zs : List V} (h : SR D M G σ a.tmps w) (hop : o.op = .alloc t) (hz : zerosT P t = some zs) (hd : o.dst = some d) (hs : d < a.tmps.size) :
    Does P D M G a o w { σ with env := set σ.env d (.bp σ.bx.length 0), bx := σ.bx ++ [zs] } := by
  obtain ⟨i, z, h1, h2, h3, h4, h5⟩ := zerosT_inv hz
  obtain ⟨G', k1, k2, k3⟩ := h.new_bx (ty := t) (ofCells_rel h5) (ofCells_names h5).1
  refine ⟨_, _, G', .inl ?_, by rw [put_some a hd]; exact (k1.put (v := .bp σ.bx.length 0) (c := .pointer (some ⟨w.heap.size, 0, none⟩)) hs (Rel.bp _ _ _ k3)).mono fun s => (dst_or hd s).1, k2⟩
  unfold execOp
  simp [hop, Instr.alloc, zeroValue, typeInfo, h1, h2, newVar, newRow]

theorem does_boxB {t : TypeId} {x : Operand} {y : Opd} {sz : Nat} (h : SR D M G σ a.tmps w) (hop : o.op = .box t x) (hy : opdOf x = some y) (hf : fits (ev (get σ.env) y) sz 0 sz = true) (hd : o.dst = some d) (hs : d < a.tmps.size) :
    Does P D M G a o w { σ with env := set σ.env d (.bp σ.bx.length 0), bx := σ.bx ++ [(ev (get σ.env) y).bare.cells], lk := updL σ.lk true (ev (get σ.env) y).names } := by
  obtain ⟨h1, h2, h3⟩ := fits_inv hf
  have hl := h.leak (lk' := updL σ.lk true (ev (get σ.env) y).names) fun m hm => updL_true.2 (.inr hm)
  have h4 := hl.opd_ok hy h1
  obtain ⟨k1, k2, _, _⟩ := bare_rel h4 (fun nm hn => updL_true.2 (.inl hn)) h1
  obtain ⟨G', k3, k4, k5⟩ := hl.new_bx (ty := t) k1 k2
  refine ⟨_, _, G', .inl ?_, by rw [put_some a hd]; exact (k3.put (v := .bp σ.bx.length 0) (c := .pointer (some ⟨w.heap.size, 0, none⟩)) hs (Rel.bp _ _ _ k5)).mono fun s => (dst_or hd s).1, k4⟩
  unfold execOp
  simp [hop, Instr.box, newVar, newRow]

/-- A store into a block of cells. -/
theorem run_store_at {t : TypeId} {x y : Operand} {sz g off : Nat} {e : TypeId} {cur : Array Value} (hop : o.op = .store t x y) (hs : sizeT P t = some sz) (hx : a.eval x = .pointer (some ⟨g, off, none⟩)) (hg : w.heap[g]? = some (.cells cur e (0, 0)))
    (hl : (a.eval y).cells.size = sz) (hfit : off + sz ≤ cur.size) (h1 : ∀ u ∈ (a.eval y).cells.toList, u.oneCell' = true) :
    (execOp a.eval o).run P w = .ok .skip (w.setRow g (cur.toList.take off ++ (a.eval y).cells.toList ++ cur.toList.drop (off + (a.eval y).cells.toList.length)).toArray) := by
  have hst := run_storeCells_at P g off e (a.eval y).cells.toList 0 cur w hg (by simpa [hl] using hfit) h1
  simp only [Nat.add_zero] at hst
  unfold execOp
  simp [hop, Instr.storeAt, hx, Instr.sureAddr, storeVar, sizeT_some hs, hl, hst]

theorem does_store_r {t : TypeId} {x y : Operand} {x' y' : Opd} {sz s c n off : Nat} {cs : List V} (h : SR D M G σ a.tmps w) (hop : o.op = .store t x y) (hs : sizeT P t = some sz) (hx : opdOf x = some x') (hy : opdOf y = some y')
    (he : ev (get σ.env) x' = .rp s c off) (hr : get σ.env s = .reg c n cs) (hf : fits (ev (get σ.env) y') sz off cs.length = true) (hd : o.dst = none) :
    Does P D M G a o w { σ with env := set σ.env s (.reg c (n + 1) (splice cs off (ev (get σ.env) y').cells)) } := by
  obtain ⟨h1, h2, h3⟩ := fits_inv hf
  have hxr := h.opd hx
  rw [he] at hxr
  have hsl := h.slots s
  rw [hr] at hsl
  obtain ⟨q1, q2, q3, cur, e, q4, q5⟩ := hsl
  have h4 := h.opd_ok hy h1
  obtain ⟨k1, k2⟩ := V.ok_known h1
  have h5 := h4.cells k1 k2
  have hlen : (a.eval y).cells.size = sz := by rw [← h2, h5.length]; simp
  have hcur : cs.length = cur.size := by rw [q5.length]; simp
  have hrun := run_store_at (P := P) (w := w) hop hs hxr.1 q4 hlen (by omega) (h5.one (V.cells_ok h1))
  obtain ⟨G', k3, k4⟩ := h.store_r (cs' := splice cs off (ev (get σ.env) y').cells) (news := (cur.toList.take off ++ (a.eval y).cells.toList ++ cur.toList.drop (off + (a.eval y).cells.toList.length)).toArray) hr q4 (by simpa using q5.splice h5 off)
  refine ⟨Go.undef, _, G', .inr ⟨hrun, rfl⟩, ?_, k4⟩
  rw [hd]
  exact k3.mono fun s hs => .inl hs

theorem does_store_b {t : TypeId} {x y : Operand} {x' y' : Opd} {sz b off : Nat} {cs : List V} (h : SR D M G σ a.tmps w) (hop : o.op = .store t x y) (hs : sizeT P t = some sz) (hx : opdOf x = some x') (hy : opdOf y = some y')
    (he : ev (get σ.env) x' = .bp b off) (hr : σ.bx[b]? = some cs) (hf : fits (ev (get σ.env) y') sz off cs.length = true) (hd : o.dst = none) :
    Does P D M G a o w { σ with bx := σ.bx.set b (splice cs off (ev (get σ.env) y').bare.cells), lk := updL σ.lk true (ev (get σ.env) y').names } := by
  obtain ⟨h1, h2, h3⟩ := fits_inv hf
  have hl := h.leak (lk' := updL σ.lk true (ev (get σ.env) y').names) fun m hm => updL_true.2 (.inr hm)
  have hxr := hl.opd hx
  change VR _ _ _ _ (ev (get σ.env) x') _ at hxr
  rw [he] at hxr
  obtain ⟨blk, p1, p2⟩ := Rel.bp_inv hxr
  obtain ⟨hn, b', q1, q3, cur, e, q4, q5⟩ := hl.boxes.2 b cs hr
  obtain rfl : blk = b' := by rw [p2] at q1; cases q1; rfl
  have h4 := hl.opd_ok hy h1
  obtain ⟨k1, k2, k3, k4⟩ := bare_rel h4 (fun nm hn => updL_true.2 (.inl hn)) h1
  have h5 := h4.cells (V.ok_known h1).1 (V.ok_known h1).2
  have hlen : (a.eval y).cells.size = sz := by rw [← h2]; have := h5.length; simpa using this.symm
  have hcur : cs.length = cur.size := by rw [q5.length]; simp
  have hrun := run_store_at (P := P) (w := w) hop hs p1 q4 hlen (by omega) (h5.one (V.cells_ok h1))
  have hsp : namesL (splice cs off (ev (get σ.env) y').bare.cells) = [] := by
    unfold splice
    rw [namesL_append, namesL_append, k2]
    simp [namesL_sub hn fun v hv => List.mem_of_mem_take hv, namesL_sub hn fun v hv => List.mem_of_mem_drop hv]
  obtain ⟨k5, k6⟩ := hl.store_b (cs' := splice cs off (ev (get σ.env) y').bare.cells) (news := (cur.toList.take off ++ (a.eval y).cells.toList ++ cur.toList.drop (off + (a.eval y).cells.toList.length)).toArray) hr p2 q4 (by simpa using q5.splice k1 off) hsp
  refine ⟨Go.undef, _, G, .inr ⟨hrun, rfl⟩, ?_, k6⟩
  rw [hd]
  exact k5.mono fun s hs => .inl hs

/- new rows -/
theorem nmOf_inj {d d' i i' : Nat} (hi : i < 64) (hi' : i' < 64) (h : nmOf d i = nmOf d' i') : d = d' ∧ i = i' := by unfold nmOf at h; omega

theorem row_take {w : World} {a : Addr} {xs : List Value} (h : Row w a xs) (n : Nat) : Row w a (xs.take n) := fun j u hu => by
  rw [List.getElem?_take] at hu
  split at hu
  · exact h j u hu
  · cases hu

theorem retire_no {nm : Nat} (b : Nat) : (G.retire nm).Z b ≠ .fam nm := fun h => (retire_back (by simp) h).2 rfl

section
variable {tm : Array Value}
/-- A new row, handed out at slot d. -/
theorem SR.born {w' : World} {nm k z n cap : Nat} {e : TypeId} {cur : Array Value} {cs : List V} (h : SR D M G σ tm w) (hc : Calm w w') (hb : w'.heap[w.heap.size]? = some (.cells cur e (0, 0)))
    (hno : ∀ b, G.Z b ≠ .fam nm) (hM : ∀ d', M d' → ¬ (D d' ∨ d' = d) → nmOf d' 0 ≠ nm) (hd : d < tm.size) (hk : k ≤ σ.tips nm) (hz : 0 < z) (hn : n ≤ cap) (hcap : cap ≤ maxLen) (hsz : cur.size = cap * z)
    (hcs : RelL w (At G σ.tips σ.lk w) G.bxB cs (cur.toList.take (n * z))) (hnm : namesL cs = []) :
    ∃ G', SR (fun s => D s ∨ s = d) M G' { σ with env := set σ.env d (.sl (.own nm k) z n cs) } (tm.setIfInBounds d (.slice (some ⟨w.heap.size, 0, none⟩) n cap)) w' ∧ Fr G w G' w' := by
  have hle : n * z ≤ cur.size := by rw [hsz]; exact Nat.mul_le_mul_right _ hn
  obtain ⟨G', k1, k2, ⟨q1, q2, q3, q4⟩, hg⟩ := (h.mono (D' := fun s => D s ∨ s = d) fun s hs => Or.inl hs).new_fam (len := n * z) hc hb hle hno hM
  have hlen : (cur.toList.take (n * z)).length = n * z := by rw [List.length_take]; exact Nat.min_eq_left (by simpa using hle)
  refine ⟨G', (k1.put hd (v := .sl (.own nm k) z n cs) (c := .slice (some ⟨w.heap.size, 0, none⟩) n cap) ?_).mono (fun s hs => hs.elim id .inr), k2⟩
  refine Rel.sl _ _ _ _ ⟨w.heap.size, 0, none⟩ cap (cur.toList.take (n * z)) ?_ hz hlen hn hcap (row_take (row_of_block hb) _) (hcs.keep hg.keeps) hnm
  rw [hlen]
  refine ⟨hk, .inr ⟨q1, by rw [q3]; simp⟩, fun _ => ⟨⟨q1, by rw [q2], cur, e, by rw [q2]; exact hb, hsz⟩, q3.symm, rfl⟩⟩

/-- .. where the row made there before is left to rest. -/
theorem SR.reborn {w' : World} {nm z n cap : Nat} {e : TypeId} {cur : Array Value} {cs : List V} {lk' : Nat → Bool} (h : SR D M G σ tm w) (hc : Calm w w') (hb : w'.heap[w.heap.size]? = some (.cells cur e (0, 0)))
    (hM : ∀ d', M d' → ¬ (D d' ∨ d' = d) → nmOf d' 0 ≠ nm) (hd : d < tm.size) (hz : 0 < z) (hn : n ≤ cap) (hcap : cap ≤ maxLen) (hsz : cur.size = cap * z)
    (hlk : ∀ m, m ≠ nm → σ.lk m = true → lk' m = true) (hsh : ∀ m, m < 64 → lk' m = true)
    (hcs : RelL w (At G σ.tips σ.lk w) G.bxB cs (cur.toList.take (n * z))) (hnm : namesL cs = []) :
    ∃ G', SR (fun s => D s ∨ s = d) M G' { σ with env := set σ.env d (.sl (.own nm (σ.tips nm + 1)) z n cs), tips := upd σ.tips nm (σ.tips nm + 1), lk := lk' } (tm.setIfInBounds d (.slice (some ⟨w.heap.size, 0, none⟩) n cap)) w' ∧ Fr G w G' w' := by
  have hT : ∀ m, m ≠ nm → upd σ.tips nm (σ.tips nm + 1) m = σ.tips m := fun m hm => upd_other _ _ hm
  have hT2 : σ.tips nm < upd σ.tips nm (σ.tips nm + 1) nm := by rw [upd_same]; omega
  obtain ⟨k1, k2⟩ := h.retire hT hT2 hlk hsh
  obtain ⟨G', k3, k4⟩ := k1.born (k := σ.tips nm + 1) (nm := nm) hc hb retire_no hM hd (by show _ ≤ upd σ.tips nm (σ.tips nm + 1) nm; rw [upd_same]; exact Nat.le_refl _) hz hn hcap hsz
    (RelL.keep ⟨fun l a len z n cap hh => ⟨At.retire hT hT2 hlk hh, fun _ _ => rfl⟩, fun _ _ hb => hb⟩ hcs) hnm
  exact ⟨G', k3, k2.trans h.ok k4⟩
end

theorem madeCells_toList (z : Array Value) : ∀ n, (madeCells z (n * z.size)).toList = (List.replicate n z.toList).flatten := by
  intro n
  apply List.ext_getElem?
  intro j
  unfold madeCells
  induction n generalizing j with
  | zero => simp
  | succ n ih =>
    rw [List.replicate_succ, List.flatten_cons]
    by_cases hj : j < z.size
    · rw [List.getElem?_append_left (by simpa using hj)]
      have : j < (n + 1) * z.size := Nat.lt_of_lt_of_le hj (Nat.le_mul_of_pos_left _ (by omega))
      simp [List.getElem?_map, this, Nat.mod_eq_of_lt hj, hj]
    · rw [List.getElem?_append_right (by simpa using hj), ← ih]
      have hz : 0 < z.size ∨ z.size = 0 := by omega
      rcases hz with hz | hz
      · have e1 : j % z.size = (j - z.size) % z.size := by rw [Nat.mod_eq_sub_mod (by omega)]
        by_cases hlt : j < (n + 1) * z.size
        · have h2 : j - z.size < n * z.size := by rw [Nat.succ_mul] at hlt; omega
          simp [List.getElem?_map, hlt, h2, e1]
        · have h2 : ¬ j - z.size < n * z.size := by rw [Nat.succ_mul] at hlt; omega
          simp [List.getElem?_map, hlt, h2]
      · simp [hz]

theorem take_flatten_replicate {α : Type} (z : List α) (n c : Nat) (h : n ≤ c) : ((List.replicate c z).flatten).take (n * z.length) = (List.replicate n z).flatten := by
  induction n generalizing c with
  | zero => simp
  | succ n ih =>
    cases c with
    | zero => omega
    | succ c =>
      rw [List.replicate_succ, List.replicate_succ, List.flatten_cons, List.flatten_cons, Nat.succ_mul, Nat.add_comm, List.take_length_add_append, ih c (by omega)]

theorem does_mkslice {t e : TypeId} {l c : Operand} {l' c' : Opd} {i : TypeInfo} {zs : List V} {lv cv : Int} (h : SR D M G σ a.tmps w) (hop : o.op = .makeSlice t l c) (hu : P.underlying t = some (.slice e)) (hi : P.info? e = some i) (hzz : zerosT P e = some zs)
    (hl : opdOf l = some l') (hc : opdOf c = some c') (el : ev (get σ.env) l' = .int .i64 lv) (ec : ev (get σ.env) c' = .int .i64 cv) (hg : 0 < i.size ∧ zs.length = i.size ∧ 0 ≤ lv ∧ lv ≤ cv ∧ (i.bytes : Int) * cv ≤ 281474976710656 ∧ cv ≤ 9223372036854775807)
    (hd : o.dst = some d) (hs : d < a.tmps.size) (hD : ¬ D d) (hM : M d) (ht : t0 (nmOf d 0) ≤ σ.tips (nmOf d 0)) :
    Does P D M G a o w { σ with env := set σ.env d (.sl (.own (nmOf d 0) (t0 (nmOf d 0))) i.size lv.toNat ((List.replicate lv.toNat zs).flatten)) } := by
  obtain ⟨g1, g2, g3, g4, g5, g6⟩ := hg
  obtain ⟨i', z, h1, h2, h3, h4, h5⟩ := zerosT_inv hzz
  obtain rfl : i = i' := by rw [hi] at h1; cases h1; rfl
  have hrun := run_make (P := P) w t e i z hu hi h2 .i64 .i64 lv cv g3 g4 g5 g6
  have hzl : z.cells.toList.length = i.size := by simpa using h3
  have hcells : (madeCells z.cells (cv.toNat * i.size)).toList.take (lv.toNat * i.size) = (List.replicate lv.toNat z.cells.toList).flatten := by
    rw [← h3, madeCells_toList]
    have := take_flatten_replicate z.cells.toList lv.toNat cv.toNat (by omega)
    rw [← this]; congr 2
  obtain ⟨G', k1, k2⟩ := h.born (k := t0 (nmOf d 0)) (nm := nmOf d 0) (w' := w.alloc (.cells (madeCells z.cells (cv.toNat * i.size)) e)) (cap := cv.toNat) (n := lv.toNat) (z := i.size) (cs := (List.replicate lv.toNat zs).flatten) (Calm.alloc w _) (Go.heap_alloc_new w _) (fun b => h.newD d hM hD b)
    (fun d' _ hn he => hn (.inr (nmOf_inj (by omega) (by omega) he).1)) hs ht g1 (by omega) (by simp [maxLen]; omega) (size_madeCells _ _) (by rw [hcells]; exact (ofCells_rel h5).flatten_replicate _) (namesL_nil.2 fun v hv => by
      obtain ⟨l, hl1, hl2⟩ := List.mem_flatten.1 hv
      have := List.eq_of_mem_replicate hl1
      subst this
      exact namesL_nil.1 (ofCells_names h5).1 v hl2)
  refine ⟨_, _, G', .inl ?_, by rw [put_some a hd]; exact k1.mono fun s => (dst_or hd s).1, k2⟩
  unfold execOp
  simp [hop, h.opd_int hl el, h.opd_int hc ec, hrun]

theorem run_bslice {t e : TypeId} {len z : Nat} {zs cs : List V} {parts : Array (Nat × Operand)} {qs : List (Nat × Nat × Opd)} (h : SR D M G σ a.tmps w) (hop : o.op = .buildSlice t len parts) (hu : P.underlying t = some (.slice e)) (hsz : sizeT P e = some z) (hzz : zerosT P e = some zs)
    (hsm : len * z ≤ 16777216) (hpos : 0 < len) (hq : partsA z parts.toList = some qs) (hf : fill (get σ.env) ((List.replicate len zs).flatten) qs = some cs) (hlen : cs.length = len * z) :
    ∃ ys : Array Value, RelL w (At G σ.tips σ.lk w) G.bxB cs ys.toList ∧ ys.size = len * z ∧ len ≤ maxLen ∧ (execOp a.eval o).run P w = .ok (.value (.slice (some ⟨w.heap.size, 0, none⟩) len len)) (w.alloc (.cells ys e)) := by
  obtain ⟨i, zv, h1, h2, h3, h4, h5⟩ := zerosT_inv hzz
  obtain rfl : i.size = z := by unfold sizeT at hsz; rw [h1] at hsz; cases hsz; rfl
  have hstart : RelL w (At G σ.tips σ.lk w) G.bxB ((List.replicate len zs).flatten) ((Array.range (len * i.size)).map (zv.cells[· % zv.cells.size]!)).toList := by
    have := madeCells_toList zv.cells len
    unfold madeCells at this
    rw [h3] at this
    rw [h3, this]
    exact (ofCells_rel h5).flatten_replicate _
  obtain ⟨ys, k1, k2⟩ := fill_rel h (partsA_ok hq) hf hstart
  have hys : ys.size = len * i.size := by rw [← hlen, k2.length]; simp
  have hrun := run_buildSlice (P := P) w t e len (parts.map fun (i, x) => (i, a.eval x)) ys i zv hu h1 h2 (by omega) (by intro hh; rcases Nat.mul_eq_zero.1 hh with hh | hh <;> omega) (by rw [Array.toList_map]; exact k1)
  have hle : len ≤ len * i.size := Nat.le_mul_of_pos_right _ h4
  refine ⟨ys, k2, hys, by simp [maxLen]; omega, ?_⟩
  unfold execOp
  simp only [hop, Sem.run_bind, hrun, Result.andThen_ok]
  rfl

theorem does_bslice {t e : TypeId} {len z : Nat} {zs cs : List V} {parts : Array (Nat × Operand)} {qs : List (Nat × Nat × Opd)} (h : SR D M G σ a.tmps w) (hop : o.op = .buildSlice t len parts) (hu : P.underlying t = some (.slice e)) (hsz : sizeT P e = some z) (hzz : zerosT P e = some zs)
    (hsm : len * z ≤ 16777216) (hpos : 0 < len) (hq : partsA z parts.toList = some qs) (hf : fill (get σ.env) ((List.replicate len zs).flatten) qs = some cs) (hz : 0 < z) (hlen : cs.length = len * z) (hnm : namesL cs = [])
    (hd : o.dst = some d) (hs : d < a.tmps.size) (hD : ¬ D d) (hM : M d) (ht : t0 (nmOf d 0) ≤ σ.tips (nmOf d 0)) :
    Does P D M G a o w { σ with env := set σ.env d (.sl (.own (nmOf d 0) (t0 (nmOf d 0))) z len cs) } := by
  obtain ⟨ys, k2, hys, hmax, hrun⟩ := run_bslice h hop hu hsz hzz hsm hpos hq hf hlen
  obtain ⟨G', k3, k4⟩ := h.born (k := t0 (nmOf d 0)) (nm := nmOf d 0) (w' := w.alloc (.cells ys e)) (cap := len) (n := len) (z := z) (cs := cs) (Calm.alloc w _) (Go.heap_alloc_new w _) (fun b => h.newD d hM hD b)
    (fun d' _ hn he => hn (.inr (nmOf_inj (by omega) (by omega) he).1)) hs ht hz (Nat.le_refl _) hmax hys (by rw [List.take_of_length_le (by simp [hys])]; exact k2) hnm
  exact ⟨_, _, G', .inl hrun, by rw [put_some a hd]; exact k3.mono fun s => (dst_or hd s).1, k4⟩

theorem does_bslice_lky {t e : TypeId} {len z : Nat} {zs cs : List V} {parts : Array (Nat × Operand)} {qs : List (Nat × Nat × Opd)} (h : SR D M G σ a.tmps w) (hop : o.op = .buildSlice t len parts) (hu : P.underlying t = some (.slice e)) (hsz : sizeT P e = some z) (hzz : zerosT P e = some zs)
    (hsm : len * z ≤ 16777216) (hpos : 0 < len) (hq : partsA z parts.toList = some qs) (hf : fill (get σ.env) ((List.replicate len zs).flatten) qs = some cs) (hz : 0 < z) (hlen : cs.length = len * z) (hk : cs.all V.ok1 = true)
    (hd : o.dst = some d) (hs : d < a.tmps.size) (hD : ¬ D d) (hM : M d) (ht : t0 (nmOf d 0) ≤ σ.tips (nmOf d 0)) :
    Does P D M G a o w { σ with env := set σ.env d (.sl (.own (nmOf d 0) (t0 (nmOf d 0))) z len (cs.map V.bare)), lk := updL σ.lk true (namesL cs) } := by
  have hl := h.leak (lk' := updL σ.lk true (namesL cs)) fun m hm => updL_true.2 (.inr hm)
  obtain ⟨ys, k2, hys, hmax, hrun⟩ := run_bslice hl hop hu hsz hzz hsm hpos hq hf hlen
  obtain ⟨b1, b2, b3⟩ := bareL_rel k2 (fun nm hn => updL_true.2 (.inl hn)) hk
  obtain ⟨G', k3, k4⟩ := hl.born (k := t0 (nmOf d 0)) (nm := nmOf d 0) (w' := w.alloc (.cells ys e)) (cap := len) (n := len) (z := z) (cs := cs.map V.bare) (Calm.alloc w _) (Go.heap_alloc_new w _) (fun b => h.newD d hM hD b)
    (fun d' _ hn he => hn (.inr (nmOf_inj (by omega) (by omega) he).1)) hs ht hz (Nat.le_refl _) hmax hys (by rw [List.take_of_length_le (by simp [hys])]; exact b1) b2
  exact ⟨_, _, G', .inl hrun, by rw [put_some a hd]; exact k3.mono fun s => (dst_or hd s).1, k4⟩

theorem bytesV_rel {A : Pl} {B : List Nat} (l : List UInt8) : RelL w A B (bytesV l) (l.map fun c => Value.int .u8 (c.toNat : Int)) := by
  unfold bytesV
  induction l with
  | nil => exact .nil
  | cons c r ih => exact .cons _ _ _ _ (.int _ _) ih
theorem bytesV_names (l : List UInt8) : namesL (bytesV l) = [] := namesL_nil.2 fun v hv => by
  obtain ⟨c, _, rfl⟩ := List.mem_map.1 hv
  rfl

theorem does_toBytes {src dst e : TypeId} {x : Operand} {x' : Opd} {s : List UInt8} {u : TypeDesc} (h : SR D M G σ a.tmps w) (hop : o.op = .convert src dst x) (hx : opdOf x = some x') (hsr : P.underlying src = some u) (hde : P.underlying dst = some (.slice e)) (he : P.underlying e = some (.int .u8))
    (hv : ev (get σ.env) x' = .str s) (hmax : s.length ≤ maxLen) (hd : o.dst = some d) (hs : d < a.tmps.size) :
    Does P D M G a o w { σ with env := set σ.env d (.sl .none 1 s.length (bytesV s)) } := by
  obtain ⟨b, h1, rfl⟩ := h.opd_str hx hv
  have hcalm : Calm w (Lib.bytesWorld w e b) := ⟨rfl, rfl, rfl, by rw [Lib.bytesWorld_size]; omega, fun j hj => Lib.bytesWorld_at_old w e b j hj⟩
  obtain ⟨k1, k2⟩ := h.new_st hcalm (by rw [Lib.bytesWorld_size]; omega) b.data.toList.length
  have hlen : b.data.toList.length = b.size := by simp
  have hrel : RelL (Lib.bytesWorld w e b) (At (G.at w.heap.size (.st b.data.toList.length)) σ.tips σ.lk (Lib.bytesWorld w e b)) (G.at w.heap.size (.st b.data.toList.length)).bxB (bytesV b.data.toList) (b.data.toList.map fun c => Value.int .u8 (c.toNat : Int)) := by
    exact bytesV_rel _
  have hvr : Rel (Lib.bytesWorld w e b) (At (G.at w.heap.size (.st b.data.toList.length)) σ.tips σ.lk (Lib.bytesWorld w e b)) (G.at w.heap.size (.st b.data.toList.length)).bxB (.sl .none 1 b.data.toList.length (bytesV b.data.toList)) (.slice (some ⟨w.heap.size, 0, none⟩) b.size (grownCap w b.size 0 e)) := by
    rw [← hlen]
    refine Rel.sl _ _ _ _ ⟨w.heap.size, 0, none⟩ (grownCap w b.data.toList.length 0 e) (b.data.toList.map fun c => Value.int .u8 (c.toNat : Int)) (.inr (.inl ⟨b.data.toList.length, by simp [Gh.at], by simp⟩)) (by omega) (by simp) (grownCap_ge _ _ _ _) (grownCap_le_maxLen _ _ _ _ hmax) (fun j u hu => ?_) hrel (namesL_nil.2 fun v hv => ?_)
    · rw [List.getElem?_map] at hu
      cases hg : b.data.toList[j]? with
      | none => rw [hg] at hu; cases hu
      | some c =>
        rw [hg] at hu; cases hu
        have hj : j < b.size := by have := (List.getElem?_eq_some_iff.1 hg).1; simpa using this
        rw [addr_add, Nat.zero_add, Lib.bytesWorld_cell w e b j hj]
        simp [List.getD_eq_getElem?_getD, hg]
    · obtain ⟨c, _, rfl⟩ := List.mem_map.1 hv
      rfl
  refine ⟨_, _, _, .inl ?_, by rw [put_some a hd]; exact (k1.put (v := .sl .none 1 b.data.toList.length (bytesV b.data.toList)) hs hvr).mono fun s => (dst_or hd s).1, k2⟩
  unfold execOp
  simp [hop, h1, Lib.run_convert_string_bytes w src dst e b hsr hde he]

theorem splice_take {ys cur : List Value} {off n : Nat} (h : off + ys.length ≤ n) (hn : n ≤ cur.length) :
    (cur.take off ++ ys ++ cur.drop (off + ys.length)).take n = (cur.take n).take off ++ ys ++ (cur.take n).drop (off + ys.length) := by
  have e1 : (cur.take n).take off = cur.take off := by rw [List.take_take]; congr 1; omega
  have e3 : (cur.take off ++ ys).length = off + ys.length := by simp only [List.length_append, List.length_take]; omega
  rw [e1, List.take_append, List.take_of_length_le (by omega), List.drop_take, e3]

theorem splice_row {xs ys : List Value} {off : Nat} (h : off + ys.length ≤ xs.length) (cur : List Value) (hc : cur.take xs.length = xs) :
    (cur.take off ++ ys ++ cur.drop (off + ys.length)).take xs.length = xs.take off ++ ys ++ xs.drop (off + ys.length) := by
  have hl : xs.length ≤ cur.length := by rw [← hc, List.length_take]; exact Nat.min_le_right _ _
  rw [splice_take h hl, hc]

/-- A row as a block has it. -/
theorem row_block {w : World} {g : Nat} {xs : List Value} {cur : Array Value} {e : TypeId} {fr : Nat × Nat} (h : Row w ⟨g, 0, none⟩ xs) (hc : w.heap[g]? = some (.cells cur e fr)) (hl : xs.length ≤ cur.size) : cur.toList.take xs.length = xs := by
  apply List.ext_getElem?
  intro j
  rw [List.getElem?_take]
  split
  · rename_i hj
    have h1 := h j xs[j] (List.getElem?_eq_getElem hj)
    rw [addr_add, Nat.zero_add, cell_of_row w g j cur e fr hc] at h1
    rw [Array.getElem?_toList, h1, List.getElem?_eq_getElem hj]
  · rename_i hj
    rw [List.getElem?_eq_none (by omega)]

theorem does_store_e {t : TypeId} {x y : Operand} {x' y' : Opd} {sz nm off : Nat} {cs : List V} (h : SR D M G σ a.tmps w) (hop : o.op = .store t x y) (hs : sizeT P t = some sz) (hx : opdOf x = some x') (hy : opdOf y = some y')
    (he : ev (get σ.env) x' = .ep (.own nm (σ.tips nm)) cs off) (hlk : σ.lk nm = false) (hnm : nm ∉ (ev (get σ.env) y').names) (hf : fits (ev (get σ.env) y') sz off cs.length = true) (hd : o.dst = none) :
    Does P D M G a o w { σ with env := hitEnv nm (σ.tips nm) (splice cs off (ev (get σ.env) y').bare.cells) σ.env, lk := updL σ.lk true (ev (get σ.env) y').names } := by
  obtain ⟨h1, h2, h3⟩ := fits_inv hf
  have hxr := h.opd hx
  rw [he] at hxr
  obtain ⟨b, z, n, cap, xs, p1, p2, p3, p4, p5⟩ := Rel.ep_inv hxr
  obtain ⟨_, hrd, htip⟩ := p2
  obtain ⟨⟨t1, t2, cur, e, t3, t4⟩, t5, t6⟩ := htip rfl
  subst t2
  have hzf : G.Z (G.famB nm) = .fam nm := t1
  obtain ⟨cur', e', c1, c2⟩ := h.ok.famC _ _ hzf
  obtain rfl : cur = cur' := by rw [t3] at c1; cases c1; rfl
  have hxc : xs.length ≤ cur.size := by rw [t5]; exact c2
  have hpre := row_block p3 t3 hxc
  have h4 := h.opd_ok hy h1
  have h5 := h4.cells (V.ok_known h1).1 (V.ok_known h1).2
  have hlen : (a.eval y).cells.size = sz := by rw [← h2]; have := h5.length; simpa using this.symm
  have hcl : cs.length = xs.length := p4.length
  have hptr : a.eval x = .pointer (some ⟨G.famB nm, off, none⟩) := by rw [p1, addr_add, Nat.zero_add]
  have hrun := run_store_at (P := P) (w := w) hop hs hptr t3 hlen (by omega) (h5.one (V.cells_ok h1))
  generalize hw' : w.setRow (G.famB nm) (cur.toList.take off ++ (a.eval y).cells.toList ++ cur.toList.drop (off + (a.eval y).cells.toList.length)).toArray = w' at hrun
  have hnew : w'.heap[G.famB nm]? = some (.cells (cur.toList.take off ++ (a.eval y).cells.toList ++ cur.toList.drop (off + (a.eval y).cells.toList.length)).toArray e (0, 0)) := by rw [← hw']; exact setRow_heap w _ cur _ e (0, 0) t3
  have hsz : (cur.toList.take off ++ (a.eval y).cells.toList ++ cur.toList.drop (off + (a.eval y).cells.toList.length)).toArray.size = cur.size := by
    simp only [List.size_toArray, List.length_append, List.length_take, List.length_drop, Array.length_toList]
    omega
  have honly : Only (G.famB nm) w w' := by rw [← hw']; exact Only.setRow w _ _
  have hlk' : ∀ m, σ.lk m = true → updL σ.lk true (ev (get σ.env) y').names m = true := fun m hm => updL_true.2 (.inr hm)
  have hleak := h.leak (lk' := updL σ.lk true (ev (get σ.env) y').names) hlk'
  have hl2 : updL σ.lk true (ev (get σ.env) y').names nm = false := by
    cases hh : updL σ.lk true (ev (get σ.env) y').names nm with
    | false => rfl
    | true => rcases updL_true.1 hh with hh | hh
              · exact absurd hh hnm
              · rw [hlk] at hh; cases hh
  have h4' := hleak.opd_ok hy h1
  obtain ⟨b1, b2, b3, b4⟩ := bare_rel h4' (fun m hn => updL_true.2 (.inl hn)) h1
  have hcs : RelL w (At G σ.tips (updL σ.lk true (ev (get σ.env) y').names) w) G.bxB cs xs := RelL.keep (goes_leak (e := get σ.env) hlk').keeps p4
  have hsn : namesL (splice cs off (ev (get σ.env) y').bare.cells) = [] := by
    unfold splice
    rw [namesL_append, namesL_append, b2]
    simp [namesL_sub p5 fun v hv => List.mem_of_mem_take hv, namesL_sub p5 fun v hv => List.mem_of_mem_drop hv]
  have hkn := keepsN_only (n := G.ext nm) (T' := σ.tips) (lk' := updL σ.lk true (ev (get σ.env) y').names) hleak hl2 (fun _ hm => hm) honly hzf (fun _ _ => rfl)
  have hrel := (hcs.splice b1 off).keepN hkn (by rw [hsn]; simp)
  have hxl : (xs.take off ++ (a.eval y).cells.toList ++ xs.drop (off + (a.eval y).cells.toList.length)).length = xs.length := by
    simp only [List.length_append, List.length_take, List.length_drop, Array.length_toList]; omega
  have hrow : Row w' ⟨G.famB nm, 0, none⟩ (xs.take off ++ (a.eval y).cells.toList ++ xs.drop (off + (a.eval y).cells.toList.length)) := by
    have := row_take (row_of_block hnew) xs.length
    rw [splice_row (by simp only [Array.length_toList]; omega) cur.toList hpre] at this
    exact this
  have hext : upd G.ext nm (G.ext nm) nm = G.ext nm := upd_same _ _ _
  obtain ⟨k1, k2, _⟩ := hleak.rewrite (k := σ.tips nm) (n := G.ext nm) (cs' := splice cs off (ev (get σ.env) y').bare.cells) (T' := σ.tips) (lk' := updL σ.lk true (ev (get σ.env) y').names) hl2 (fun _ hm => hm) honly hzf hnew (by rw [hsz]; exact c2) (fun _ _ => rfl)
    ⟨hsn, fun a' len' z' n' cap' hA => by
      obtain ⟨q1, q2, q3⟩ := hA
      obtain ⟨⟨r1, r2, r3⟩, r4, r5⟩ := q3 rfl
      obtain ⟨cur2, e2, r6, r7⟩ := r3
      obtain rfl : cur = cur2 := by rw [t3] at r6; cases r6; rfl
      subst r2
      refine ⟨⟨q1, .inr ⟨r1, ?_⟩, fun _ => ⟨⟨r1, rfl, _, _, hnew, by rw [hsz]; exact r7⟩, ?_, r5⟩⟩, _, ?_, hrow, hrel⟩
      · show 0 + len' ≤ upd G.ext nm (G.ext nm) nm
        rw [hext]; omega
      · show len' = upd G.ext nm (G.ext nm) nm
        rw [hext]; exact r4
      · rw [hxl, t5, r4]⟩
  refine ⟨Go.undef, w', _, .inr ⟨hrun, rfl⟩, ?_, k2⟩
  rw [hd]
  exact k1.mono fun s hs => .inl hs
end
end Go.VM
