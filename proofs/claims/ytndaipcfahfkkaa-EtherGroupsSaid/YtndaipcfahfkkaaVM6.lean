/- The operations that only answer and make nothing, each held against the model's. -/
import Derived.Test.YtndaipcfahfkkaaVM5
namespace Go.VM
open Go.RowKit

theorem addr_add (b o n : Nat) : (⟨b, o, none⟩ : Addr).add n = ⟨b, o + n, none⟩ := by
  unfold Addr.add; split <;> simp_all

section
variable {P : Program} {D M : Nat → Prop} {G : Gh} {σ : St} {a : Act} {w : World} {o : Oper} {t0 : Nat → Nat} {clk d : Nat} {bx : BX}

/-- The operation's answer stands to the machine's. -/
def Ans (P : Program) (G : Gh) (σ : St) (a : Act) (o : Oper) (w : World) (v : V) : Prop :=
  ∃ c, Yields P a o w c ∧ VR G (At G σ.tips σ.lk w) w (get σ.env) v c

theorem SR.opd_int (h : SR D M G σ a.tmps w) {x : Operand} {y : Opd} (hy : opdOf x = some y) {k : IntKind} {n : Int} (hv : ev (get σ.env) y = .int k n) : a.eval x = .int k n := by
  have := h.opd hy; rw [hv] at this; exact Rel.int_inv this
theorem SR.opd_bool (h : SR D M G σ a.tmps w) {x : Operand} {y : Opd} (hy : opdOf x = some y) {b : Bool} (hv : ev (get σ.env) y = .bool b) : a.eval x = .bool b := by
  have := h.opd hy; rw [hv] at this; exact Rel.bool_inv this
theorem SR.opd_str (h : SR D M G σ a.tmps w) {x : Operand} {y : Opd} (hy : opdOf x = some y) {s : List UInt8} (hv : ev (get σ.env) y = .str s) : ∃ t : ByteArray, a.eval x = .string t ∧ t.data.toList = s := by
  have := h.opd hy; rw [hv] at this; exact Rel.str_inv this

theorem ans_mv (h : SR D M G σ a.tmps w) {x : Operand} {y : Opd} (ho : o.op = .move x ∨ o.op = .assign x) (hy : opdOf x = some y) : Ans P G σ a o w (ev (get σ.env) y) :=
  ⟨_, run_mv ho, h.opd hy⟩

theorem ans_pick (h : SR D M G σ a.tmps w) {c x y : Operand} {c' x' y' : Opd} {t : Bool} (ho : o.op = .pick c x y) (hc : opdOf c = some c') (hx : opdOf x = some x') (hy : opdOf y = some y') (ht : ev (get σ.env) c' = .bool t) :
    Ans P G σ a o w (if t then ev (get σ.env) x' else ev (get σ.env) y') := by
  refine ⟨_, run_pick ho (h.opd_bool hc ht), ?_⟩
  cases t
  · exact h.opd hy
  · exact h.opd hx

theorem yields_load {t : TypeId} {x : Operand} {b : Addr} {c : Value} (ho : o.op = .load t x) (hx : a.eval x = .pointer (some b)) (hr : (loadVar t b).run P w = .ok c w) : Yields P a o w c := by
  unfold Yields execOp
  simp [ho, Instr.loadAt, hx, Instr.sureAddr, hr]

/-- A row and a part of it that is read. -/
theorem ans_load_row (h : SR D M G σ a.tmps w) {t : TypeId} {x : Operand} {g : Bool} {off sz : Nat} {b : Addr} {cs : List V} {xs : List Value} {v : V} (ho : o.op = .load t x) (hg : aggT P t = some g) (hs : sizeT P t = some sz)
    (hx : a.eval x = .pointer (some (b.add off))) (hr : Row w b xs) (hl : RelL w (At G σ.tips σ.lk w) G.bxB cs xs) (hv : part g off sz cs = some v) : Ans P G σ a o w v := by
  obtain ⟨h1, h2, h3, h4⟩ := part_rel hv hl
  exact ⟨_, yields_load ho hx (run_loadVar_row' hg hs h2 h3 hr), VR.of_rel h4 h1⟩

theorem ans_load_r (h : SR D M G σ a.tmps w) {t : TypeId} {x : Operand} {y : Opd} {g : Bool} {sz s c n off : Nat} {cs : List V} {v : V} (ho : o.op = .load t x) (hy : opdOf x = some y) (hg : aggT P t = some g) (hs : sizeT P t = some sz)
    (he : ev (get σ.env) y = .rp s c off) (hc : get σ.env s = .reg c n cs) (hv : part g off sz cs = some v) : Ans P G σ a o w v := by
  have h1 := h.opd hy
  rw [he] at h1
  have h2 := h.slots s
  rw [hc] at h2
  obtain ⟨_, _, _, xs, e, h3, h4⟩ := h2
  exact ans_load_row h (b := ⟨G.rgB s c, 0, none⟩) (off := off) ho hg hs (by rw [h1.1, ← add_zero_off]) (row_of_block h3) h4 hv

theorem ans_load_b (h : SR D M G σ a.tmps w) {t : TypeId} {x : Operand} {y : Opd} {g : Bool} {sz b off : Nat} {cs : List V} {v : V} (ho : o.op = .load t x) (hy : opdOf x = some y) (hg : aggT P t = some g) (hs : sizeT P t = some sz)
    (he : ev (get σ.env) y = .bp b off) (hc : σ.bx[b]? = some cs) (hv : part g off sz cs = some v) : Ans P G σ a o w v := by
  have h1 := h.opd hy
  rw [he] at h1
  obtain ⟨blk, h5, h6⟩ := Rel.bp_inv h1
  obtain ⟨_, b', h7, _, xs, e, h3, h4⟩ := h.boxes.2 b cs hc
  obtain rfl : blk = b' := by rw [h6] at h7; cases h7; rfl
  exact ans_load_row h (b := ⟨blk, 0, none⟩) (off := off) ho hg hs (by rw [h5, ← add_zero_off]) (row_of_block h3) h4 hv

theorem live_reg {e : Nat → V} {s c v : Nat} (h : (Lab.rv s c v).live e = true) : ∃ cs, e s = .reg c v cs := by
  simp only [Lab.live] at h
  split at h
  · rename_i c' v' cs hc
    simp only [Bool.and_eq_true, beq_iff_eq] at h
    obtain ⟨rfl, rfl⟩ := h
    exact ⟨cs, hc⟩
  · cases h

theorem live_of_free {e : Nat → V} {av : List Nat} {l : Lab} (h : l.free e av = true) : l.live e = true := by
  simp only [Lab.free, Bool.and_eq_true] at h; exact h.1

/-- A slice, or an element's address, that is as it was: its row. -/
theorem VR.sl_row {G : Gh} {A : Pl} {w : World} {e : Nat → V} {l : Lab} {z n : Nat} {cs : List V} {c : Value} (h : VR G A w e (.sl l z n cs) c) (hl : l.live e = true) :
    ∃ b cap xs, c = .slice (some b) n cap ∧ 0 < z ∧ xs.length = n * z ∧ n ≤ cap ∧ cap ≤ maxLen ∧ Row w b xs ∧ RelL w A G.bxB cs xs ∧ namesL cs = [] := by
  cases l with
  | rv s k v =>
    obtain ⟨b, cap, h1, h2, h3, h4, h5, _, _, hn, h8⟩ := h
    obtain ⟨cs', hc⟩ := live_reg hl
    obtain ⟨xs, h9, h10⟩ := h8 cs' hc
    exact ⟨b, cap, xs, h1, h2, by rw [← h10.length]; exact h5, h3, h4, h9, h10, hn⟩
  | _ =>
    obtain ⟨b, cap, xs, h1, _, h3, h4, h5, h6, h7, h8⟩ := Rel.sl_inv h
    exact ⟨b, cap, xs, h1, h3, h4, h5, h6, h7, h8⟩
theorem VR.ep_row {G : Gh} {A : Pl} {w : World} {e : Nat → V} {l : Lab} {cs : List V} {off : Nat} {c : Value} (h : VR G A w e (.ep l cs off) c) (hl : l.live e = true) :
    ∃ b xs, c = .pointer (some (b.add off)) ∧ Row w b xs ∧ RelL w A G.bxB cs xs ∧ namesL cs = [] := by
  cases l with
  | rv s k v =>
    obtain ⟨b, h1, _, _, hn, h8⟩ := h
    obtain ⟨cs', hc⟩ := live_reg hl
    obtain ⟨xs, h9, h10⟩ := h8 cs' hc
    exact ⟨b, xs, h1, h9, h10, hn⟩
  | _ =>
    obtain ⟨b, z, n, cap, xs, h1, _, h3, h4⟩ := Rel.ep_inv h
    exact ⟨b, xs, h1, h3, h4⟩
/-- .. whether or not it is as it was. -/
theorem VR.sl_val {G : Gh} {A : Pl} {w : World} {e : Nat → V} {l : Lab} {z n : Nat} {cs : List V} {c : Value} (h : VR G A w e (.sl l z n cs) c) :
    ∃ b cap, c = .slice (some b) n cap ∧ 0 < z ∧ n ≤ cap ∧ cap ≤ maxLen ∧ cs.length = n * z := by
  cases l with
  | rv s k v =>
    obtain ⟨b, cap, h1, h2, h3, h4, h5, _⟩ := h
    exact ⟨b, cap, h1, h2, h3, h4, h5⟩
  | _ =>
    obtain ⟨b, cap, xs, h1, _, h3, h4, h5, h6, h7, h8⟩ := Rel.sl_inv h
    exact ⟨b, cap, h1, h3, h5, h6, by rw [h8.1.length]; exact h4⟩
theorem VR.ep_val {G : Gh} {A : Pl} {w : World} {e : Nat → V} {l : Lab} {cs : List V} {off : Nat} {c : Value} (h : VR G A w e (.ep l cs off) c) : ∃ b : Addr, c = .pointer (some (b.add off)) := by
  cases l with
  | rv s k v => obtain ⟨b, h1, _⟩ := h; exact ⟨b, h1⟩
  | _ => obtain ⟨b, z, n, cap, xs, h1, _⟩ := Rel.ep_inv h; exact ⟨b, h1⟩
/-- The same row, another cell. -/
theorem VR.ep_at {G : Gh} {A : Pl} {w : World} {e : Nat → V} {l : Lab} {cs : List V} {off : Nat} {c : Value} (h : VR G A w e (.ep l cs off) c) :
    ∃ b : Addr, c = .pointer (some (b.add off)) ∧ ∀ off', VR G A w e (.ep l cs off') (.pointer (some (b.add off'))) := by
  cases l with
  | rv s k v => obtain ⟨b, h1, h2⟩ := h; exact ⟨b, h1, fun off' => ⟨b, rfl, h2⟩⟩
  | _ => obtain ⟨b, z, n, cap, xs, h1, h2, h3, h4, h5⟩ := Rel.ep_inv h; exact ⟨b, h1, fun off' => .ep _ _ _ b z n cap xs h2 h3 h4 h5⟩
theorem VR.sl_at {G : Gh} {A : Pl} {w : World} {e : Nat → V} {l : Lab} {z n : Nat} {cs : List V} {c : Value} (h : VR G A w e (.sl l z n cs) c) :
    ∃ (b : Addr) (cap : Nat), c = .slice (some b) n cap ∧ n ≤ cap ∧ ∀ off', VR G A w e (.ep l cs off') (.pointer (some (b.add off'))) := by
  cases l with
  | rv s k v => obtain ⟨b, cap, h1, _, h3, _, _, h6, h7, h8⟩ := h; exact ⟨b, cap, h1, h3, fun off' => ⟨b, rfl, h6, h7, h8⟩⟩
  | _ => obtain ⟨b, cap, xs, h1, h2, h3, h4, h5, h6, h7, h8, h9⟩ := Rel.sl_inv h; exact ⟨b, cap, h1, h5, fun off' => .ep _ _ _ b z n cap xs h2 h7 h8 h9⟩

theorem ans_load_e (h : SR D M G σ a.tmps w) {t : TypeId} {x : Operand} {y : Opd} {g : Bool} {sz off : Nat} {l : Lab} {cs : List V} {v : V} (ho : o.op = .load t x) (hy : opdOf x = some y) (hg : aggT P t = some g) (hs : sizeT P t = some sz)
    (he : ev (get σ.env) y = .ep l cs off) (hl : l.live (get σ.env) = true) (hv : part g off sz cs = some v) : Ans P G σ a o w v := by
  have h1 := h.opd hy
  rw [he] at h1
  obtain ⟨b, xs, h2, h3, h4, _⟩ := h1.ep_row hl
  exact ans_load_row h (b := b) (off := off) ho hg hs h2 h3 h4 hv

theorem ans_nilck (h : SR D M G σ a.tmps w) {x : Operand} {y : Opd} {v : V} (ho : o.op = .nilCheck x) (hy : opdOf x = some y) (hv : pureOp (get σ.env) t0 clk bx d (.nilck y) = some v) : Ans P G σ a o w v := by
  have h1 := h.opd hy
  simp only [pureOp] at hv
  split at hv
  · rename_i s c off e1
    rw [e1] at h1
    cases hv
    refine ⟨_, ?_, h1⟩
    unfold Yields execOp
    simp [ho, h1.1]
  · rename_i l cs off e1
    rw [e1] at h1
    cases hv
    obtain ⟨c, h2⟩ := h1.ep_val
    refine ⟨_, ?_, h1⟩
    unfold Yields execOp
    simp [ho, h2]
  · rename_i b off e1
    rw [e1] at h1
    cases hv
    obtain ⟨c, h2, h3⟩ := Rel.bp_inv h1
    refine ⟨_, ?_, h1⟩
    unfold Yields execOp
    simp [ho, h2]
  · rename_i f p q e1
    rw [e1] at h1
    cases hv
    obtain ⟨xs, ys, h2, _⟩ := Rel.fn_inv h1
    refine ⟨_, ?_, h1⟩
    unfold Yields execOp
    simp [ho, h2]
  · cases hv

theorem ans_convI (h : SR D M G σ a.tmps w) {src dst : TypeId} {x : Operand} {y : Opd} {k k' : IntKind} {n : Int} (ho : o.op = .convert src dst x) (hy : opdOf x = some y) {ks : IntKind} (hs : P.underlying src = some (.int ks)) (hd : P.underlying dst = some (.int k))
    (hv : ev (get σ.env) y = .int k' n) : Ans P G σ a o w (.int k (k.wrap n)) := by
  refine ⟨_, ?_, .int _ _⟩
  unfold Yields execOp
  simp [ho, h.opd_int hy hv, Go.convert, run_underlying hs, run_underlying hd, Conv.intToInt]

theorem ans_convS (h : SR D M G σ a.tmps w) {src dst : TypeId} {x : Operand} {y : Opd} {s : List UInt8} (ho : o.op = .convert src dst x) (hy : opdOf x = some y) (hs : P.underlying src = some .string) (hd : P.underlying dst = some .string)
    (hv : ev (get σ.env) y = .str s) : Ans P G σ a o w (.str s) := by
  obtain ⟨t, h1, rfl⟩ := h.opd_str hy hv
  refine ⟨.string t, ?_, .str _⟩
  unfold Yields execOp
  simp [ho, h1, Go.convert, run_underlying hs, run_underlying hd]

theorem ans_len_str (h : SR D M G σ a.tmps w) {t : TypeId} {x : Operand} {y : Opd} {s : List UInt8} (ho : o.op = .call { callee := .builtin .len, args := #[x], argTypes := #[t] }) (hy : opdOf x = some y) (hu : P.underlying t = some .string)
    (hv : ev (get σ.env) y = .str s) : Ans P G σ a o w (.int .i64 (s.length : Int)) := by
  obtain ⟨b, h1, rfl⟩ := h.opd_str hy hv
  refine ⟨_, ?_, .int _ _⟩
  unfold Yields execOp
  simp [ho, resolve, invoke, builtin, h1, Builtin.len_, run_underlying hu, goInt]

theorem ans_len_sl (h : SR D M G σ a.tmps w) {t e : TypeId} {x : Operand} {y : Opd} (ho : o.op = .call { callee := .builtin .len, args := #[x], argTypes := #[t] }) (hy : opdOf x = some y) (hu : P.underlying t = some (.slice e))
    {l : Lab} {z n : Nat} {cs : List V} (hv : ev (get σ.env) y = .sl l z n cs) : Ans P G σ a o w (.int .i64 (n : Int)) := by
  have h1 := h.opd hy
  rw [hv] at h1
  obtain ⟨b, cap, h2, _⟩ := h1.sl_val
  refine ⟨_, ?_, .int _ _⟩
  unfold Yields execOp
  simp [ho, resolve, invoke, builtin, h2, Builtin.len_, run_underlying hu, goInt]

theorem ans_len_nil (h : SR D M G σ a.tmps w) {t e : TypeId} {x : Operand} {y : Opd} (ho : o.op = .call { callee := .builtin .len, args := #[x], argTypes := #[t] }) (hy : opdOf x = some y) (hu : P.underlying t = some (.slice e))
    (hv : ev (get σ.env) y = .nils) : Ans P G σ a o w (.int .i64 0) := by
  have h1 := h.opd hy
  rw [hv] at h1
  have h2 := Rel.nils_inv h1
  refine ⟨_, ?_, .int _ _⟩
  unfold Yields execOp
  simp [ho, resolve, invoke, builtin, h2, Builtin.len_, run_underlying hu, goInt]

theorem ans_lenC {t e : TypeId} {x : Operand} {n : Nat} (ho : o.op = .call { callee := .builtin .len, args := #[x], argTypes := #[t] }) (hu : P.underlying t = some (.array n e)) : Ans P G σ a o w (.int .i64 (n : Int)) := by
  refine ⟨_, ?_, .int _ _⟩
  unfold Yields execOp
  simp [ho, resolve, invoke, builtin, Builtin.len_, run_underlying hu, goInt]

theorem ans_extract (h : SR D M G σ a.tmps w) {x : Operand} {y : Opd} {i : Nat} {vs : List V} {v : V} (ho : o.op = .extract x i) (hy : opdOf x = some y) (hv : ev (get σ.env) y = .tup vs) (hi : vs[i]? = some v) (hk : v.ok = true) : Ans P G σ a o w v := by
  have h1 := h.opd hy
  rw [hv] at h1
  obtain ⟨xs, h2, h3⟩ := Rel.tup_inv h1
  obtain ⟨c, h4, h5⟩ := h3.get hi
  refine ⟨c, ?_, VR.of_rel (V.far_of_ok hk) h5⟩
  unfold Yields execOp
  simp only [Array.getElem?_toList] at h4
  simp [ho, h2, Instr.extract, h4]

theorem ans_field (h : SR D M G σ a.tmps w) {t : TypeId} {x : Operand} {y : Opd} {f : Nat} {fs : Array Field} {g : Field} {ag : Bool} {sz : Nat} {cs : List V} {v : V} (ho : o.op = .field t x f) (hy : opdOf x = some y) (hu : P.underlying t = some (.struct fs)) (hf : fs[f]? = some g)
    (hg : aggT P g.type = some ag) (hs : sizeT P g.type = some sz) (hv : ev (get σ.env) y = .agg cs) (hp : part ag g.offset sz cs = some v) : Ans P G σ a o w v := by
  have h1 := h.opd hy
  rw [hv] at h1
  obtain ⟨xs, h2, h3⟩ := Rel.agg_inv h1
  obtain ⟨k1, k2, k3, k4⟩ := part_rel hp h3
  refine ⟨_, ?_, VR.of_rel k4 k1⟩
  unfold Yields execOp
  simp [ho, h2, Instr.field, run_underlying hu, hf, asAgg, run_part hg hs (by simpa using k2) k3]

theorem run_fieldPlace {b : Addr} {g : Field} {sz : Nat} (hs : sizeT P g.type = some sz) (h0 : 0 < sz) : (fieldPlace b g).run P w = .ok (b.add g.offset) w := by
  unfold fieldPlace
  simp only [Sem.run_bind, sizeT_some hs, Result.andThen_ok]
  rw [if_neg (by omega)]
  rfl

theorem yields_fieldA {t : TypeId} {x : Operand} {f : Nat} {fs : Array Field} {g : Field} {sz : Nat} {b : Addr} (ho : o.op = .fieldAddr t x f) (hu : P.underlying t = some (.struct fs)) (hf : fs[f]? = some g) (hs : sizeT P g.type = some sz) (h0 : 0 < sz)
    (hx : a.eval x = .pointer (some b)) : Yields P a o w (.pointer (some (b.add g.offset))) := by
  unfold Yields execOp
  simp [ho, hx, Instr.fieldAt, run_underlying hu, hf, Instr.sureAddr, run_fieldPlace hs h0]

theorem ans_fieldA (h : SR D M G σ a.tmps w) {t : TypeId} {x : Operand} {y : Opd} {f : Nat} {fs : Array Field} {g : Field} {sz : Nat} {v : V} (ho : o.op = .fieldAddr t x f) (hy : opdOf x = some y) (hu : P.underlying t = some (.struct fs)) (hf : fs[f]? = some g) (hs : sizeT P g.type = some sz) (h0 : 0 < sz)
    (hv : pureOp (get σ.env) t0 clk bx d (.fieldA g.offset y) = some v) : Ans P G σ a o w v := by
  have h1 := h.opd hy
  simp only [pureOp] at hv
  split at hv
  · rename_i s c off e1
    rw [e1] at h1
    cases hv
    refine ⟨_, yields_fieldA ho hu hf hs h0 h1.1, ?_⟩
    rw [addr_add]
    exact ⟨rfl, h1.2⟩
  · rename_i l cs off e1
    rw [e1] at h1
    cases hv
    obtain ⟨b, h2, h3⟩ := h1.ep_at
    refine ⟨_, yields_fieldA ho hu hf hs h0 h2, ?_⟩
    rw [Go.Deep.add_add]
    exact h3 _
  · rename_i b off e1
    rw [e1] at h1
    cases hv
    obtain ⟨blk, h2, h3⟩ := Rel.bp_inv h1
    refine ⟨_, yields_fieldA ho hu hf hs h0 h2, ?_⟩
    rw [addr_add]
    exact .bp _ _ _ h3
  · cases hv

theorem yields_idxS {t e : TypeId} {x i : Operand} {z : Nat} {b : Addr} {n cap : Nat} {k : IntKind} {j : Int} (ho : o.op = .indexAddr t x i) (hu : P.underlying t = some (.slice e)) (hs : sizeT P e = some z) (hx : a.eval x = .slice (some b) n cap) (hi : a.eval i = .int k j) (h0 : 0 ≤ j) (h1 : j < n) :
    Yields P a o w (.pointer (some (b.add (j.toNat * z)))) := by
  unfold Yields execOp
  simp [ho, hx, hi, Instr.indexAt, asIntOf, run_underlying hu, sizeT_some hs, h0, h1]

theorem yields_idxA {t e : TypeId} {x i : Operand} {z len : Nat} {b : Addr} {k : IntKind} {j : Int} (ho : o.op = .indexAddr t x i) (hu : P.underlying t = some (.array len e)) (hs : sizeT P e = some z) (hx : a.eval x = .pointer (some b)) (hi : a.eval i = .int k j) (h0 : 0 ≤ j) (h1 : j < len) :
    Yields P a o w (.pointer (some (b.add (j.toNat * z)))) := by
  unfold Yields execOp
  simp [ho, hx, hi, Instr.indexAt, asIntOf, run_underlying hu, sizeT_some hs, h0, h1, Instr.sureAddr]

theorem ans_idxS (h : SR D M G σ a.tmps w) {t e : TypeId} {x i : Operand} {y j : Opd} {z : Nat} {v : V} (ho : o.op = .indexAddr t x i) (hy : opdOf x = some y) (hj : opdOf i = some j) (hu : P.underlying t = some (.slice e)) (hs : sizeT P e = some z)
    (hv : pureOp (get σ.env) t0 clk bx d (.idxS z y j) = some v) : Ans P G σ a o w v := by
  have h1 := h.opd hy
  simp only [pureOp] at hv
  split at hv
  · rename_i l z' n cs k m e1 e2
    rw [e1] at h1
    split at hv
    · rename_i hb
      obtain ⟨rfl, h0, h2⟩ := hb
      cases hv
      obtain ⟨b, cap, h3, _, h4⟩ := h1.sl_at
      exact ⟨_, yields_idxS ho hu hs h3 (h.opd_int hj e2) h0 h2, h4 _⟩
    · cases hv
  · cases hv

theorem ans_idxA (h : SR D M G σ a.tmps w) {t e : TypeId} {x i : Operand} {y j : Opd} {z len : Nat} {v : V} (ho : o.op = .indexAddr t x i) (hy : opdOf x = some y) (hj : opdOf i = some j) (hu : P.underlying t = some (.array len e)) (hs : sizeT P e = some z)
    (hv : pureOp (get σ.env) t0 clk bx d (.idxA len z y j) = some v) : Ans P G σ a o w v := by
  have h1 := h.opd hy
  simp only [pureOp] at hv
  split at hv
  · rename_i s c off k m e1 e2
    rw [e1] at h1
    split at hv
    · rename_i hb
      cases hv
      refine ⟨_, yields_idxA ho hu hs h1.1 (h.opd_int hj e2) hb.1 hb.2, ?_⟩
      rw [addr_add]
      exact ⟨rfl, h1.2⟩
    · cases hv
  · rename_i l cs off k m e1 e2
    rw [e1] at h1
    split at hv
    · rename_i hb
      cases hv
      obtain ⟨b, h2, h3⟩ := h1.ep_at
      refine ⟨_, yields_idxA ho hu hs h2 (h.opd_int hj e2) hb.1 hb.2, ?_⟩
      rw [Go.Deep.add_add]
      exact h3 _
    · cases hv
  · rename_i b off k m e1 e2
    rw [e1] at h1
    split at hv
    · rename_i hb
      cases hv
      obtain ⟨blk, h2, h3⟩ := Rel.bp_inv h1
      refine ⟨_, yields_idxA ho hu hs h2 (h.opd_int hj e2) hb.1 hb.2, ?_⟩
      rw [addr_add]
      exact .bp _ _ _ h3
    · cases hv
  · cases hv

theorem ans_ixA (h : SR D M G σ a.tmps w) {t e : TypeId} {x i : Operand} {y j : Opd} {z len : Nat} {g : Bool} {v : V} (ho : o.op = .index t x i) (hy : opdOf x = some y) (hj : opdOf i = some j) (hu : P.underlying t = some (.array len e)) (hs : sizeT P e = some z) (hg : aggT P e = some g)
    (hv : pureOp (get σ.env) t0 clk bx d (.ixA g len z y j) = some v) : Ans P G σ a o w v := by
  have h1 := h.opd hy
  simp only [pureOp] at hv
  split at hv
  · rename_i cs k m e1 e2
    rw [e1] at h1
    split at hv
    · rename_i hb
      obtain ⟨xs, h2, h3⟩ := Rel.agg_inv h1
      obtain ⟨k1, k2, k3, k4⟩ := part_rel hv h3
      refine ⟨_, ?_, VR.of_rel k4 k1⟩
      unfold Yields execOp
      simp [ho, h2, Instr.index, h.opd_int hj e2, asIntOf, run_underlying hu, sizeT_some hs, hb.1, hb.2, run_part hg hs (by simpa using k2) k3]
    · cases hv
  · cases hv

theorem ans_ixS (h : SR D M G σ a.tmps w) {t : TypeId} {x i : Operand} {y j : Opd} {v : V} (ho : o.op = .index t x i) (hy : opdOf x = some y) (hj : opdOf i = some j) (hu : P.underlying t = some .string)
    (hv : pureOp (get σ.env) t0 clk bx d (.ixS y j) = some v) : Ans P G σ a o w v := by
  simp only [pureOp] at hv
  split at hv
  · rename_i s k m e1 e2
    obtain ⟨b, h2, rfl⟩ := h.opd_str hy e1
    split at hv
    · rename_i hb
      cases hg : b.data.toList[m.toNat]? with
      | none => rw [hg] at hv; cases hv
      | some u =>
        rw [hg] at hv; cases hv
        refine ⟨_, ?_, .int _ _⟩
        have hb2 : b[m.toNat]? = some u := by
          have hlt := (List.getElem?_eq_some_iff.1 hg).1
          have hlt' : m.toNat < b.size := by simpa using hlt
          rw [getElem?_pos b m.toNat hlt']
          rw [List.getElem?_eq_getElem hlt] at hg
          cases hg
          rfl
        unfold Yields execOp
        simp [ho, h2, Instr.index, h.opd_int hj e2, asIntOf, run_underlying hu, hb, hb2]
    · cases hv
  · cases hv
end
end Go.VM
