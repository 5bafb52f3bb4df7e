/- More operations that only answer: parts of slices, numbers and strings, closures, structs. -/
import Derived.Test.YtndaipcfahfkkaaVM6
namespace Go.VM
open Go.RowKit

theorem add_off (a : Addr) (n : Nat) : (a.add n).off = a.off + n := by unfold Addr.add; split <;> simp_all
theorem add_zero' (a : Addr) : a.add 0 = a := by unfold Addr.add; simp

section
variable {P : Program} {D M : Nat → Prop} {G : Gh} {σ : St} {a : Act} {w : World} {o : Oper} {t0 : Nat → Nat} {clk d : Nat} {bx : BX}

theorem run_bound_hi (h : SR D M G σ a.tmps w) {hi : Option Operand} {hi' : Option Opd} (hhi : opdO hi = some hi') {n cap m : Nat} (hb : bound hi' (get σ.env) n n = some m) (hn : n ≤ cap) (isSl : Bool) :
    m ≤ n ∧ (match (hi.map a.eval : Option Value), (none : Option Value) with
      | some v, some _ => Instr.sliceBound v cap .slice3B
      | some v, none => Instr.sliceBound v cap (if isSl then .sliceAcap else .sliceAlen)
      | none, none => pure n
      | none, some _ => stuck "Slice: max without high").run P w = .ok m w := by
  cases hi with
  | none => cases hhi; simp only [bound] at hb; cases hb; exact ⟨Nat.le_refl _, rfl⟩
  | some x =>
    simp only [opdO] at hhi
    cases hx : opdOf x with
    | none => rw [hx] at hhi; cases hhi
    | some y =>
      rw [hx] at hhi; cases hhi
      simp only [bound] at hb
      split at hb
      · rename_i k i e1
        split at hb
        · rename_i hc
          cases hb
          refine ⟨by omega, ?_⟩
          simp only [Option.map_some, h.opd_int hx e1]
          unfold Instr.sliceBound
          simp only [Sem.run_bind, asIntOf, Sem.run_pure, Result.andThen_ok]
          rw [if_pos ⟨hc.1, by omega⟩]
          rfl
        · cases hb
      · cases hb

theorem run_bound_lo (h : SR D M G σ a.tmps w) {lo : Option Operand} {lo' : Option Opd} (hlo : opdO lo = some lo') {m l : Nat} (hb : bound lo' (get σ.env) m 0 = some l) :
    l ≤ m ∧ (match (lo.map a.eval : Option Value) with
      | some v => Instr.sliceBound v m (if (none : Option Value).isSome then .slice3C else .sliceB)
      | none => pure 0).run P w = .ok l w := by
  cases lo with
  | none => cases hlo; simp only [bound] at hb; cases hb; exact ⟨Nat.zero_le _, rfl⟩
  | some x =>
    simp only [opdO] at hlo
    cases hx : opdOf x with
    | none => rw [hx] at hlo; cases hlo
    | some y =>
      rw [hx] at hlo; cases hlo
      simp only [bound] at hb
      split at hb
      · rename_i k i e1
        split at hb
        · rename_i hc
          cases hb
          refine ⟨by omega, ?_⟩
          simp only [Option.map_some, h.opd_int hx e1]
          unfold Instr.sliceBound
          simp only [Sem.run_bind, asIntOf, Sem.run_pure, Result.andThen_ok]
          rw [if_pos ⟨hc.1, by omega⟩]
          rfl
        · cases hb
      · cases hb

theorem run_bounds (h : SR D M G σ a.tmps w) {lo hi : Option Operand} {lo' hi' : Option Opd} (hlo : opdO lo = some lo') (hhi : opdO hi = some hi') {n cap l m : Nat} (hb : bounds lo' hi' (get σ.env) n = some (l, m)) (hn : n ≤ cap) (isSl : Bool) :
    l ≤ m ∧ m ≤ n ∧ (Instr.sliceBounds isSl n cap (lo.map a.eval) (hi.map a.eval) none).run P w = .ok (l, m, cap) w := by
  unfold bounds at hb
  split at hb
  · cases hb
  · rename_i m' h1
    split at hb
    · cases hb
    · rename_i l' h2
      cases hb
      obtain ⟨k1, k2⟩ := run_bound_hi (P := P) h hhi h1 hn isSl
      obtain ⟨k3, k4⟩ := run_bound_lo (P := P) h hlo h2
      refine ⟨k3, k1, ?_⟩
      unfold Instr.sliceBounds
      cases hi <;> cases lo <;> simp only [Option.map_none, Option.map_some, Sem.run_bind, Sem.run_pure, Result.andThen_ok] at k2 k4 ⊢ <;>
        (try rw [k2]) <;> (try simp only [Result.andThen_ok]) <;> (try rw [k4]) <;> simp_all

theorem ans_cutS (h : SR D M G σ a.tmps w) {t : TypeId} {x : Operand} {y : Opd} {lo hi : Option Operand} {lo' hi' : Option Opd} {v : V} (ho : o.op = .slice t x lo hi none) (hy : opdOf x = some y) (hlo : opdO lo = some lo') (hhi : opdO hi = some hi') (hu : P.underlying t = some .string)
    (hv : pureOp (get σ.env) t0 clk bx d (.cutS y lo' hi') = some v) : Ans P G σ a o w v := by
  simp only [pureOp] at hv
  split at hv
  · rename_i s e1
    obtain ⟨b, h2, rfl⟩ := h.opd_str hy e1
    split at hv
    · rename_i l m hb
      cases hv
      obtain ⟨k1, k2, k3⟩ := run_bounds (P := P) h hlo hhi hb (Nat.le_refl _) false
      have hsz : b.data.toList.length = b.size := by simp
      rw [hsz] at k2 k3
      refine ⟨.string (b.extract l m), ?_, ?_⟩
      · unfold Yields execOp
        simp only [ho, Instr.sliceAt, Instr.slice, h2, Sem.run_bind, run_underlying hu, Result.andThen_ok, Option.map_none, Option.isSome_none, Bool.false_eq_true, if_false]
        rw [k3]
        rfl
      · have : ((b.data.toList.take m).drop l) = (b.extract l m).data.toList := by
          rw [ByteArray.data_extract]
          simp [Array.toList_extract, List.extract_eq_take_drop, List.take_drop, Nat.add_sub_cancel' k1]
        rw [this]
        exact .str _
    · cases hv
  · cases hv

theorem row_cut {b : Addr} {xs : List Value} {l m z n cap : Nat} (hr : Row w b xs) (hlen : xs.length = n * z) (hl : l ≤ m) (hm : m ≤ n) (hn : n ≤ cap) :
    Row w (if cap = l then b else b.add (l * z)) ((xs.take (m * z)).drop (l * z)) ∧ ((xs.take (m * z)).drop (l * z)).length = (m - l) * z := by
  have h1 : m * z ≤ n * z := Nat.mul_le_mul_right z hm
  have h2 : l * z ≤ m * z := Nat.mul_le_mul_right z hl
  have hlen2 : ((xs.take (m * z)).drop (l * z)).length = (m - l) * z := by
    rw [List.length_drop, List.length_take, hlen, Nat.sub_mul]; omega
  refine ⟨?_, hlen2⟩
  split
  · rename_i hc
    have : m = l := by omega
    subst this
    intro j u hu
    have := (List.getElem?_eq_some_iff.1 hu).1
    rw [hlen2] at this
    simp at this
  · intro j u hu
    rw [Go.Deep.add_add]
    rw [List.getElem?_drop, List.getElem?_take] at hu
    split at hu
    · exact hr _ u hu
    · cases hu

theorem at_cut {G : Gh} {T : Nat → Nat} {lk : Nat → Bool} {lb : Lab} {b : Addr} {z n cap l m : Nat} (h : At G T lk w lb b (n * z) z n cap) (hl : l ≤ m) (hm : m ≤ n) (hn : n ≤ cap) :
    At G T lk w (partLab l lb) (if cap = l then b else b.add (l * z)) ((m - l) * z) z (m - l) (cap - l) := by
  have h1 : l * z + (m - l) * z ≤ n * z := by rw [← Nat.add_mul]; exact Nat.mul_le_mul_right z (by omega)
  have hblk : (if cap = l then b else b.add (l * z)).block = b.block := by split; rfl; rw [add_block]
  have hoff : (if cap = l then b else b.add (l * z)).off + (m - l) * z ≤ b.off + n * z := by
    split
    · have : m - l = 0 := by omega
      rw [this]; omega
    · rw [add_off]; omega
  have rd : ∀ nm, Rd G nm b (n * z) → Rd G nm (if cap = l then b else b.add (l * z)) ((m - l) * z) := by
    intro nm hr
    unfold Rd at *
    rw [hblk]
    rcases hr with ⟨k, hr, hr2⟩ | ⟨hr, hr2⟩
    · exact .inl ⟨k, by rw [hblk]; exact hr, by omega⟩
    · exact .inr ⟨hr, by omega⟩
  have same : l = 0 → (if cap = l then b else b.add (l * z)) = b := by
    intro h0; subst h0; split; rfl; rw [Nat.zero_mul, add_zero']
  cases lb with
  | none =>
    simp only [partLab, At] at *
    rw [hblk]
    rcases h with h0 | ⟨k, h, h2⟩ | ⟨nm, h2, h3, h4⟩
    · exact .inl (by omega)
    · exact .inr (.inl ⟨k, by rw [hblk]; exact h, by omega⟩)
    · exact .inr (.inr ⟨nm, h2, h3, by omega⟩)
  | own nm k =>
    obtain ⟨a1, a2, a3⟩ := h
    by_cases h0 : l = 0
    · rw [show partLab l (.own nm k) = .pre nm k from by simp [partLab, h0]]
      refine ⟨a1, rd nm a2, fun hk => ?_⟩
      rw [same h0, h0, Nat.sub_zero]
      exact (a3 hk).1
    · rw [show partLab l (.own nm k) = .view nm from by simp [partLab, h0]]
      exact rd nm a2
  | pre nm k =>
    obtain ⟨a1, a2, a3⟩ := h
    by_cases h0 : l = 0
    · rw [show partLab l (.pre nm k) = .pre nm k from by simp [partLab, h0]]
      refine ⟨a1, rd nm a2, fun hk => ?_⟩
      rw [same h0, h0, Nat.sub_zero]
      exact a3 hk
    · rw [show partLab l (.pre nm k) = .view nm from by simp [partLab, h0]]
      exact rd nm a2
  | view nm => exact rd nm h
  | rv => exact h.elim
  | arg => exact h.elim

theorem ans_cut (h : SR D M G σ a.tmps w) {t e : TypeId} {x : Operand} {y : Opd} {z : Nat} {lo hi : Option Operand} {lo' hi' : Option Opd} {v : V} (ho : o.op = .slice t x lo hi none) (hy : opdOf x = some y) (hlo : opdO lo = some lo') (hhi : opdO hi = some hi') (hu : P.underlying t = some (.slice e)) (hs : sizeT P e = some z)
    (hv : pureOp (get σ.env) t0 clk bx d (.cut z y lo' hi') = some v) : Ans P G σ a o w v := by
  have h1 := h.opd hy
  simp only [pureOp] at hv
  split at hv
  · rename_i e1
    rw [e1] at h1
    have h2 := Rel.nils_inv h1
    split at hv
    · rename_i p hb
      cases hv
      obtain ⟨l, m⟩ := p
      obtain ⟨k1, k2, k3⟩ := run_bounds (P := P) h hlo hhi hb (Nat.le_refl _) true
      obtain rfl : m = 0 := by omega
      obtain rfl : l = 0 := by omega
      refine ⟨.slice none 0 0, ?_, .nils⟩
      unfold Yields execOp
      simp only [ho, Instr.sliceAt, Instr.slice, h2, Sem.run_bind, run_underlying hu, Result.andThen_ok, Option.map_none]
      rw [k3]
      simp only [Result.andThen_ok, sizeT_some hs, Sem.run_pure]
      rfl
    · cases hv
  · rename_i lb z' n cs e1
    rw [e1] at h1
    split at hv
    · rename_i l m hb
      split at hv
      · rename_i hz
        subst hz
        cases hv
        obtain ⟨b, cap, h2, h3, h4, h5, h6⟩ := h1.sl_val
        obtain ⟨k1, k2, k3⟩ := run_bounds (P := P) h hlo hhi hb h4 true
        refine ⟨.slice (some (if cap = l then b else b.add (l * z))) (m - l) (cap - l), ?_, ?_⟩
        · unfold Yields execOp
          simp only [ho, Instr.sliceAt, Instr.slice, h2, Sem.run_bind, run_underlying hu, Result.andThen_ok, Option.map_none]
          rw [k3]
          simp only [Result.andThen_ok, sizeT_some hs, Sem.run_pure]
          split <;> rfl
        · have hcl : ((cs.take (m * z)).drop (l * z)).length = (m - l) * z := by
            have q1 : m * z ≤ n * z := Nat.mul_le_mul_right z k2
            rw [List.length_drop, List.length_take, h6, Nat.sub_mul]; omega
          cases lb with
          | rv s c u =>
            obtain ⟨b', cap', h7, _, _, _, _, h8, h9, hnm, h10⟩ := h1
            rw [h2] at h7; cases h7
            refine ⟨_, _, rfl, h3, by omega, by omega, hcl, ?_, h9, namesL_cut hnm _ _, fun cs' hc => ?_⟩
            · have hblk : (if cap = l then b else b.add (l * z)).block = b.block := by split; rfl; rw [add_block]
              rw [hblk]; exact h8
            · obtain ⟨xs, h11, h12⟩ := h10 cs' hc
              have hx : xs.length = n * z := by rw [← h12.length]; exact h6
              exact ⟨_, (row_cut h11 hx k1 k2 h4).1, (h12.take _).drop _⟩
          | arg i =>
            obtain ⟨b', cap', xs, h7, h8, _⟩ := Rel.sl_inv h1
            exact h8.elim
          | none =>
            obtain ⟨b', cap', xs, h7, h8, _, h9, _, _, h10, h11, hnm⟩ := Rel.sl_inv h1
            rw [h2] at h7; cases h7
            obtain ⟨q1, q2⟩ := row_cut h10 h9 k1 k2 h4
            exact .sl _ _ _ _ _ _ _ (by rw [q2]; rw [h9] at h8; exact at_cut h8 k1 k2 h4) h3 q2 (by omega) (by omega) q1 ((h11.take _).drop _) (namesL_cut hnm _ _)
          | view nm =>
            obtain ⟨b', cap', xs, h7, h8, _, h9, _, _, h10, h11, hnm⟩ := Rel.sl_inv h1
            rw [h2] at h7; cases h7
            obtain ⟨q1, q2⟩ := row_cut h10 h9 k1 k2 h4
            exact .sl _ _ _ _ _ _ _ (by rw [q2]; rw [h9] at h8; exact at_cut h8 k1 k2 h4) h3 q2 (by omega) (by omega) q1 ((h11.take _).drop _) (namesL_cut hnm _ _)
          | own nm k =>
            obtain ⟨b', cap', xs, h7, h8, _, h9, _, _, h10, h11, hnm⟩ := Rel.sl_inv h1
            rw [h2] at h7; cases h7
            obtain ⟨q1, q2⟩ := row_cut h10 h9 k1 k2 h4
            have h12 := at_cut (T := σ.tips) (lk := σ.lk) (by rw [h9] at h8; exact h8) k1 k2 h4
            refine VR.of_rel ?_ (.sl _ _ _ _ _ _ _ (by rw [q2]; exact h12) h3 q2 (by omega) (by omega) q1 ((h11.take _).drop _) (namesL_cut hnm _ _))
            simp only [partLab]; split <;> trivial
          | pre nm k =>
            obtain ⟨b', cap', xs, h7, h8, _, h9, _, _, h10, h11, hnm⟩ := Rel.sl_inv h1
            rw [h2] at h7; cases h7
            obtain ⟨q1, q2⟩ := row_cut h10 h9 k1 k2 h4
            have h12 := at_cut (T := σ.tips) (lk := σ.lk) (by rw [h9] at h8; exact h8) k1 k2 h4
            refine VR.of_rel ?_ (.sl _ _ _ _ _ _ _ (by rw [q2]; exact h12) h3 q2 (by omega) (by omega) q1 ((h11.take _).drop _) (namesL_cut hnm _ _))
            simp only [partLab]; split <;> trivial
      · cases hv
    · cases hv
  · cases hv

theorem ans_cutR (h : SR D M G σ a.tmps w) {t e : TypeId} {x : Operand} {y : Opd} {s z len : Nat} {lo hi : Option Operand} {lo' hi' : Option Opd} {v : V} (ho : o.op = .slice t x lo hi none) (hy : opdOf x = some y) (hlo : opdO lo = some lo') (hhi : opdO hi = some hi') (hu : P.underlying t = some (.array len e)) (hs : sizeT P e = some z) (hlen : len ≤ maxLen)
    (hv : pureOp (get σ.env) t0 clk bx d (.cutR s len z y lo' hi') = some v) : Ans P G σ a o w v := by
  have h1 := h.opd hy
  simp only [pureOp] at hv
  split at hv
  · rename_i s' c off e1
    rw [e1] at h1
    split at hv
    · rename_i c' n cs l m e2 hb
      split at hv
      · rename_i hc
        obtain ⟨rfl, rfl, hc1, hc2, hnm⟩ := hc
        cases hv
        have hsl := h.slots s
        rw [e2] at hsl
        obtain ⟨q1, q2, q3, xs, et, q4, q5⟩ := hsl
        obtain ⟨k1, k2, k3⟩ := run_bounds (P := P) h hlo hhi hb (Nat.le_refl _) false
        refine ⟨.slice (some (if len = l then ⟨G.rgB s c, off, none⟩ else (⟨G.rgB s c, off, none⟩ : Addr).add (l * z))) (m - l) (len - l), ?_, ?_⟩
        · unfold Yields execOp
          simp only [ho, Instr.sliceAt, h1.1, Sem.run_bind, run_underlying hu, Result.andThen_ok, Option.map_none, Instr.sureAddr, Sem.run_pure]
          rw [k3]
          simp only [Result.andThen_ok, sizeT_some hs, Sem.run_pure]
        · have hxl : xs.toList.length = cs.length := q5.length.symm
          have hr1 : Row w ⟨G.rgB s c, off, none⟩ ((xs.toList.drop off).take (len * z)) := by
            rw [add_zero_off]; exact row_drop (row_of_block q4) off _
          have hl1 : ((xs.toList.drop off).take (len * z)).length = len * z := by
            rw [List.length_take, List.length_drop, hxl]; omega
          have hl2 : ((cs.drop off).take (len * z)).length = len * z := by
            rw [List.length_take, List.length_drop]; omega
          have q6 : RelL w (At G σ.tips σ.lk w) G.bxB ((cs.drop off).take (len * z)) ((xs.toList.drop off).take (len * z)) := (q5.drop off).take _
          have hm : ((cs.drop off).take (len * z)).take (m * z) = (cs.drop off).take (m * z) := by
            rw [List.take_take, Nat.min_eq_left (Nat.mul_le_mul_right z k2)]
          obtain ⟨r1, r2⟩ := row_cut hr1 hl1 k1 k2 (Nat.le_refl len)
          have hcl : (((cs.drop off).take (m * z)).drop (l * z)).length = (m - l) * z := by
            rw [← hm]
            have q7 : m * z ≤ len * z := Nat.mul_le_mul_right z k2
            rw [List.length_drop, List.length_take, hl2, Nat.sub_mul]; omega
          refine ⟨_, _, rfl, hc2, by omega, by omega, hcl, ?_, by omega, namesL_sub hnm fun v hv => List.mem_of_mem_drop (List.mem_of_mem_take (List.mem_of_mem_drop hv)), fun cs' hc' => ⟨_, r1, ?_⟩⟩
          · have hblk : (if len = l then (⟨G.rgB s c, off, none⟩ : Addr) else (⟨G.rgB s c, off, none⟩ : Addr).add (l * z)).block = G.rgB s c := by split; rfl; rw [add_block]
            rw [hblk]; exact q3
          · rw [← hm]; exact (q6.take _).drop _
      · cases hv
    · cases hv
  · cases hv

theorem ans_arrptr (h : SR D M G σ a.tmps w) {t e : TypeId} {x : Operand} {y : Opd} {n z : Nat} {v : V} (ho : o.op = .sliceToArrayPointer t x) (hy : opdOf x = some y) (hu : P.underlying t = some (.array n e))
    (hv : pureOp (get σ.env) t0 clk bx d (.arrptr n z y) = some v) : Ans P G σ a o w v := by
  have h1 := h.opd hy
  simp only [pureOp] at hv
  split at hv
  · rename_i l z' m cs e1
    rw [e1] at h1
    split at hv
    · rename_i hc
      cases hv
      obtain ⟨b, cap, h2, h3, h4⟩ := h1.sl_at
      have h5 := h4 0
      rw [add_zero'] at h5
      refine ⟨_, ?_, h5⟩
      unfold Yields execOp
      simp only [ho, Instr.arrayAt, h2, Sem.run_bind, run_underlying hu, Result.andThen_ok, Sem.run_pure]
      rw [if_neg (by omega)]
      rfl
    · cases hv
  · cases hv

theorem ofNat_toNat_byte (n : Nat) : UInt8.ofNat n = UInt8.ofNat n := rfl

/-- Bytes read off a row of cells. -/
theorem byteList_rel {A : Pl} {B : List Nat} {cs : List V} {bs : List UInt8} {xs : List Value} (hb : byteList cs = some bs) (h : RelL w A B cs xs) :
    ∃ ns : List Int, xs = ns.map (Value.int .u8) ∧ bs = ns.map fun n => UInt8.ofNat n.toNat := by
  induction cs generalizing bs xs with
  | nil => cases h; simp only [byteList] at hb; cases hb; exact ⟨[], rfl, rfl⟩
  | cons v r ih =>
    cases h with
    | cons _ c _ xs h1 h2 =>
      simp only [byteList] at hb
      split at hb
      · rename_i b l e1 e2
        cases hb
        obtain ⟨ns, h3, h4⟩ := ih e2 h2
        unfold byteOfV at e1
        split at e1
        · rename_i n
          cases e1
          have h5 := Rel.int_inv h1
          exact ⟨n :: ns, by rw [h5, h3]; rfl, by rw [h4]; rfl⟩
        · cases e1
      · cases hb

theorem foldl_push (ns : List Int) (s : ByteArray) : (ns.foldl (fun r n => r.push (UInt8.ofNat n.toNat)) s).data.toList = s.data.toList ++ ns.map fun n => UInt8.ofNat n.toNat := by
  induction ns generalizing s with
  | nil => simp
  | cons n ns ih => simp only [List.foldl_cons, ih, List.map_cons]; simp [ByteArray.push]

theorem ans_toStr (h : SR D M G σ a.tmps w) {av : List Nat} {src dst e : TypeId} {x : Operand} {y : Opd} {v : V} (ho : o.op = .convert src dst x) (hy : opdOf x = some y) (hs : P.underlying src = some (.slice e)) (he : P.underlying e = some (.int .u8)) (hd : P.underlying dst = some .string)
    (hv : pureOp (get σ.env) t0 clk bx d (.toStr y av) = some v) : Ans P G σ a o w v := by
  have h1 := h.opd hy
  simp only [pureOp] at hv
  split at hv
  · rename_i e1
    rw [e1] at h1
    cases hv
    have h2 := Rel.nils_inv h1
    refine ⟨.string ByteArray.empty, ?_, Rel.str ByteArray.empty⟩
    unfold Yields execOp
    simp [ho, h2, run_convert_bytes_string (P := P) w src dst e none 0 0 hs he hd, Conv.bytesToString]
  · rename_i l n cs e1
    rw [e1] at h1
    split at hv
    · rename_i hl
      cases hb : byteList cs with
      | none => rw [hb] at hv; cases hv
      | some bs =>
        rw [hb] at hv; cases hv
        obtain ⟨b, cap, xs, h2, h3, h4, h5, h6, h7, h8, _⟩ := h1.sl_row (live_of_free hl)
        obtain ⟨ns, h9, h10⟩ := byteList_rel hb h8
        subst h9
        have hlen : (ns.map (Value.int .u8)).length = n := by simpa using h4
        have hload := run_loadCells_list (P := P) (w := w) b (ns.map (Value.int .u8)) (fun j u hu => h7 j u hu)
        rw [hlen] at hload
        refine ⟨.string (ns.foldl (fun r n => r.push (UInt8.ofNat n.toNat)) ByteArray.empty), ?_, ?_⟩
        · unfold Yields execOp
          simp [ho, h2, run_convert_bytes_string (P := P) w src dst e (some b) n cap hs he hd, run_bytesToString w b n cap ns hload]
        · have : bs = (ns.foldl (fun r n => r.push (UInt8.ofNat n.toNat)) ByteArray.empty).data.toList := by
            rw [foldl_push, h10]; simp
          rw [this]
          exact .str _
    · cases hv
  · cases hv
end
end Go.VM
