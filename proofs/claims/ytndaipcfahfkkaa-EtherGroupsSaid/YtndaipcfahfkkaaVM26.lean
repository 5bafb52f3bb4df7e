/- Regions, in their own order and in an open one. -/
import Derived.Test.YtndaipcfahfkkaaVM25
import Derived.Orders
namespace Go.VM
open Go.RowKit

/-- Between regions. -/
abbrev SRc (G : Gh) (σ : St) (tm : Array Value) (w : World) : Prop := SR (fun _ => True) (fun _ => False) G σ tm w

section
variable {D M : Nat → Prop} {G : Gh} {σ : St} {tm : Array Value} {w : World}

theorem SR.rest (h : SR D M G σ tm w) : SRc G σ tm w :=
  ⟨h.slots, h.boxes, h.ok, h.shared, fun b s c hb => (h.clkD b s c hb).imp id fun ⟨h1, _⟩ => ⟨h1, trivial⟩, fun _ hm => hm.elim⟩

theorem SR.retires {ns : List Nat} (hns : ∀ nm ∈ ns, 64 ≤ nm) (h : SRc G σ tm w) : ∃ G', SRc G' { σ with tips := bump σ.tips ns, lk := updL σ.lk false ns } tm w ∧ Fr G w G' w ∧ ∀ nm ∈ ns, ∀ b, G'.Z b ≠ .fam nm := by
  induction ns with
  | nil => exact ⟨G, h, Fr.refl G w, fun nm hnm => by cases hnm⟩
  | cons nm r ih =>
    obtain ⟨G1, h1, h2, h3⟩ := ih fun m hm => hns m (List.mem_cons_of_mem _ hm)
    have hnm := hns nm List.mem_cons_self
    obtain ⟨k1, k2⟩ := h1.retire (nm := nm) (T' := bump σ.tips (nm :: r)) (lk' := updL σ.lk false (nm :: r)) (fun m hm => upd_other _ _ hm) (by show bump σ.tips r nm < upd _ _ _ nm; rw [upd_same]; omega)
      (fun m hm hl => by show upd _ _ _ m = true; rw [upd_other _ _ hm]; exact hl) (fun m hm => by
        rw [updL_eq, if_neg fun hmem => by have := hns m hmem; omega]
        exact h.shared m hm)
    refine ⟨G1.retire nm, k1, h2.trans h.ok k2, fun m hm b hb => ?_⟩
    rcases List.mem_cons.1 hm with rfl | hm
    · exact retire_no b hb
    · exact h3 m hm b (retire_back (by simp) hb).1

theorem makes_big {vs : List VOper} : ∀ nm ∈ makes vs, 64 ≤ nm := by
  induction vs with
  | nil => intro nm h; cases h
  | cons o r ih =>
    intro nm h
    unfold makes at h
    split at h
    · rcases List.mem_cons.1 h with rfl | h
      · unfold nmOf; omega
      · exact ih nm h
    · rcases List.mem_cons.1 h with rfl | h
      · unfold nmOf; omega
      · exact ih nm h
    · exact ih nm h

theorem makes_mem {vs : List VOper} {v : VOper} (hv : v ∈ vs) (hr : v.op.rowed = true) {d : Nat} (hd : v.dst = some d) : nmOf d 0 ∈ makes vs := by
  induction vs with
  | nil => cases hv
  | cons o r ih =>
    have tail : nmOf d 0 ∈ makes r → nmOf d 0 ∈ makes (o :: r) := fun h => by
      unfold makes
      split
      · exact List.mem_cons_of_mem _ h
      · exact List.mem_cons_of_mem _ h
      · exact h
    rcases List.mem_cons.1 hv with rfl | hv
    · obtain ⟨dst, op, g⟩ := v
      simp only at hr hd
      subst hd
      cases op with
      | bslice => exact List.mem_cons_self
      | mkslice => exact List.mem_cons_self
      | _ => cases hr
    · exact tail (ih hv)

/-- A region begins. -/
theorem SR.begin {vs : List VOper} (h : SRc G σ tm w) : ∃ G', SR (fun _ => False) (fun d => nmOf d 0 ∈ makes vs) G' { σ with clk := σ.clk + 1, tips := bump σ.tips (makes vs), lk := updL σ.lk false (makes vs) } tm w ∧ Fr G w G' w := by
  obtain ⟨G', h1, h2, h3⟩ := h.retires (makes_big (vs := vs))
  refine ⟨G', ⟨h1.slots, h1.boxes, h1.ok, h1.shared, fun b s c hb => .inl ?_, fun d hm _ b hb => h3 _ hm b hb⟩, h2⟩
  rcases h1.clkD b s c hb with h4 | ⟨h4, _⟩
  · exact Nat.lt_succ_of_lt h4
  · exact h4 ▸ Nat.lt_succ_self _

theorem get_take (e : Env) (n s : Nat) : get (e.take n) s = get e s ∨ get (e.take n) s = .undef := by
  induction e generalizing n with
  | nil => simp [get]
  | cons x r ih =>
    obtain ⟨a, v⟩ := x
    cases n with
    | zero => exact .inr rfl
    | succ n =>
      simp only [List.take_succ_cons, get]
      split
      · exact .inl rfl
      · exact ih n

/-- Like states stand alike. -/
theorem SR.steq {τ : St} (h : SR D M G σ tm w) (he : StEq σ τ) : SR D M G τ tm w := by
  obtain ⟨c1, e1, t1, l1, b1⟩ := σ
  obtain ⟨c2, e2, t2, l2, b2⟩ := τ
  obtain ⟨h1, h2, h3, h4, h5⟩ := he
  simp only at h1 h2 h3 h4 h5
  subst h1 h2 h3 h4
  refine ⟨fun s => ?_, h.boxes, h.ok, h.shared, h.clkD, h.newD⟩
  show SlotR G _ w (get e2) s (get e2 s) _
  rw [← h5]
  exact h.slots s

/-- What was made in a region for the region alone is forgotten. -/
theorem SR.drop (h : SRc G σ tm w) (n : Nat) : SRc G { σ with env := σ.env.take n } tm w := by
  refine ⟨fun s => ?_, h.boxes, h.ok, h.shared, h.clkD, h.newD⟩
  show SlotR G (At G σ.tips σ.lk w) w (get (σ.env.take n)) s (get (σ.env.take n) s) _
  have hg : Goes G G (At G σ.tips σ.lk w) (At G σ.tips σ.lk w) w w (get σ.env) (get (σ.env.take n)) := by
    refine ⟨keeps_refl, fun b s c hb => ⟨hb, rfl, Nat.le_refl _⟩, fun s c v cs he => .inl ⟨cs, ?_, fun _ => rfl⟩⟩
    rcases get_take σ.env n s with h1 | h1
    · rw [← h1]; exact he
    · rw [he] at h1; cases h1
  rcases get_take σ.env n s with h1 | h1
  · rw [h1]
    refine SlotR.goes h.ok hg (h.slots s) fun k m cs hv => ?_
    have hs := h.slots s
    rw [hv] at hs
    exact hs
  · rw [h1]; exact Rel.undef _
end

section
variable {cf : CallF} {sg : Nat → Sig} {t0 : Nat → Nat} {σ σ' : St}

theorem append2_tips {d bytes : Nat} {cut : Bool} {z : Nat} {s : V} {m : Nat} {news : List V} (h : append2 σ d bytes cut z s m news = some σ') (nm : Nat) : σ.tips nm ≤ σ'.tips nm := by
  have up : ∀ a k, k = σ.tips a → σ.tips nm ≤ upd σ.tips a (k + 1) nm := fun a k hk => by
    by_cases e : nm = a
    · subst e; rw [upd_same]; omega
    · rw [upd_other _ _ e]; exact Nat.le_refl _
  unfold append2 at h
  split at h
  · split at h
    · split at h <;> cases h
      · exact Nat.le_refl _
      · exact up _ _ rfl
    · cases h
  · split at h
    · rename_i hc; cases h; exact up _ _ hc.2.1
    · cases h
  · split at h
    · rename_i hc; cases h; exact up _ _ hc.2.2.1
    · cases h
  · cases h

theorem callAt_tips {d : Option Nat} {f : Nat} {vs : List V} {q : Bool} {av : List Nat} (h : callAt cf sg σ d f vs q av = some σ') (nm : Nat) : σ.tips nm ≤ σ'.tips nm := by
  unfold callAt at h
  cases d with
  | none => cases h
  | some d =>
    simp only at h
    split at h
    · cases hr : cf f (handArgs (sg f).cons 0 vs) σ.bx with
      | none => rw [hr] at h; cases h
      | some x =>
        obtain ⟨r, bx⟩ := x
        rw [hr] at h
        simp only at h
        split at h
        · cases h; exact Nat.le_trans bump_ge bump_ge
        · cases h
    · cases h

theorem stepOp_tips {o : VOper} (h : stepOp cf sg t0 σ o = some σ') (nm : Nat) : σ.tips nm ≤ σ'.tips nm := by
  unfold stepOp at h
  split at h
  · split at h
    · cases h
    · obtain ⟨dst, op, guard⟩ := o
      simp only at h
      by_cases hp : op.isP = true
      · obtain ⟨d, v, _, _, rfl⟩ := step1_pure hp h
        exact Nat.le_refl _
      · cases op with
        | store rt sz a x =>
          cases dst with
          | some d => cases h
          | none =>
            simp only [step1, storeAt] at h
            split at h
            · split at h
              · split at h
                · cases h; exact Nat.le_refl _
                · cases h
              · cases h
            · split at h
              · split at h
                · cases h; exact Nat.le_refl _
                · cases h
              · cases h
            · split at h
              · cases h; exact Nat.le_refl _
              · cases h
            · cases h
        | call f args q av => simp only [step1] at h; exact callAt_tips h nm
        | callv x args q av =>
          simp only [step1] at h
          split at h
          · exact callAt_tips h nm
          · cases h
        | allocB zs =>
          simp only [step1] at h
          split at h
          · cases h; exact Nat.le_refl _
          · cases h
        | boxB sz x =>
          simp only [step1] at h
          split at h
          · split at h
            · cases h; exact Nat.le_refl _
            · cases h
          · cases h
        | bslice lky z n zs ps =>
          cases lky with
          | false => exact absurd rfl hp
          | true =>
            simp only [step1] at h
            split at h
            · split at h
              · cases h; exact Nat.le_refl _
              · cases h
            · cases h
        | append z bytes cut s x av =>
          simp only [step1] at h
          split at h
          · split at h
            · exact append2_tips h nm
            · cases h
          · cases h
        | _ => exact absurd rfl hp
  · split at h
    · split at h
      · cases h
      · cases h; exact Nat.le_refl _
    · cases h; exact Nat.le_refl _
  · cases h
end

section
variable {P : Program} {D M : Nat → Prop} {G : Gh} {σ : St} {a : Act} {w : World} {t0 : Nat → Nat} {hh : Hints} {cf : CallF} {sg : Nat → Sig} {ops : Array Oper}

theorem compileOper_inv {N : Nat} {o : Oper} {v : VOper} (h : compileOper P hh N ops o = some v) : v.dst = o.dst ∧ (∀ d, o.dst = some d → d < N) ∧ v.op = (compileOp P hh o.dst o.op).getD .fail ∧
    ((o.guard = none ∧ v.guard = none) ∨ ∃ j want s, o.guard = some (j, want) ∧ (ops[j]?).bind (·.dst) = some s ∧ s < N ∧ v.guard = some (s, want)) := by
  unfold compileOper at h
  split at h
  · rename_i hd
    have hdd : ∀ d, o.dst = some d → d < N := fun d e => by
      rw [e] at hd
      simpa using hd
    split at h
    · rename_i hg; cases h; exact ⟨rfl, hdd, rfl, .inl ⟨hg, rfl⟩⟩
    · rename_i j want hg
      split at h
      · rename_i s hs
        split at h
        · rename_i hsn; cases h; exact ⟨rfl, hdd, rfl, .inr ⟨j, want, s, hg, hs, hsn, rfl⟩⟩
        · cases h
      · cases h
  · cases h

/-- ONE OPERATION OF A REGION. -/
theorem wpOp_step (hcf : CallOk P cf) (h : SR D M G σ a.tmps w) {i N : Nat} {o : Oper} {v : VOper} (ho : ops[i]? = some o) (hN : N ≤ a.tmps.size) (hc : compileOper P hh N ops o = some v) {σ' : St} (hs : stepOp cf sg t0 σ v = some σ')
    (hD : ∀ d, v.dst = some d → ¬ D d) (hM : ∀ d, v.dst = some d → v.op.rowed = true → M d) (ht : ∀ nm, t0 nm ≤ σ.tips nm) {K : Act → World → Prop} {Q : Exit → Act → World → Prop}
    (hK : ∀ a' w', Then (fun s => D s ∨ v.dst = some s) M G σ' a w a' w' → K a' w') : wpOp P ops Q i K a w := by
  obtain ⟨c1, c2', c3, c4⟩ := compileOper_inv hc
  have c2 : ∀ d, o.dst = some d → d < a.tmps.size := fun d hd => Nat.lt_of_lt_of_le (c2' d hd) hN
  unfold wpOp
  rw [ho]
  simp only
  -- the guard
  have hw : ∀ b, wantedV (get σ.env) v.guard = some b → Region.wanted o (yielded ops a.tmps) = b := fun b hb => by
    rcases c4 with ⟨g1, g2⟩ | ⟨j, want, s, g1, g2, g3, g4⟩
    · rw [g2] at hb; cases hb
      simp only [Region.wanted, g1]
    · rw [g4] at hb
      simp only [Region.wanted, g1, yielded, g2, Option.bind_some]
      have hsl := h.slots s
      simp only [wantedV] at hb
      have hget : a.tmps[s]? = some (a.tmps.getD s Go.undef) := by
        have g5 : s < a.tmps.size := Nat.lt_of_lt_of_le g3 hN
        rw [Array.getElem?_eq_getElem g5]
        simp [Array.getD, g5]
      split at hb
      · rename_i b' e1
        rw [e1] at hsl
        have := Rel.bool_inv hsl
        rw [hget, this]
        cases hb
        cases b' <;> cases want <;> rfl
      · rename_i e1
        rw [e1] at hsl
        obtain ⟨xs, h1, h2⟩ := Rel.tup_inv hsl
        rw [hget, h1]
        cases hb
        rfl
      · cases hb
  unfold stepOp at hs
  split at hs
  · rename_i hg
    rw [hw true hg, if_pos rfl]
    split at hs
    · cases hs
    · rw [c1] at hs hD hM hK
      cases hop : compileOp P hh o.dst o.op with
      | none =>
        rw [c3, hop] at hs
        obtain ⟨d, u, _, hu, _⟩ := step1_pure (vo := .fail) rfl hs
        cases hu
      | some vo =>
        rw [hop, Option.getD_some] at c3
        rw [c3] at hs hM
        exact .inl (wp_op hcf h hop hs c2 hD hM ht hK)
  · rename_i hg
    rw [hw false hg, if_neg (by simp)]
    split at hs
    · rename_i d hd
      split at hs
      · cases hs
      · cases hs
        rw [c1] at hd
        refine hK _ _ ⟨G, ?_, Fr.refl G w, put_size _ _ _⟩
        rw [put_some a hd]
        refine (h.put (v := .tup []) (c := Go.undef) (c2 d hd) (Rel.tup [] #[] .nil)).mono fun s hs => ?_
        rw [c1]; exact (dst_or hd s).1 hs
    · rename_i hd
      cases hs
      rw [c1] at hd
      refine hK _ _ ⟨G, ?_, Fr.refl G w, put_size _ _ _⟩
      rw [hd]
      exact h.mono fun s hs => .inl hs
  · cases hs

theorem compileOpers_get {N : Nat} : ∀ {l : List Oper} {vs : List VOper}, compileOpers P hh N ops l = some vs → vs.length = l.length ∧ ∀ (i : Nat) (o : Oper), l[i]? = some o → ∃ v, vs[i]? = some v ∧ compileOper P hh N ops o = some v
  | [], vs, h => by cases h; exact ⟨rfl, fun i o h => by simp at h⟩
  | o :: r, vs, h => by
    simp only [compileOpers] at h
    split at h
    · rename_i v vs' h1 h2
      cases h
      obtain ⟨k1, k2⟩ := compileOpers_get h2
      refine ⟨by simp [k1], fun i o' ho => ?_⟩
      cases i with
      | zero => simp at ho; subst ho; exact ⟨v, rfl, h1⟩
      | succ i => simp at ho; obtain ⟨v', q1, q2⟩ := k2 i o' ho; exact ⟨v', by simpa using q1, q2⟩
    · cases h

/-- What is the matter while a region runs: these are still to go. -/
structure Mid (P : Program) (hh : Hints) (ops : Array Oper) (cf : CallF) (sg : Nat → Sig) (t0 : Nat → Nat) (vs : List VOper) (D M : Nat → Prop) (G : Gh) (σ τ : St) (rem : List Nat) (a : Act) (w : World) : Prop where
  run : ∃ τ', runOps cf sg t0 σ (rem.filterMap fun i => vs[i]?) = some τ' ∧ StEq τ' τ
  sr : SR D M G σ a.tmps w
  tips : ∀ nm, t0 nm ≤ σ.tips nm
  lt : ∀ i ∈ rem, i < ops.size
  fresh : ∀ i ∈ rem, ∀ v, vs[i]? = some v → ∀ d, v.dst = some d → ¬ D d
  made : ∀ i ∈ rem, ∀ v, vs[i]? = some v → ∀ d, v.dst = some d → v.op.rowed = true → M d
  nodup : rem.Nodup

theorem dsts_apart {vs : List VOper} (h : (dstsOf vs).Nodup) {i j : Nat} {x y : VOper} {d : Nat} (hi : vs[i]? = some x) (hj : vs[j]? = some y) (hx : x.dst = some d) (hy : y.dst = some d) : i = j := by
  induction vs generalizing i j with
  | nil => simp at hi
  | cons v r ih =>
    have hcons : dstsOf (v :: r) = v.dst.toList ++ dstsOf r := by simp [dstsOf]
    rw [hcons] at h
    obtain ⟨h1, h2, h3⟩ := List.nodup_append.1 h
    have mem : ∀ {k : Nat} {z : VOper}, r[k]? = some z → z.dst = some d → d ∈ dstsOf r := fun {k z} hk hz => List.mem_flatMap.2 ⟨z, List.mem_of_getElem? hk, by rw [hz]; simp⟩
    cases i with
    | zero =>
      simp at hi; subst hi
      cases j with
      | zero => rfl
      | succ j =>
        simp at hj
        exact absurd rfl (h3 d (by rw [hx]; simp) d (mem hj hy))
    | succ i =>
      simp at hi
      cases j with
      | zero =>
        simp at hj; subst hj
        exact absurd rfl (h3 d (by rw [hy]; simp) d (mem hi hx))
      | succ j =>
        simp at hj
        rw [ih h2 hi hj]

/-- One of them goes, that may go first. -/
theorem Mid.step (hcf : CallOk P cf) {vs : List VOper} {N : Nat} (hN : N ≤ a.tmps.size) (hcomp : compileOpers P hh N ops ops.toList = some vs) (hnd : (dstsOf vs).Nodup) {τ : St} {i : Nat} {rem : List Nat} (h : Mid P hh ops cf sg t0 vs D M G σ τ (i :: rem) a w)
    {K : Act → World → Prop} {Q : Exit → Act → World → Prop}
    (hK : ∀ D' G' σ' a' w', Mid P hh ops cf sg t0 vs D' M G' σ' τ rem a' w' → Fr G w G' w' → a'.tmps.size = a.tmps.size → a'.defers = a.defers → K a' w') : wpOp P ops Q i K a w := by
  have hi := h.lt i List.mem_cons_self
  have ho : ops[i]? = some ops[i] := Array.getElem?_eq_getElem hi
  obtain ⟨k1, k2⟩ := compileOpers_get hcomp
  obtain ⟨v, hv, hcv⟩ := k2 i ops[i] (by rw [Array.getElem?_toList]; exact ho)
  obtain ⟨τ', hrun, heq⟩ := h.run
  simp only [List.filterMap_cons, hv, runOps] at hrun
  split at hrun
  · rename_i σ1 h1
    refine wpOp_step hcf h.sr ho hN hcv h1 (h.fresh i List.mem_cons_self v hv) (h.made i List.mem_cons_self v hv) h.tips fun a' w' ⟨G', q1, q2, q3, q4⟩ => ?_
    refine hK _ G' σ1 a' w' ⟨⟨τ', hrun, heq⟩, q1, fun nm => Nat.le_trans (h.tips nm) (stepOp_tips h1 nm), fun j hj => h.lt j (List.mem_cons_of_mem _ hj), fun j hj u hu d hd hdd => ?_, fun j hj => h.made j (List.mem_cons_of_mem _ hj), (List.nodup_cons.1 h.nodup).2⟩ q2 q3 q4
    rcases hdd with hdd | hdd
    · exact h.fresh j (List.mem_cons_of_mem _ hj) u hu d hd hdd
    · have := dsts_apart hnd hv hu hdd hd
      subst this
      exact (List.nodup_cons.1 h.nodup).1 hj
  · cases hrun

/-- In their own order. -/
theorem wpOps_mid (hcf : CallOk P cf) {vs : List VOper} {N S : Nat} (hN : N ≤ S) (hcomp : compileOpers P hh N ops ops.toList = some vs) (hnd : (dstsOf vs).Nodup) {τ : St} {Q : Exit → Act → World → Prop} {a0 : Act} {w0 : World} {G0 : Gh} (hok : GOk G0 w0)
    (hQ : ∀ D' G' σ' a' w', SR D' M G' σ' a'.tmps w' → StEq σ' τ → Fr G0 w0 G' w' → a'.tmps.size = S → a'.defers = a0.defers → Q .normal a' w') :
    ∀ (rem : List Nat) {D : Nat → Prop} {G : Gh} {σ : St} {a : Act} {w : World}, Mid P hh ops cf sg t0 vs D M G σ τ rem a w → Fr G0 w0 G w → a.tmps.size = S → a.defers = a0.defers → wpOps P ops Q rem a w := by
  intro rem
  induction rem with
  | nil =>
    intro D G σ a w h hf hs hd
    obtain ⟨τ', hrun, heq⟩ := h.run
    cases hrun
    exact hQ D G σ a w h.sr heq hf hs hd
  | cons i rem ih =>
    intro D G σ a w h hf hs hd
    rw [wpOps_cons]
    refine h.step hcf (by rw [hs]; exact hN) hcomp hnd fun D' G' σ' a' w' q1 q2 q3 q4 => ih q1 (hf.trans hok q2) (by rw [q3, hs]) (by rw [q4, hd])
end
end Go.VM
