/- The swap of two operations; an operation brought to the front. -/
import Derived.Test.YtndaipcfahfkkaaVM24
namespace Go.VM
open Go.RowKit

structure StEq (σ τ : St) : Prop where
  clk : σ.clk = τ.clk
  tips : σ.tips = τ.tips
  lk : σ.lk = τ.lk
  bx : σ.bx = τ.bx
  env : get σ.env = get τ.env

theorem StEq.refl (σ : St) : StEq σ σ := ⟨rfl, rfl, rfl, rfl, rfl⟩
theorem StEq.symm {σ τ : St} (h : StEq σ τ) : StEq τ σ := ⟨h.clk.symm, h.tips.symm, h.lk.symm, h.bx.symm, h.env.symm⟩
theorem StEq.trans {σ τ υ : St} (h : StEq σ τ) (k : StEq τ υ) : StEq σ υ := ⟨h.clk.trans k.clk, h.tips.trans k.tips, h.lk.trans k.lk, h.bx.trans k.bx, h.env.trans k.env⟩

/-- A function that leaves the shared variables alone and makes none leaves them as they are. -/
def QuietOk (cf : CallF) (sg : Nat → Sig) : Prop := ∀ f vs bx r bx', cf f vs bx = some (r, bx') → (sg f).quiet = true → bx'.length = bx.length → bx' = bx

theorem Agr.symm {o : VOper} {e e' : Nat → V} (h : Agr o e e') : Agr o e' e :=
  ⟨fun s hs => (h.reads s hs).symm, fun s hs => (h.roots s hs).symm, fun s hs => (h.sroot s hs).symm, fun s w hs => (h.guard s w hs).symm, fun d hd => (h.dst d hd).symm, fun av ha l => (h.live av ha l).symm⟩
theorem Agr.of_eq {o : VOper} {e e' : Nat → V} (h : e = e') : Agr o e e' := by
  subst h; exact ⟨fun _ _ => rfl, fun _ _ => rfl, fun _ _ => rfl, fun _ _ _ => rfl, fun _ _ => rfl, fun _ _ _ => rfl⟩

theorem ev_upd_ne {e : Nat → V} {s t : Nat} {v : V} (h : t ≠ s) : ev (upd e s v) (.tmp t) = ev e (.tmp t) := by simp only [ev, upd_other _ _ h]

theorem calmFor_av {op : VOp} {ds : List Nat} (h : op.calmFor ds = true) : ∀ av ∈ op.avs, ∀ d ∈ ds, av.contains d = true := by
  intro av hav d hd
  cases op with
  | load rt agg sz a =>
    cases rt with
    | e av' =>
      simp only [VOp.avs, List.mem_singleton] at hav; subst hav
      simp only [VOp.calmFor, List.all_eq_true] at h
      exact h d hd
    | _ => simp [VOp.avs] at hav
  | toStr x av' =>
    simp only [VOp.avs, List.mem_singleton] at hav; subst hav
    simp only [VOp.calmFor, List.all_eq_true] at h
    exact h d hd
  | append z bytes cut s x av' =>
    simp only [VOp.avs, List.mem_singleton] at hav; subst hav
    simp only [VOp.calmFor, List.all_eq_true] at h
    exact h d hd
  | call f xs q av' =>
    simp only [VOp.avs, List.mem_singleton] at hav; subst hav
    simp only [VOp.calmFor, List.all_eq_true] at h
    exact h d hd
  | callv x xs q av' =>
    simp only [VOp.avs, List.mem_singleton] at hav; subst hav
    simp only [VOp.calmFor, List.all_eq_true] at h
    exact h d hd
  | _ => simp [VOp.avs] at hav
theorem calm_avs {op : VOp} (h : op.calm = true) : op.avs = [] := by
  cases op with
  | load rt agg sz a => cases rt <;> first | rfl | cases h
  | toStr => cases h
  | append => cases h
  | call => cases h
  | callv => cases h
  | _ => rfl

theorem free_upd {e : Nat → V} {s : Nat} {v : V} {av : List Nat} (h : (isReg (e s) = false ∧ isReg v = false) ∨ av.contains s = true) (l : Lab) : l.free e av = l.free (upd e s v) av := by
  cases l with
  | rv t c k =>
    by_cases hts : t = s
    · subst hts
      rcases h with ⟨h1, h2⟩ | h
      · have g1 : (Lab.rv t c k).live e = false := by
          simp only [Lab.live]
          split
          · rename_i hr; rw [hr] at h1; cases h1
          · rfl
        have g2 : (Lab.rv t c k).live (upd e t v) = false := by
          simp only [Lab.live, upd_same]
          split
          · cases h2
          · rfl
        simp only [Lab.free, g1, g2]
      · simp only [Lab.free, h, Bool.not_true, Bool.and_false]
    · simp only [Lab.free, Lab.live, upd_other _ _ hts]
  | _ => rfl

/-- Another slot is written. -/
theorem agr_other {o : VOper} {e : Nat → V} {s : Nat} {v : V} (h1 : s ∉ o.slots) (h2 : storeRoot o.op ≠ some s) (h3 : (isReg (e s) = false ∧ isReg v = false) ∨ o.op.calmFor [s] = true) : Agr o e (upd e s v) := by
  simp only [VOper.slots, List.mem_append, not_or] at h1
  obtain ⟨⟨⟨r1, r2⟩, r3⟩, r4⟩ := h1
  refine ⟨fun t ht => (ev_upd_ne fun (q : t = s) => r1 (q ▸ ht)).symm, fun t ht => (upd_other _ _ fun (q : t = s) => r2 (q ▸ ht)).symm, fun t ht => (upd_other _ _ fun (q : t = s) => h2 (q ▸ ht)).symm, fun t w ht => (upd_other _ _ fun e => r4 (by rw [ht]; simp [e])).symm, fun t ht => by rw [upd_other _ _ fun e => r3 (by rw [ht]; simp [e])], fun av hav l => free_upd ?_ l⟩
  rcases h3 with h3 | h3
  · exact .inl h3
  · exact .inr (calmFor_av h3 av hav s (by simp))

/-- A variable is stored into, and the operation asks nothing of it. -/
theorem agr_store {o : VOper} {e : Nat → V} {s c n : Nat} {cs cs' : List V} (he : e s = .reg c n cs) (h1 : s ∉ o.op.roots) (h2 : storeRoot o.op ≠ some s) (h3 : ∀ w, o.guard ≠ some (s, w)) (h4 : o.op.calm = true) : Agr o e (upd e s (.reg c (n + 1) cs')) := by
  refine ⟨fun t ht => ?_, fun t ht => (upd_other _ _ fun (q : t = s) => h1 (q ▸ ht)).symm, fun t ht => (upd_other _ _ fun (q : t = s) => h2 (q ▸ ht)).symm, fun t w ht => (upd_other _ _ fun (q : t = s) => h3 w (q ▸ ht)).symm, fun t ht => ?_, fun av hav l => by rw [calm_avs h4] at hav; cases hav⟩
  · by_cases hts : t = s
    · subst hts; simp only [ev, he, upd_same]
    · exact (ev_upd_ne hts).symm
  · by_cases hts : t = s
    · subst hts; simp only [he, upd_same]; rfl
    · rw [upd_other _ _ hts]

/-- x is an answer alone, y may be more; what they look at and write is apart. -/
structure Apart (x y : VOper) : Prop where
  p : x.op.isP = true
  t : y.op.tame = true
  xy : ∀ d, x.dst = some d → d ∉ y.slots
  yx : ∀ d, y.dst = some d → d ∉ x.slots
  bx : x.op.looksB = true → y.op.leavesB = true
  root : ∀ s, storeRoot y.op = some s → x.op.calm = true ∧ s ∉ x.op.roots ∧ x.dst ≠ some s ∧ ∀ w, x.guard ≠ some (s, w)
  mx : x.op.makesR = true → y.op.calmFor x.dst.toList = true
  my : y.op.makesR = true → x.op.calmFor y.dst.toList = true

theorem storeRoot_isP {op : VOp} (h : op.isP = true) : storeRoot op = none := by
  cases op <;> first | rfl | cases h
theorem storeRoot_mild {op : VOp} (h : op.mild = true) : storeRoot op = none := by
  cases op with
  | store rt sz a x => cases rt <;> first | rfl | cases h
  | _ => rfl
theorem calm_calmFor {op : VOp} (h : op.calm = true) (ds : List Nat) : op.calmFor ds = true := by
  cases op with
  | load rt agg sz a => cases rt <;> first | rfl | cases h
  | toStr => cases h
  | append => cases h
  | call => cases h
  | callv => cases h
  | _ => rfl

theorem apart_of_besides {x y : VOper} (ha : apart x y = true) (hb : besides x y = true) (hx : (!x.op.makesR || y.op.calmFor x.dst.toList) = true) (hy : (!y.op.makesR || x.op.calmFor y.dst.toList) = true) : Apart x y := by
  simp only [apart, Bool.and_eq_true, List.all_eq_true] at ha
  simp only [besides, Bool.and_eq_true, Bool.or_eq_true] at hb
  obtain ⟨⟨b1, b2⟩, b3⟩ := hb
  simp only [Bool.or_eq_true, Bool.not_eq_true'] at hx hy
  refine ⟨b1, ?_, fun d hd => ?_, fun d hd => ?_, fun h => ?_, fun s hs => ?_, fun h => ?_, fun h => ?_⟩
  · simp only [VOp.tame, Bool.or_eq_true]
    rcases b3 with (h | h) | h
    · exact .inl (.inl h)
    · exact .inl (.inr h)
    · refine .inr ?_
      split at h
      · rename_i hs; rw [hs]; rfl
      · cases h
  · have := ha.1 d (by rw [hd]; simp)
    simpa using this
  · have := ha.2 d (by rw [hd]; simp)
    simpa using this
  · rcases b2 with h2 | h2
    · rw [h] at h2; cases h2
    · exact h2
  · rcases b3 with (h | h) | h
    · rw [storeRoot_isP h] at hs; cases hs
    · rw [storeRoot_mild h] at hs; cases hs
    · rw [hs] at h
      simp only [Bool.and_eq_true, Bool.not_eq_true'] at h
      obtain ⟨h1, h2⟩ := h
      have h2' : s ∉ x.op.roots ++ x.dst.toList ++ (x.guard.map (·.1)).toList := by simpa using h2
      simp only [List.mem_append, not_or] at h2'
      obtain ⟨⟨q1, q2⟩, q3⟩ := h2'
      exact ⟨h1, q1, fun e => q2 (by rw [e]; simp), fun w e => q3 (by rw [e]; simp)⟩
  · rcases hx with h2 | h2
    · rw [h] at h2; cases h2
    · exact h2
  · rcases hy with h2 | h2
    · rw [h] at h2; cases h2
    · exact h2

theorem apart_comm {x y : VOper} (h : apart x y = true) : apart y x = true := by
  simp only [apart, Bool.and_eq_true] at *; exact ⟨h.2, h.1⟩

theorem apart_of_loose {x y : VOper} (h : loose x y = true) : Apart x y ∨ Apart y x := by
  simp only [loose, Bool.and_eq_true, Bool.or_eq_true] at h
  obtain ⟨⟨⟨h1, h2⟩, h3⟩, h4⟩ := h
  rcases h2 with h2 | h2
  · exact .inl (apart_of_besides h1 h2 (by simpa using h3) (by simpa using h4))
  · exact .inr (apart_of_besides (apart_comm h1) h2 (by simpa using h4) (by simpa using h3))

section
variable {cf : CallF} {sg : Nat → Sig} {t0 : Nat → Nat} {σ : St}

theorem append2_bx {d bytes : Nat} {cut : Bool} {z : Nat} {s : V} {m : Nat} {news : List V} {σ' : St} (h : append2 σ d bytes cut z s m news = some σ') : σ'.bx = σ.bx := by
  unfold append2 at h
  split at h
  · split at h
    · split at h <;> cases h <;> rfl
    · cases h
  · split at h
    · cases h; rfl
    · cases h
  · split at h
    · cases h; rfl
    · cases h
  · cases h

theorem callAt_bx (hq : QuietOk cf sg) {d : Option Nat} {f : Nat} {vs : List V} {av : List Nat} {σ' : St} (h : callAt cf sg σ d f vs true av = some σ') : σ'.bx = σ.bx := by
  unfold callAt at h
  cases d with
  | none => cases h
  | some d =>
    simp only at h
    split at h
    · rename_i hc
      cases hr : cf f (handArgs (sg f).cons 0 vs) σ.bx with
      | none => rw [hr] at h; cases h
      | some x =>
        obtain ⟨r, bx⟩ := x
        rw [hr] at h
        simp only at h
        split at h
        · rename_i hg
          cases h
          exact hq _ _ _ _ _ hr (hc.2.2.2.2 trivial) (hg.2.2.2 trivial)
        · cases h
    · cases h

/-- It leaves the shared variables as they are. -/
theorem stepOp_bx (hq : QuietOk cf sg) {o : VOper} (hl : o.op.leavesB = true) {σ' : St} (h : stepOp cf sg t0 σ o = some σ') : σ'.bx = σ.bx := by
  unfold stepOp at h
  split at h
  · split at h
    · cases h
    · obtain ⟨dst, op, guard⟩ := o
      simp only at h hl
      by_cases hp : op.isP = true
      · obtain ⟨d, v, _, _, rfl⟩ := step1_pure hp h
        rfl
      · cases op with
        | store rt sz a x =>
          cases dst with
          | some d => cases h
          | none =>
            simp only [step1] at h
            cases rt with
            | b => cases hl
            | r s =>
              cases e2 : ev (get σ.env) a with
              | rp s' c off =>
                rw [e2] at h
                simp only [storeAt] at h
                split at h
                · split at h
                  · cases h; rfl
                  · cases h
                · cases h
              | _ => rw [e2] at h; cases h
            | e av =>
              cases e2 : ev (get σ.env) a with
              | ep l cs off =>
                rw [e2] at h
                cases l with
                | own nm k =>
                  simp only [storeAt] at h
                  split at h
                  · cases h; rfl
                  · cases h
                | _ => cases h
              | _ => rw [e2] at h; cases h
        | call f args q av =>
          simp only [step1] at h
          cases q with
          | true => exact callAt_bx hq h
          | false => cases hl
        | callv x args q av =>
          simp only [step1] at h
          split at h
          · cases q with
            | true => exact callAt_bx hq h
            | false => cases hl
          · cases h
        | allocB => cases hl
        | boxB => cases hl
        | bslice lky z n zs ps =>
          cases lky with
          | false => exact absurd rfl hp
          | true =>
            simp only [step1] at h
            split at h
            · split at h
              · cases h; rfl
              · cases h
            · cases h
        | append z bytes cut s x av =>
          simp only [step1] at h
          split at h
          · split at h
            · exact append2_bx h
            · cases h
          · cases h
        | _ => exact absurd rfl hp
  · split at h
    · split at h
      · cases h
      · cases h; rfl
    · cases h; rfl
  · cases h

/-- What y writes is nothing to x. -/
theorem agr_x {x y : VOper} (ha : Apart x y) {e : Nat → V} {u : Option (Nat × V)} (h3 : ∀ s v, u = some (s, v) → y.dst = some s ∨ storeRoot y.op = some s) (h4 : ∀ s v, u = some (s, v) → y.op.makesR = false → storeRoot y.op ≠ some s → isReg (e s) = false ∧ isReg v = false)
    (h5 : ∀ s v, u = some (s, v) → y.dst ≠ some s → storeRoot y.op = some s → ∃ c n cs cs', e s = .reg c n cs ∧ v = .reg c (n + 1) cs') : Agr x e (putF u e) := by
  have hsx := storeRoot_isP ha.p
  cases u with
  | none => exact Agr.of_eq rfl
  | some sv =>
    obtain ⟨s, v⟩ := sv
    show Agr x e (upd e s v)
    by_cases hd : y.dst = some s
    · refine agr_other (ha.yx s hd) (by rw [hsx]; simp) ?_
      by_cases hr : storeRoot y.op = some s
      · exact .inr (calm_calmFor (ha.root s hr).1 _)
      · by_cases hm : y.op.makesR = true
        · have := ha.my hm
          rw [hd] at this
          exact .inr this
        · exact .inl (h4 s v rfl (by simpa using hm) hr)
    · have hr := (h3 s v rfl).resolve_left hd
      obtain ⟨c, n, cs, cs', e1, e2⟩ := h5 s v rfl hd hr
      obtain ⟨r1, r2, r3, r4⟩ := ha.root s hr
      rw [e2]
      exact agr_store e1 r2 (by rw [hsx]; simp) r4 r1

/-- What x writes is nothing to y. -/
theorem agr_y {x y : VOper} (ha : Apart x y) {e : Nat → V} {u : Option (Nat × V)} (h3 : ∀ s v, u = some (s, v) → x.dst = some s) (h4 : ∀ s v, u = some (s, v) → x.op.makesR = false → isReg (e s) = false ∧ isReg v = false) : Agr y e (putF u e) := by
  cases u with
  | none => exact Agr.of_eq rfl
  | some sv =>
    obtain ⟨s, v⟩ := sv
    show Agr y e (upd e s v)
    have hd : x.dst = some s := h3 s v rfl
    refine agr_other (ha.xy s hd) (fun hr => (ha.root s hr).2.2.1 hd) ?_
    by_cases hm : x.op.makesR = true
    · have := ha.mx hm
      rw [hd] at this
      exact .inr this
    · exact .inl (h4 s v rfl (by simpa using hm))

/-- The two slots differ. -/
theorem apart_slots {x y : VOper} (ha : Apart x y) {s t : Nat} (hx : x.dst = some s) (hy : y.dst = some t ∨ storeRoot y.op = some t) : s ≠ t := by
  rintro rfl
  rcases hy with hy | hy
  · exact ha.xy s hx (by simp [VOper.slots, hy])
  · exact (ha.root s hy).2.2.1 hx

theorem putF_comm {e : Nat → V} {u w : Option (Nat × V)} (h : ∀ s v t z, u = some (s, v) → w = some (t, z) → s ≠ t) : putF u (putF w e) = putF w (putF u e) := by
  cases u with
  | none => rfl
  | some x =>
    cases w with
    | none => rfl
    | some y =>
      have := h x.1 x.2 y.1 y.2 rfl rfl
      funext t
      simp only [putF, upd]
      by_cases h1 : t = x.1
      · subst h1; simp [this]
      · simp [h1]

theorem putF_get {e : Nat → V} {u : Option (Nat × V)} {t : Nat} (h : ∀ s v, u = some (s, v) → s ≠ t) : putF u e t = e t := by
  cases u with
  | none => rfl
  | some x => exact upd_other _ _ fun e => h x.1 x.2 rfl e.symm

/-- x and then y: also y and then x. -/
theorem swap_xy (hcf : NoReg cf) (hq : QuietOk cf sg) {x y : VOper} (ha : Apart x y) {σ1 σ2 : St} (h1 : stepOp cf sg t0 σ x = some σ1) (h2 : stepOp cf sg t0 σ1 y = some σ2) :
    ∃ σ3 σ4, stepOp cf sg t0 σ y = some σ3 ∧ stepOp cf sg t0 σ3 x = some σ4 ∧ StEq σ4 σ2 := by
  obtain ⟨u, hu, a3, a4, hx2⟩ := stepOp_pure hcf ha.p h1
  obtain ⟨v, b1, b2, b3, b4, b5, b6⟩ := stepOp_par hcf ha.t h2
  have ne : ∀ s z t q, u = some (s, z) → v = some (t, q) → s ≠ t := fun s z t q e1 e2 => apart_slots ha (a3 s z e1) (b3 t q e2)
  have e1 : get σ1.env = putF u (get σ.env) := by rw [hu]; exact get_put _ _
  have agy : Agr y (get σ.env) (get σ1.env) := by rw [e1]; exact agr_y ha a3 a4
  have hy := b6 σ.env agy.symm
  have hσ : ({ σ1 with env := σ.env } : St) = σ := by rw [hu]
  rw [hσ] at hy
  have back : ∀ s z, v = some (s, z) → get σ1.env s = get σ.env s := fun s z e => by rw [e1]; exact putF_get fun t q e2 => ne t q s z e2 e
  have agx : Agr x (get σ.env) (putF v (get σ.env)) := agr_x ha b3 (fun s z e hm hr => by rw [← back s z e]; exact b4 s z e hm hr) (fun s z e hd hr => by rw [← back s z e]; exact b5 s z e hd hr)
  have hstep := hx2 { σ2 with env := put v σ.env } (by show σ2.clk = _; rw [b2, hu]) (fun hl => by
    show σ.bx = σ2.bx
    rw [stepOp_bx hq (ha.bx hl) h2, hu]) (by show Agr x _ (get (put v σ.env)); rw [get_put]; exact agx)
  refine ⟨_, _, hy, hstep, rfl, rfl, rfl, rfl, ?_⟩
  show get (put u (put v σ.env)) = get σ2.env
  rw [get_put, get_put, b1, get_put, e1]
  exact putF_comm ne

/-- y and then x: also x and then y. -/
theorem swap_yx (hcf : NoReg cf) (hq : QuietOk cf sg) {x y : VOper} (ha : Apart x y) {σ1 σ2 : St} (h1 : stepOp cf sg t0 σ y = some σ1) (h2 : stepOp cf sg t0 σ1 x = some σ2) :
    ∃ σ3 σ4, stepOp cf sg t0 σ x = some σ3 ∧ stepOp cf sg t0 σ3 y = some σ4 ∧ StEq σ4 σ2 := by
  obtain ⟨v, b1, b2, b3, b4, b5, b6⟩ := stepOp_par hcf ha.t h1
  obtain ⟨u, hu, a3, a4, hx2⟩ := stepOp_pure hcf ha.p h2
  have ne : ∀ s z t q, u = some (s, z) → v = some (t, q) → s ≠ t := fun s z t q e1 e2 => apart_slots ha (a3 s z e1) (b3 t q e2)
  have e1 : get σ1.env = putF v (get σ.env) := by rw [b1]; exact get_put _ _
  have agx : Agr x (get σ.env) (get σ1.env) := by rw [e1]; exact agr_x ha b3 b4 b5
  have hx := hx2 σ b2.symm (fun hl => stepOp_bx hq (ha.bx hl) h1) agx.symm
  have back : ∀ s z, u = some (s, z) → get σ1.env s = get σ.env s := fun s z e => by rw [e1]; exact putF_get fun t q e2 => (ne s z t q e e2).symm
  have agy : Agr y (get σ.env) (get (put u σ.env)) := by rw [get_put]; exact agr_y ha a3 fun s z e hm => by rw [← back s z e]; exact a4 s z e hm
  have hy := b6 (put u σ.env) agy
  refine ⟨_, _, hx, hy, ?_⟩
  rw [hu]
  refine ⟨rfl, rfl, rfl, rfl, ?_⟩
  show get (put v (put u σ.env)) = get (put u σ1.env)
  rw [get_put, get_put, get_put, e1]
  exact (putF_comm ne).symm

theorem swap_loose (hcf : NoReg cf) (hq : QuietOk cf sg) {x y : VOper} (h : loose x y = true) {σ1 σ2 : St} (h1 : stepOp cf sg t0 σ x = some σ1) (h2 : stepOp cf sg t0 σ1 y = some σ2) :
    ∃ σ3 σ4, stepOp cf sg t0 σ y = some σ3 ∧ stepOp cf sg t0 σ3 x = some σ4 ∧ StEq σ4 σ2 := by
  rcases apart_of_loose h with ha | ha
  · exact swap_xy hcf hq ha h1 h2
  · exact swap_yx hcf hq ha h1 h2

/-- Like states run alike. -/
theorem stepOp_steq (hcf : NoReg cf) {o : VOper} {σ τ σ' : St} (he : StEq σ τ) (h : stepOp cf sg t0 σ o = some σ') : ∃ τ', stepOp cf sg t0 τ o = some τ' ∧ StEq σ' τ' := by
  obtain ⟨c1, e1, t1, l1, b1⟩ := σ
  obtain ⟨c2, e2, t2, l2, b2⟩ := τ
  obtain ⟨h1, h2, h3, h4, h5⟩ := he
  simp only at h1 h2 h3 h4 h5
  subst h1 h2 h3 h4
  have ag : Agr o (get e1) (get e2) := Agr.of_eq h5
  by_cases ht : o.op.tame = true
  · obtain ⟨u, a1, a2, _, _, _, a6⟩ := stepOp_par hcf ht h
    refine ⟨_, a6 e2 ag, rfl, rfl, rfl, rfl, ?_⟩
    show get σ'.env = get (put u e2)
    rw [a1, get_put, get_put, h5]
  · unfold stepOp at h ⊢
    rw [← wantedV_agr ag.guard]
    split at h
    · rename_i hw
      rw [hw]
      simp only at h ⊢
      rw [← regAt_agr ag.dst]
      split at h
      · cases h
      · rename_i hr
        rw [if_neg hr]
        obtain ⟨dst, op, guard⟩ := o
        simp only at h ht ⊢
        cases op with
        | store rt sz a x =>
          cases dst with
          | some d => cases h
          | none =>
            simp only [step1] at h ⊢
            rw [← h5]
            cases rt with
            | r s => exact absurd rfl ht
            | b => exact absurd rfl ht
            | e av =>
              cases e2' : ev (get e1) a with
              | ep l cs off =>
                rw [e2'] at h
                cases l with
                | own nm k =>
                  simp only [storeAt] at h ⊢
                  split at h
                  · rename_i hc
                    cases h
                    rw [if_pos hc]
                    refine ⟨_, rfl, rfl, rfl, rfl, rfl, ?_⟩
                    funext s
                    show get (hitEnv _ _ _ e1) s = get (hitEnv _ _ _ e2) s
                    rw [get_hitEnv, get_hitEnv, h5]
                  · cases h
                | _ => cases h
              | _ => rw [e2'] at h; cases h
        | append z bytes cut s x av =>
          simp only [step1] at h ⊢
          rw [← h5]
          split at h
          · rename_i d m news hsrc
            split at h
            · rename_i hc
              simp only [if_pos hc]
              unfold append2 at h ⊢
              split at h
              · split at h
                · rename_i hc2
                  simp only [if_pos hc2]
                  split at h
                  · rename_i hm; cases h
                    simp only [if_pos hm]
                    exact ⟨_, rfl, rfl, rfl, rfl, rfl, by show get (set e1 _ _) = get (set e2 _ _); rw [get_set_fun, get_set_fun, h5]⟩
                  · rename_i hm; cases h
                    simp only [if_neg hm]
                    exact ⟨_, rfl, rfl, rfl, rfl, rfl, by show get (set e1 _ _) = get (set e2 _ _); rw [get_set_fun, get_set_fun, h5]⟩
                · cases h
              · split at h
                · rename_i hc2; cases h
                  simp only [if_pos hc2]
                  exact ⟨_, rfl, rfl, rfl, rfl, rfl, by show get (set e1 _ _) = get (set e2 _ _); rw [get_set_fun, get_set_fun, h5]⟩
                · cases h
              · split at h
                · rename_i hc2; cases h
                  simp only [if_pos hc2]
                  refine ⟨_, rfl, rfl, rfl, rfl, rfl, ?_⟩
                  show get (set (hitEnv _ _ _ e1) _ _) = get (set (hitEnv _ _ _ e2) _ _)
                  rw [get_set_fun, get_set_fun]
                  congr 1
                  funext s
                  rw [get_hitEnv, get_hitEnv, h5]
                · cases h
              · cases h
            · cases h
          · cases h
        | bslice lky z n zs ps => cases lky <;> exact absurd rfl ht
        | _ => exact absurd rfl ht
    · rename_i hw
      rw [hw]
      simp only at h ⊢
      split at h
      · rename_i d hd
        rw [← h5]
        split at h
        · cases h
        · rename_i hr
          cases h
          rw [if_neg hr]
          exact ⟨_, rfl, rfl, rfl, rfl, rfl, by show get (set e1 _ _) = get (set e2 _ _); rw [get_set_fun, get_set_fun, h5]⟩
      · rename_i hd
        cases h
        exact ⟨_, rfl, rfl, rfl, rfl, rfl, h5⟩
    · cases h

theorem runOps_steq (hcf : NoReg cf) {os : List VOper} {σ τ σ' : St} (he : StEq σ τ) (h : runOps cf sg t0 σ os = some σ') : ∃ τ', runOps cf sg t0 τ os = some τ' ∧ StEq σ' τ' := by
  induction os generalizing σ τ with
  | nil => cases h; exact ⟨τ, rfl, he⟩
  | cons o r ih =>
    simp only [runOps] at h
    split at h
    · rename_i σ1 h1
      obtain ⟨τ1, k1, k2⟩ := stepOp_steq hcf he h1
      obtain ⟨τ', k3, k4⟩ := ih k2 h
      exact ⟨τ', by simp only [runOps, k1]; exact k3, k4⟩
    · cases h

/-- An operation that may go before all that stands ahead of it. -/
theorem bubble (hcf : NoReg cf) (hq : QuietOk cf sg) {o : VOper} {post : List VOper} : ∀ {ahead : List VOper} {σ τ : St}, (∀ p ∈ ahead, loose p o = true) → runOps cf sg t0 σ (ahead ++ o :: post) = some τ → ∃ τ', runOps cf sg t0 σ (o :: (ahead ++ post)) = some τ' ∧ StEq τ' τ
  | [], σ, τ, _, h => ⟨τ, h, StEq.refl τ⟩
  | p :: r, σ, τ, hl, h => by
    simp only [List.cons_append, runOps] at h
    split at h
    · rename_i σ1 h1
      obtain ⟨τ1, h2, h3⟩ := bubble hcf hq (fun q hq' => hl q (List.mem_cons_of_mem _ hq')) h
      simp only [runOps] at h2
      split at h2
      · rename_i σ2 h4
        obtain ⟨σ3, σ4, k1, k2, k3⟩ := swap_loose hcf hq (hl p List.mem_cons_self) h1 h4
        obtain ⟨τ2, k4, k5⟩ := runOps_steq hcf k3.symm h2
        exact ⟨τ2, by simp only [runOps, k1, List.cons_append, k2]; exact k4, k5.symm.trans h3⟩
      · cases h2
    · cases h
end
end Go.VM
