/- Operations that may go in either order. -/
import Derived.Test.YtndaipcfahfkkaaVM22
namespace Go.VM
open Go.RowKit

/-- The lists of variables that an operation asks about. -/
def VOp.avs : VOp → List (List Nat)
  | .load (.e av) _ _ _ | .toStr _ av | .append _ _ _ _ _ av | .call _ _ _ av | .callv _ _ _ av => [av]
  | _ => []

/-- e and e' are one to the operation. -/
structure Agr (o : VOper) (e e' : Nat → V) : Prop where
  reads : ∀ s ∈ o.op.reads, ev e (.tmp s) = ev e' (.tmp s)
  roots : ∀ s ∈ o.op.roots, e s = e' s
  sroot : ∀ s, storeRoot o.op = some s → e s = e' s
  guard : ∀ s w, o.guard = some (s, w) → e s = e' s
  dst : ∀ d, o.dst = some d → isReg (e d) = isReg (e' d)
  live : ∀ av ∈ o.op.avs, ∀ l : Lab, l.free e av = l.free e' av

theorem ev_agr {e e' : Nat → V} {x : Opd} (h : ∀ s ∈ x.slots, ev e (.tmp s) = ev e' (.tmp s)) : ev e x = ev e' x := by
  cases x with
  | tmp t => exact h t (by simp [Opd.slots])
  | const c => rfl
theorem evs_agr {e e' : Nat → V} {xs : List Opd} (h : ∀ s ∈ xs.flatMap Opd.slots, ev e (.tmp s) = ev e' (.tmp s)) : xs.map (ev e) = xs.map (ev e') :=
  List.map_congr_left fun x hx => ev_agr fun s hs => h s (List.mem_flatMap.2 ⟨x, hx, hs⟩)
theorem fill_agr {e e' : Nat → V} {ps : List (Nat × Nat × Opd)} (h : ∀ s ∈ ps.flatMap (fun p => p.2.2.slots), ev e (.tmp s) = ev e' (.tmp s)) : ∀ cs, fill e cs ps = fill e' cs ps := by
  induction ps with
  | nil => intro cs; rfl
  | cons p r ih =>
    intro cs
    obtain ⟨off, sz, x⟩ := p
    have h1 : ev e x = ev e' x := ev_agr fun s hs => h s (List.mem_flatMap.2 ⟨_, List.mem_cons_self, hs⟩)
    simp only [fill, h1]
    rw [ih fun s hs => h s (by rw [List.flatMap_cons]; exact List.mem_append.2 (.inr hs))]
theorem bound_agr {e e' : Nat → V} {x : Option Opd} {n k : Nat} (h : ∀ s ∈ optSlots x, ev e (.tmp s) = ev e' (.tmp s)) : bound x e n k = bound x e' n k := by
  cases x with
  | none => rfl
  | some o =>
    have h1 : ev e o = ev e' o := ev_agr h
    simp only [bound, h1]
theorem bounds_agr {e e' : Nat → V} {lo hi : Option Opd} {n : Nat} (h1 : ∀ s ∈ optSlots lo, ev e (.tmp s) = ev e' (.tmp s)) (h2 : ∀ s ∈ optSlots hi, ev e (.tmp s) = ev e' (.tmp s)) : bounds lo hi e n = bounds lo hi e' n := by
  simp only [bounds, bound_agr h2]
  split
  · rfl
  · rw [bound_agr h1]

section
variable {e e' : Nat → V} {t0 : Nat → Nat} {clk d : Nat} {bx bx' : BX}

theorem pureOp_agr {o : VOper} (h : Agr o e e') (hb : o.op.looksB = true → bx = bx') : pureOp e t0 clk bx d o.op = pureOp e' t0 clk bx' d o.op := by
  obtain ⟨dst, op, guard⟩ := o
  obtain ⟨hr, hro, _, _, _, hl⟩ := h
  simp only at hr hro hl hb ⊢
  have two : ∀ {x y : Opd}, (∀ s ∈ x.slots ++ y.slots, ev e (.tmp s) = ev e' (.tmp s)) → ev e x = ev e' x ∧ ev e y = ev e' y := fun {x y} h =>
    ⟨ev_agr fun s hs => h s (List.mem_append.2 (.inl hs)), ev_agr fun s hs => h s (List.mem_append.2 (.inr hs))⟩
  cases op with
  | mv x => simp only [pureOp, ev_agr (x := x) hr]
  | pick c a b =>
    have h1 : ev e c = ev e' c := ev_agr fun s hs => hr s (by simp [VOp.reads, hs])
    have h2 : ev e a = ev e' a := ev_agr fun s hs => hr s (by simp [VOp.reads, hs])
    have h3 : ev e b = ev e' b := ev_agr fun s hs => hr s (by simp [VOp.reads, hs])
    simp only [pureOp, h1, h2, h3]
  | allocR => rfl
  | boxR sz x => simp only [pureOp, ev_agr (x := x) hr]
  | allocB => rfl
  | boxB => rfl
  | build zs ps => simp only [pureOp, fill_agr (ps := ps) hr]
  | bslice lky z n zs ps =>
    cases lky with
    | true => rfl
    | false => simp only [pureOp, fill_agr (ps := ps) hr]
  | load rt agg sz a =>
    cases rt with
    | r s =>
      have h2 : e s = e' s := hro s (by simp [VOp.roots])
      simp only [pureOp, ev_agr (x := a) hr, h2]
    | b =>
      have h2 := hb rfl
      simp only [pureOp, ev_agr (x := a) hr, h2]
    | e av =>
      have h2 : ∀ l : Lab, l.free e av = l.free e' av := hl av (by simp [VOp.avs])
      simp only [pureOp, ev_agr (x := a) hr, h2]
  | store => rfl
  | nilck x => simp only [pureOp, ev_agr (x := x) hr]
  | bin op x y => simp only [pureOp, (two hr).1, (two hr).2]
  | eq neq k x y => simp only [pureOp, (two hr).1, (two hr).2]
  | unop op x => simp only [pureOp, ev_agr (x := x) hr]
  | convI k x => simp only [pureOp, ev_agr (x := x) hr]
  | convS x => simp only [pureOp, ev_agr (x := x) hr]
  | toStr x av =>
    have h2 : ∀ l : Lab, l.free e av = l.free e' av := hl av (by simp [VOp.avs])
    simp only [pureOp, ev_agr (x := x) hr, h2]
  | toBytes x => simp only [pureOp, ev_agr (x := x) hr]
  | fieldA off x => simp only [pureOp, ev_agr (x := x) hr]
  | field agg off sz x => simp only [pureOp, ev_agr (x := x) hr]
  | idxS z x i => simp only [pureOp, (two hr).1, (two hr).2]
  | idxA len z x i => simp only [pureOp, (two hr).1, (two hr).2]
  | ixA agg len z x i => simp only [pureOp, (two hr).1, (two hr).2]
  | ixS x i => simp only [pureOp, (two hr).1, (two hr).2]
  | cutS x lo hi =>
    have h1 : ev e x = ev e' x := ev_agr fun s hs => hr s (by simp [VOp.reads, hs])
    have h2 : ∀ n, bounds lo hi e n = bounds lo hi e' n := fun n => bounds_agr (fun s hs => hr s (by simp [VOp.reads, hs])) (fun s hs => hr s (by simp [VOp.reads, hs]))
    simp only [pureOp, h1, h2]
  | cut z x lo hi =>
    have h1 : ev e x = ev e' x := ev_agr fun s hs => hr s (by simp [VOp.reads, hs])
    have h2 : ∀ n, bounds lo hi e n = bounds lo hi e' n := fun n => bounds_agr (fun s hs => hr s (by simp [VOp.reads, hs])) (fun s hs => hr s (by simp [VOp.reads, hs]))
    simp only [pureOp, h1, h2]
  | cutR s len z x lo hi =>
    have h1 : ev e x = ev e' x := ev_agr fun s hs => hr s (by simp [VOp.reads, hs])
    have h2 : ∀ n, bounds lo hi e n = bounds lo hi e' n := fun n => bounds_agr (fun s hs => hr s (by simp [VOp.reads, hs])) (fun s hs => hr s (by simp [VOp.reads, hs]))
    have h3 : e s = e' s := hro s (by simp [VOp.roots])
    simp only [pureOp, h1, h2, h3]
  | mkslice z bytes zs l c => simp only [pureOp, (two hr).1, (two hr).2]
  | append => rfl
  | len st x => cases st <;> simp only [pureOp, ev_agr (x := x) hr]
  | lenC => rfl
  | extract i x => simp only [pureOp, ev_agr (x := x) hr]
  | arrptr n z x => simp only [pureOp, ev_agr (x := x) hr]
  | call => rfl
  | callv => rfl
  | fail => rfl
  | mkfn f a b =>
    have h1 : a.map (ev e) = a.map (ev e') := evs_agr fun s hs => hr s (List.mem_append.2 (.inl hs))
    have h2 : b.map (ev e) = b.map (ev e') := evs_agr fun s hs => hr s (List.mem_append.2 (.inr hs))
    simp only [pureOp, h1, h2]
  | mkiface t x => simp only [pureOp, ev_agr (x := x) hr]
  | minmax mx x xs =>
    have h1 : ev e x = ev e' x := ev_agr fun s hs => hr s (List.mem_append.2 (.inl hs))
    have h2 : xs.map (ev e) = xs.map (ev e') := evs_agr fun s hs => hr s (List.mem_append.2 (.inr hs))
    simp only [pureOp, h1, h2]
end

def put (u : Option (Nat × V)) (env : Env) : Env :=
  match u with
  | some (s, v) => set env s v
  | none => env
def putF (u : Option (Nat × V)) (e : Nat → V) : Nat → V :=
  match u with
  | some (s, v) => upd e s v
  | none => e
theorem get_put (u : Option (Nat × V)) (env : Env) : get (put u env) = putF u (get env) := by
  cases u with
  | none => rfl
  | some x => exact get_set_fun _ _ _

/-- An operation that may stand in an open order. -/
def VOp.tame (op : VOp) : Bool := op.isP || op.mild || (storeRoot op).isSome

/-- What it does is a matter of what it looks at; it writes one slot. -/
structure Par (cf : CallF) (sg : Nat → Sig) (t0 : Nat → Nat) (σ : St) (o : VOper) (σ' : St) (u : Option (Nat × V)) : Prop where
  env : σ'.env = put u σ.env
  clk : σ'.clk = σ.clk
  slot : ∀ s v, u = some (s, v) → (o.dst = some s ∧ storeRoot o.op = none) ∨ (storeRoot o.op = some s)
  reg : o.op.makesR = false → storeRoot o.op = none → ∀ s v, u = some (s, v) → isReg (get σ.env s) = false ∧ isReg v = false
  same : ∀ env2, Agr o (get σ.env) (get env2) → stepOp cf sg t0 { σ with env := env2 } o = some { σ' with env := put u env2 }

section
variable {cf : CallF} {sg : Nat → Sig} {t0 : Nat → Nat} {σ : St}

theorem behind_env (σ : St) (used : List Nat) (vs : List V) (d : Nat) (r : V) (bx : BX) : ∃ v, (behind σ used vs d r bx).env = set σ.env d v ∧ (∀ env2, behind { σ with env := env2 } used vs d r bx = { behind σ used vs d r bx with env := set env2 d v }) ∧ (behind σ used vs d r bx).clk = σ.clk :=
  ⟨_, rfl, fun _ => rfl, rfl⟩

theorem argOk_agr {e e' : Nat → V} {av : List Nat} (h : ∀ l : Lab, l.free e av = l.free e' av) : ∀ v, argOk e av v = argOk e' av v := by
  intro v
  cases v with
  | sl l z n cs => cases l <;> first | exact h _ | rfl
  | _ => rfl

theorem packed_not_reg {rs : List V} (h : ∀ v ∈ rs, isReg v = false) : isReg (packed rs) = false := by
  unfold packed
  split
  · exact h _ (by simp)
  · rfl

/-- What a call hands back is no variable of the call's own. -/
def NoReg (cf : CallF) : Prop := ∀ f vs bx r bx', cf f vs bx = some (r, bx') → ∀ v ∈ r.results, isReg v = false

theorem isReg_mapLab (v : V) (g : Lab → Lab) : isReg (v.mapLab g) = isReg v := by cases v <;> rfl

theorem callAt_par (hcf : NoReg cf) {d : Option Nat} {f : Nat} {vs : List V} {q : Bool} {av : List Nat} {σ' : St} (h : callAt cf sg σ d f vs q av = some σ') :
    ∃ s v, d = some s ∧ σ'.env = set σ.env s v ∧ σ'.clk = σ.clk ∧ isReg v = false ∧ ∀ env2, (∀ l : Lab, l.free (get σ.env) av = l.free (get env2) av) → callAt cf sg { σ with env := env2 } d f vs q av = some { σ' with env := set env2 s v } := by
  unfold callAt at h ⊢
  cases d with
  | none => cases h
  | some d =>
    simp only at h ⊢
    split at h
    · rename_i hc
      cases hr : cf f (handArgs (sg f).cons 0 vs) σ.bx with
      | none => rw [hr] at h; cases h
      | some x =>
        obtain ⟨r, bx⟩ := x
        rw [hr] at h
        simp only at h
        split at h
        · rename_i hg
          cases h
          refine ⟨d, _, rfl, rfl, rfl, ?_, fun env2 hl => ?_⟩
          · refine packed_not_reg fun v hv => ?_
            obtain ⟨u, hu, rfl⟩ := List.mem_map.1 hv
            rw [isReg_mapLab]
            exact hcf _ _ _ _ _ hr u hu
          · rw [if_pos ⟨hc.1, by
              have := hc.2.1
              rw [List.all_eq_true] at this ⊢
              exact fun v hv => by rw [← argOk_agr hl]; exact this v hv, hc.2.2⟩]
            simp only [if_pos hg]
            rfl
        · cases h
    · cases h

theorem source_agr {e e' : Nat → V} {av : List Nat} {z : Nat} {v : V} (h : ∀ l : Lab, l.free e av = l.free e' av) : source e av z v = source e' av z v := by
  unfold source
  cases v <;> simp only [h]

theorem append2_par {d bytes : Nat} {z : Nat} {s : V} {m : Nat} {news : List V} {σ' : St} (h : append2 σ d bytes false z s m news = some σ') :
    ∃ v, σ'.env = set σ.env d v ∧ σ'.clk = σ.clk ∧ isReg v = false ∧ ∀ env2, append2 { σ with env := env2 } d bytes false z s m news = some { σ' with env := set env2 d v } := by
  unfold append2 at h ⊢
  split at h
  · split at h
    · rename_i hc
      split at h
      · rename_i hm; cases h; exact ⟨_, rfl, rfl, rfl, fun env2 => by simp only [if_pos hc, if_pos hm]⟩
      · rename_i hm; cases h; exact ⟨_, rfl, rfl, rfl, fun env2 => by simp only [if_pos hc, if_neg hm]⟩
    · cases h
  · split at h
    · rename_i hc
      cases h; exact ⟨_, rfl, rfl, rfl, fun env2 => by simp only [if_pos hc]⟩
    · cases h
  · split at h
    · rename_i hc; cases hc.1
    · cases h
  · cases h

theorem part_not_reg {agg : Bool} {off sz : Nat} {cs : List V} {v : V} (h : part agg off sz cs = some v) : isReg v = false := by
  unfold part wrapAgg at h
  split at h
  · split at h
    · cases h; rfl
    · split at h
      · split at h
        · rename_i hu
          cases h
          cases v <;> first | rfl | cases hu
        · cases h
      · cases h
  · cases h
theorem ev_not_reg (e : Nat → V) (t : Nat) : isReg (ev e (.tmp t)) = false := by
  simp only [ev]
  split
  · rfl
  · rename_i hn
    cases h : e t <;> first | rfl | exact absurd h (hn _ _ _)
end
end Go.VM
