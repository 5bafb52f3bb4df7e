/- Two operations that may go in either order: the swap. -/
import Derived.Test.YtndaipcfahfkkaaVM23
namespace Go.VM
open Go.RowKit

theorem ok_not_reg {v : V} (h : v.ok = true) : isReg v = false := by cases v <;> first | rfl | cases h

section
variable {e : Nat → V} {t0 : Nat → Nat} {clk d : Nat} {bx : BX}

theorem pureOp_not_reg {vo : VOp} {v : V} (h : pureOp e t0 clk bx d vo = some v) (hm : vo.makesR = false) : isReg v = false := by
  cases vo with
  | mv x =>
    simp only [pureOp] at h
    split at h
    · cases h
    · cases h
    · rename_i hn
      cases h
      cases hv : ev e x <;> first | rfl | exact absurd hv (hn _ _ _)
  | pick c a b =>
    simp only [pureOp] at h
    split at h
    · rename_i t _
      by_cases hk : (if t = true then ev e a else ev e b).ok = true
      · rw [if_pos hk] at h; cases h; exact ok_not_reg hk
      · rw [if_neg hk] at h; cases h
    · cases h
  | allocR => cases hm
  | boxR => cases hm
  | build zs ps =>
    simp only [pureOp] at h
    obtain ⟨_, _, rfl⟩ := Option.map_eq_some_iff.1 h
    rfl
  | bslice lky z n zs ps =>
    cases lky with
    | true => cases h
    | false =>
      simp only [pureOp] at h
      split at h
      · split at h
        · cases h; rfl
        · cases h
      · cases h
  | load rt agg sz a =>
    cases rt with
    | r s =>
      simp only [pureOp] at h
      split at h
      · split at h
        · split at h
          · exact part_not_reg h
          · cases h
        · cases h
      · cases h
    | b =>
      simp only [pureOp] at h
      split at h
      · split at h
        · exact part_not_reg h
        · cases h
      · cases h
    | e av =>
      simp only [pureOp] at h
      split at h
      · split at h
        · exact part_not_reg h
        · cases h
      · cases h
  | bin op x y =>
    simp only [pureOp, binV] at h
    split at h
    · split at h
      · simp only [shiftOp] at h
        split at h
        · cases h
        · cases h; rfl
      · simp only [shiftOp] at h
        split at h
        · cases h
        · cases h; rfl
      · split at h
        · unfold intOp at h
          split at h
          all_goals first
            | (cases h; rfl)
            | (split at h
               · cases h
               · cases h; rfl)
            | cases h
        · cases h
    · unfold strOp at h
      split at h
      all_goals first
        | (cases h; rfl)
        | (split at h
           · cases h; rfl
           · cases h)
        | cases h
    · cases h
  | eq neq k x y =>
    simp only [pureOp] at h
    obtain ⟨_, _, rfl⟩ := Option.map_eq_some_iff.1 h
    rfl
  | unop op x =>
    simp only [pureOp] at h
    unfold unV at h
    split at h <;> cases h <;> rfl
  | minmax mx x xs =>
    simp only [pureOp] at h
    split at h
    · cases h
    · rename_i hn
      cases v <;> first | rfl | exact absurd h (hn _ _ _)
  | field agg off sz x =>
    simp only [pureOp] at h
    split at h
    · exact part_not_reg h
    · cases h
  | ixA agg len z x i =>
    simp only [pureOp] at h
    split at h
    · split at h
      · exact part_not_reg h
      · cases h
    · cases h
  | extract i x =>
    simp only [pureOp] at h
    split at h
    · split at h
      · split at h
        · rename_i hk; cases h; exact ok_not_reg hk
        · cases h
      · cases h
    · cases h
  | len st x =>
    cases st <;> simp only [pureOp] at h <;> split at h <;> first | (cases h; rfl) | cases h
  | ixS x i =>
    simp only [pureOp] at h
    split at h
    · split at h
      · obtain ⟨_, _, rfl⟩ := Option.map_eq_some_iff.1 h
        rfl
      · cases h
    · cases h
  | toStr x av =>
    simp only [pureOp] at h
    split at h
    · cases h; rfl
    · split at h
      · obtain ⟨_, _, rfl⟩ := Option.map_eq_some_iff.1 h
        rfl
      · cases h
    · cases h
  | _ =>
    simp only [pureOp] at h
    repeat' first
      | (cases h; done)
      | (cases h; rfl)
      | split at h
end

section
variable {cf : CallF} {sg : Nat → Sig} {t0 : Nat → Nat} {σ : St}

/-- What an operation does, as a matter of what it looks at. -/
theorem step1_par (hcf : NoReg cf) {o : VOper} (ht : o.op.tame = true) {σ' : St} (h : step1 cf sg σ t0 o.dst o.op = some σ') :
    ∃ u, σ'.env = put u σ.env ∧ σ'.clk = σ.clk ∧ (∀ s v, u = some (s, v) → o.dst = some s ∨ storeRoot o.op = some s) ∧ (∀ s v, u = some (s, v) → o.op.makesR = false → storeRoot o.op ≠ some s → isReg v = false) ∧
      (∀ s v, u = some (s, v) → storeRoot o.op = some s → ∃ c n cs cs', get σ.env s = .reg c n cs ∧ v = .reg c (n + 1) cs') ∧
      ∀ env2, Agr o (get σ.env) (get env2) → step1 cf sg { σ with env := env2 } t0 o.dst o.op = some { σ' with env := put u env2 } := by
  by_cases hp : o.op.isP = true
  · obtain ⟨d, v, hd, hv, rfl⟩ := step1_pure hp h
    have hsr : storeRoot o.op = none := by
      cases hop : o.op <;> first | rfl | (rw [hop] at hp; cases hp)
    refine ⟨some (d, v), rfl, rfl, fun s v' e => by cases e; exact .inl hd, fun s v' e hm _ => by cases e; exact pureOp_not_reg hv hm, fun s v' _ e2 => (by rw [hsr] at e2; cases e2), fun env2 ha => ?_⟩
    rw [step1_answer hp]
    simp only [answer, hd]
    rw [← pureOp_agr ha (fun _ => rfl), hv]
    rfl
  · obtain ⟨dst, op, guard⟩ := o
    simp only at h ht hp ⊢
    cases op with
    | store rt sz x y =>
      cases dst with
      | some d => cases h
      | none =>
        simp only [step1] at h
        cases rt with
        | r s =>
          cases e2 : ev (get σ.env) x with
          | rp s' c off =>
            rw [e2] at h
            simp only [storeAt] at h
            split at h
            · rename_i c' n cs e3
              split at h
              · rename_i hc
                cases h
                obtain ⟨rfl, rfl, hf⟩ := hc
                refine ⟨some (s, .reg c (n + 1) (splice cs off (ev (get σ.env) y).cells)), rfl, rfl, fun s' v e => by cases e; exact .inr rfl, fun s' v e _ hn => by cases e; exact absurd rfl hn, fun s' v e _ => by cases e; exact ⟨c, n, cs, _, e3, rfl⟩, fun env2 ha => ?_⟩
                have h1 : ev (get σ.env) x = ev (get env2) x := ev_agr fun s hs => ha.reads s (List.mem_append.2 (.inl hs))
                have h2 : ev (get σ.env) y = ev (get env2) y := ev_agr fun s hs => ha.reads s (List.mem_append.2 (.inr hs))
                have h3 := ha.sroot s rfl
                simp only [step1, ← h1, ← h2, e2, storeAt, ← h3, e3]
                rw [if_pos ⟨trivial, trivial, hf⟩]
                rfl
              · cases h
            · cases h
          | _ => rw [e2] at h; cases h
        | b =>
          cases e2 : ev (get σ.env) x with
          | bp b off =>
            rw [e2] at h
            simp only [storeAt] at h
            split at h
            · rename_i cs e3
              split at h
              · rename_i hf
                cases h
                refine ⟨none, rfl, rfl, fun s' v e => (nomatch e), fun s' v e => (nomatch e), fun s' v e => (nomatch e), fun env2 ha => ?_⟩
                have h1 : ev (get σ.env) x = ev (get env2) x := ev_agr fun s hs => ha.reads s (List.mem_append.2 (.inl hs))
                have h2 : ev (get σ.env) y = ev (get env2) y := ev_agr fun s hs => ha.reads s (List.mem_append.2 (.inr hs))
                simp only [step1, ← h1, ← h2, e2, storeAt, e3, if_pos hf]
                rfl
              · cases h
            · cases h
          | _ => rw [e2] at h; cases h
        | e av => cases ht
    | call f args q av =>
      simp only [step1] at h
      obtain ⟨s, v, h1, h2, h3, h4, h5⟩ := callAt_par hcf h
      refine ⟨some (s, v), h2, h3, fun s' v' e => by cases e; exact .inl h1, fun s' v' e _ _ => by cases e; exact h4, fun s' v' _ e2 => (nomatch e2), fun env2 ha => ?_⟩
      have h6 : args.map (ev (get σ.env)) = args.map (ev (get env2)) := evs_agr ha.reads
      simp only [step1, ← h6]
      exact h5 env2 (ha.live av (by simp [VOp.avs]))
    | callv x args q av =>
      simp only [step1] at h
      split at h
      · rename_i f first cap e1
        obtain ⟨s, v, h1, h2, h3, h4, h5⟩ := callAt_par hcf h
        refine ⟨some (s, v), h2, h3, fun s' v' e => by cases e; exact .inl h1, fun s' v' e _ _ => by cases e; exact h4, fun s' v' _ e2 => (nomatch e2), fun env2 ha => ?_⟩
        have h6 : args.map (ev (get σ.env)) = args.map (ev (get env2)) := evs_agr fun s hs => ha.reads s (List.mem_append.2 (.inr hs))
        have h7 : ev (get σ.env) x = ev (get env2) x := ev_agr fun s hs => ha.reads s (List.mem_append.2 (.inl hs))
        simp only [step1, ← h6, ← h7, e1]
        exact h5 env2 (ha.live av (by simp [VOp.avs]))
      · cases h
    | allocB zs =>
      simp only [step1] at h
      cases dst with
      | none => cases h
      | some d =>
        cases h
        exact ⟨some (d, .bp σ.bx.length 0), rfl, rfl, fun s v e => by cases e; exact .inl rfl, fun s v e _ _ => by cases e; rfl, fun s' v' _ e2 => (nomatch e2), fun env2 ha => rfl⟩
    | boxB sz x =>
      simp only [step1] at h
      cases dst with
      | none => cases h
      | some d =>
        simp only at h
        split at h
        · rename_i hf
          cases h
          refine ⟨some (d, .bp σ.bx.length 0), rfl, rfl, fun s v e => by cases e; exact .inl rfl, fun s v e _ _ => by cases e; rfl, fun s' v' _ e2 => (nomatch e2), fun env2 ha => ?_⟩
          have h1 : ev (get σ.env) x = ev (get env2) x := ev_agr ha.reads
          simp only [step1, ← h1, if_pos hf]
          rfl
        · cases h
    | bslice lky z n zs ps =>
      cases lky with
      | false => exact absurd rfl hp
      | true =>
        simp only [step1] at h
        split at h
        · rename_i d cs hf
          split at h
          · rename_i hc
            cases h
            refine ⟨some (d, _), rfl, rfl, fun s v e => by cases e; exact .inl rfl, fun s v e _ _ => by cases e; rfl, fun s' v' _ e2 => (nomatch e2), fun env2 ha => ?_⟩
            have h1 := fill_agr (e := get σ.env) (e' := get env2) ha.reads ((List.replicate n zs).flatten)
            simp only [step1, ← h1, hf, if_pos hc]
            rfl
          · cases h
        · cases h
    | append z bytes cut s x av =>
      cases cut with
      | true => cases ht
      | false =>
        simp only [step1] at h
        split at h
        · rename_i d m news hsrc
          split at h
          · rename_i hc
            obtain ⟨v, h1, h2, h3, h4⟩ := append2_par h
            refine ⟨some (d, v), h1, h2, fun s v e => by cases e; exact .inl rfl, fun s v e _ _ => by cases e; exact h3, fun s' v' _ e2 => (nomatch e2), fun env2 ha => ?_⟩
            have k1 : ev (get σ.env) s = ev (get env2) s := ev_agr fun s hs => ha.reads s (List.mem_append.2 (.inl hs))
            have k2 : ev (get σ.env) x = ev (get env2) x := ev_agr fun s hs => ha.reads s (List.mem_append.2 (.inr hs))
            have k3 : source (get env2) av z (ev (get env2) x) = some (m, news) := by
              rw [← k2, ← source_agr (ha.live av (by simp [VOp.avs]))]; exact hsrc
            simp only [step1, k3, if_pos hc, ← k1]
            exact h4 env2
          · cases h
        · cases h
    | _ => exact absurd rfl hp

theorem wantedV_agr {e e' : Nat → V} {g : Option (Nat × Bool)} (h : ∀ s w, g = some (s, w) → e s = e' s) : wantedV e g = wantedV e' g := by
  cases g with
  | none => rfl
  | some x => obtain ⟨s, w⟩ := x; simp only [wantedV, h s w rfl]
theorem regAt_agr {e e' : Nat → V} {d : Option Nat} (h : ∀ s, d = some s → isReg (e s) = isReg (e' s)) : regAt e d = regAt e' d := by
  cases d with
  | none => rfl
  | some s => simp only [regAt, h s rfl]

/-- .. with its guard. -/
theorem stepOp_par (hcf : NoReg cf) {o : VOper} (ht : o.op.tame = true) {σ' : St} (h : stepOp cf sg t0 σ o = some σ') :
    ∃ u, σ'.env = put u σ.env ∧ σ'.clk = σ.clk ∧ (∀ s v, u = some (s, v) → o.dst = some s ∨ storeRoot o.op = some s) ∧ (∀ s v, u = some (s, v) → o.op.makesR = false → storeRoot o.op ≠ some s → isReg (get σ.env s) = false ∧ isReg v = false) ∧
      (∀ s v, u = some (s, v) → o.dst ≠ some s → storeRoot o.op = some s → ∃ c n cs cs', get σ.env s = .reg c n cs ∧ v = .reg c (n + 1) cs') ∧
      ∀ env2, Agr o (get σ.env) (get env2) → stepOp cf sg t0 { σ with env := env2 } o = some { σ' with env := put u env2 } := by
  unfold stepOp at h
  split at h
  · rename_i hw
    split at h
    · cases h
    · rename_i hr
      obtain ⟨u, h1, h2, h3, h4, h5, h6⟩ := step1_par hcf ht h
      refine ⟨u, h1, h2, h3, fun s v e hm hs => ⟨?_, h4 s v e hm hs⟩, fun s v e _ hs => h5 s v e hs, fun env2 ha => ?_⟩
      · have hd := (h3 s v e).resolve_right hs
        rw [hd, hm] at hr
        simpa [regAt] using hr
      · unfold stepOp
        rw [← wantedV_agr ha.guard, hw]
        simp only
        rw [← regAt_agr ha.dst, if_neg hr]
        exact h6 env2 ha
  · rename_i hw
    split at h
    · rename_i d hd
      split at h
      · cases h
      · rename_i hr
        cases h
        refine ⟨some (d, .tup []), rfl, rfl, fun s v e => by cases e; exact .inl hd, fun s v e _ _ => by cases e; exact ⟨by simpa using hr, rfl⟩, fun s v e hn _ => by cases e; exact absurd hd hn, fun env2 ha => ?_⟩
        unfold stepOp
        rw [← wantedV_agr ha.guard, hw]
        simp only [hd]
        rw [if_neg (by rw [← ha.dst d hd]; exact hr)]
        rfl
    · rename_i hd
      cases h
      refine ⟨none, rfl, rfl, fun s v e => (nomatch e), fun s v e => (nomatch e), fun s v e => (nomatch e), fun env2 ha => ?_⟩
      unfold stepOp
      rw [← wantedV_agr ha.guard, hw]
      simp only [hd]
      rfl
  · cases h

theorem tame_of_isP {op : VOp} (h : op.isP = true) : op.tame = true := by simp [VOp.tame, h]

/-- One that only answers leaves all but its slot as it is, and does not look at the table. -/
theorem stepOp_pure (hcf : NoReg cf) {o : VOper} (hp : o.op.isP = true) {σ' : St} (h : stepOp cf sg t0 σ o = some σ') :
    ∃ u, σ' = { σ with env := put u σ.env } ∧ (∀ s v, u = some (s, v) → o.dst = some s) ∧ (∀ s v, u = some (s, v) → o.op.makesR = false → isReg (get σ.env s) = false ∧ isReg v = false) ∧ ∀ σ2 : St, σ2.clk = σ.clk → (o.op.looksB = true → σ.bx = σ2.bx) → Agr o (get σ.env) (get σ2.env) → stepOp cf sg t0 σ2 o = some { σ2 with env := put u σ2.env } := by
  unfold stepOp at h
  split at h
  · rename_i hw
    split at h
    · cases h
    · rename_i hr
      obtain ⟨d, v, hd, hv, rfl⟩ := step1_pure hp h
      refine ⟨some (d, v), rfl, fun s v' e => by cases e; exact hd, fun s v' e hm => by cases e; exact ⟨by rw [hd, hm] at hr; simpa [regAt] using hr, pureOp_not_reg hv hm⟩, fun σ2 hc hb ha => ?_⟩
      unfold stepOp
      rw [← wantedV_agr ha.guard, hw]
      simp only
      rw [← regAt_agr ha.dst, if_neg hr, step1_answer hp]
      simp only [answer, hd]
      rw [hc, ← pureOp_agr ha hb, hv]
      rfl
  · rename_i hw
    split at h
    · rename_i d hd
      split at h
      · cases h
      · rename_i hr
        cases h
        refine ⟨some (d, .tup []), rfl, fun s v e => by cases e; exact hd, fun s v e _ => by cases e; exact ⟨by simpa using hr, rfl⟩, fun σ2 hc hb ha => ?_⟩
        unfold stepOp
        rw [← wantedV_agr ha.guard, hw]
        simp only [hd]
        rw [if_neg (by rw [← ha.dst d hd]; exact hr)]
        rfl
    · rename_i hd
      cases h
      refine ⟨none, rfl, fun s v e => (nomatch e), fun s v e => (nomatch e), fun σ2 hc hb ha => ?_⟩
      unfold stepOp
      rw [← wantedV_agr ha.guard, hw]
      simp only [hd]
      rfl
  · cases h
end
end Go.VM
