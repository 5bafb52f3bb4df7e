/- What calls hand back is no variable of the call's own; a function that leaves the shared variables alone. -/
import Derived.Test.YtndaipcfahfkkaaVM28
namespace Go.VM
open Go.RowKit

theorem isReg_number1 (i : Nat) (v : V) : isReg (number1 i v).1 = isReg v := by
  unfold number1
  split <;> rfl
theorem isReg_number (i : Nat) (v : V) : isReg (number i v).1 = isReg v := by
  cases v with
  | agg => rfl
  | _ => exact isReg_number1 i _
theorem isReg_numberAll {vs : List V} (h : ∀ v ∈ vs, isReg v = false) : ∀ i, ∀ v ∈ numberAll i vs, isReg v = false := by
  induction vs with
  | nil => intro i v hv; cases hv
  | cons u r ih =>
    intro i v hv
    simp only [numberAll, List.mem_cons] at hv
    rcases hv with rfl | hv
    · rw [isReg_number]; exact h u List.mem_cons_self
    · exact ih (fun x hx => h x (List.mem_cons_of_mem _ hx)) _ v hv

theorem resVals_ok {e : Nat → V} {rs : List RV} {vs : List V} (h : resVals e rs = some vs) : ∀ v ∈ vs, v.ok = true := by
  induction rs generalizing vs with
  | nil => cases h; intro v hv; cases hv
  | cons r rs ih =>
    cases r with
    | tmp t =>
      simp only [resVals] at h
      split at h
      · rename_i hk
        obtain ⟨us, h1, rfl⟩ := Option.map_eq_some_iff.1 h
        intro v hv
        rcases List.mem_cons.1 hv with rfl | hv
        · exact hk
        · exact ih h1 v hv
      · cases h
    | cell agg sz t =>
      simp only [resVals] at h
      split at h
      · split at h
        · split at h
          · rename_i hk
            obtain ⟨us, h1, rfl⟩ := Option.map_eq_some_iff.1 h
            intro v hv
            rcases List.mem_cons.1 hv with rfl | hv
            · exact hk
            · exact ih h1 v hv
          · cases h
        · cases h
      · cases h

theorem results_packed {vs : List V} (h : ∀ v ∈ vs, ∀ us, v ≠ .tup us) : (packed vs).results = vs := by
  unfold packed
  split
  · rename_i v
    have := h v (by simp)
    cases v <;> first | rfl | exact absurd rfl (this _)
  · rfl

theorem tup_mapLab {v : V} {g : Lab → Lab} (h : ∀ us, v ≠ .tup us) : ∀ us, v.mapLab g ≠ .tup us := by
  cases v <;> first | exact absurd rfl (h _) | (intro us e; cases e)
theorem tup_number {v : V} {i : Nat} (h : ∀ us, v ≠ .tup us) : ∀ us, (number i v).1 ≠ .tup us := by
  have one : ∀ us, (number1 i v).1 ≠ .tup us := by
    intro us
    unfold number1
    split
    · intro e; cases e
    · exact h us
  cases v with
  | agg => intro us e; cases e
  | _ => exact one
theorem tup_numberAll {vs : List V} (h : ∀ v ∈ vs, ∀ us, v ≠ .tup us) : ∀ i, ∀ v ∈ numberAll i vs, ∀ us, v ≠ .tup us := by
  induction vs with
  | nil => intro i v hv; cases hv
  | cons u r ih =>
    intro i v hv
    simp only [numberAll, List.mem_cons] at hv
    rcases hv with rfl | hv
    · exact tup_number (h u List.mem_cons_self)
    · exact ih (fun x hx => h x (List.mem_cons_of_mem _ hx)) _ v hv

theorem finish_results {T : Nat → Nat} {lk : Nat → Bool} {vs : List V} (h : ∀ v ∈ vs, v.ok = true) : (packed (finish T lk vs)).results = finish T lk vs ∧ ∀ v ∈ finish T lk vs, isReg v = false := by
  constructor
  · refine results_packed (tup_numberAll (fun v hv => ?_) 0)
    obtain ⟨u, hu, rfl⟩ := List.mem_map.1 hv
    exact tup_mapLab (V.ok_known (h u hu)).2
  · refine isReg_numberAll (fun v hv => ?_) 0
    obtain ⟨u, hu, rfl⟩ := List.mem_map.1 hv
    rw [isReg_mapLab]
    exact ok_not_reg (h u hu)

theorem endOf_inv {vf : VF} {n : Nat} {x : Option (Ex × St)} {r : V} {bx' : BX} (h : endOf vf n x = some (r, bx')) :
    ∃ e τ vs, x = some (e, τ) ∧ (e = .nrm ∨ e = .ret) ∧ resVals (get τ.env) vf.res = some vs ∧ r = packed (finish τ.tips τ.lk vs) ∧ bx' = keepBoxes n (finish τ.tips τ.lk vs) τ.bx := by
  unfold endOf at h
  split at h
  · rename_i τ
    split at h
    · rename_i vs hv; cases h; exact ⟨_, τ, vs, rfl, .inl rfl, hv, rfl, rfl⟩
    · cases h
  · rename_i τ
    split at h
    · rename_i vs hv; cases h; exact ⟨_, τ, vs, rfl, .inr rfl, hv, rfl, rfl⟩
    · cases h
  · cases h

/-- A function of Go's library, told of by what it answers. -/
structure PrimOk (P : Program) (f : Nat) (cons : List Nat) (p : List V → Option V) : Prop where
  reg : ∀ vs r, p vs = some r → ∀ v ∈ r.results, isReg v = false
  call : ∀ vs r, p vs = some r → ∀ G w cs bx, Start G w vs cs bx → Invokes P f cs.toArray w fun c w' => ∃ rcs G' lk, c = packC rcs ∧ Ret G w G' lk w' r.results rcs bx bx

/-- The table is the program's. -/
def TableOk (P : Program) (F : Nat → Option Entry) : Prop := ∀ f e, F f = some e → match e with
  | .code vf => ∃ fn hh, P.funcs[f]? = some fn ∧ compileFn P hh vf.kept vf.cons fn = some vf
  | .prim cons p => PrimOk P f cons p

theorem noReg_call {P : Program} {F : Nat → Option Entry} (hF : TableOk P F) (n : Nat) : NoReg (call F n) := by
  intro f vs bx r bx' h
  cases n with
  | zero => cases h
  | succ n =>
    unfold call at h
    split at h
    · obtain ⟨e, τ, us, _, _, h1, rfl, _⟩ := endOf_inv h
      obtain ⟨k1, k2⟩ := finish_results (T := τ.tips) (lk := τ.lk) (resVals_ok h1)
      rw [k1]; exact k2
    · rename_i cons p hf
      obtain ⟨v, h1, h2⟩ := Option.map_eq_some_iff.1 h
      cases h2
      exact (hF f _ hf).reg _ _ h1
    · cases h

/- a quiet function -/
section
variable {cf : CallF} {sg : Nat → Sig} {t0 : Nat → Nat}

theorem stepOp_grows (hq : QuietOk cf sg) {o : VOper} {σ σ' : St} (hl : o.op.quiet = true) (h : stepOp cf sg t0 σ o = some σ') : ∃ ext, σ'.bx = σ.bx ++ ext := by
  by_cases hb : o.op.leavesB = true
  · exact ⟨[], by rw [stepOp_bx hq hb h]; simp⟩
  · unfold stepOp at h
    split at h
    · split at h
      · cases h
      · obtain ⟨dst, op, guard⟩ := o
        simp only at h hl hb
        cases op with
        | store rt sz a x => cases rt <;> first | exact absurd rfl hb | cases hl
        | call f args q av => exact absurd hl hb
        | callv x args q av => exact absurd hl hb
        | allocB zs =>
          simp only [step1] at h
          split at h
          · cases h; exact ⟨_, rfl⟩
          · cases h
        | boxB sz x =>
          simp only [step1] at h
          split at h
          · split at h
            · cases h; exact ⟨_, rfl⟩
            · cases h
          · cases h
        | _ => exact absurd rfl hb
    · split at h
      · split at h
        · cases h
        · cases h; exact ⟨[], by simp⟩
      · cases h; exact ⟨[], by simp⟩
    · cases h

theorem runOps_grows (hq : QuietOk cf sg) {os : List VOper} {σ σ' : St} (hl : (os.all fun o => o.op.quiet) = true) (h : runOps cf sg t0 σ os = some σ') : ∃ ext, σ'.bx = σ.bx ++ ext := by
  induction os generalizing σ with
  | nil => cases h; exact ⟨[], by simp⟩
  | cons o r ih =>
    simp only [List.all_cons, Bool.and_eq_true] at hl
    simp only [runOps] at h
    split at h
    · rename_i σ1 h1
      obtain ⟨x1, e1⟩ := stepOp_grows hq hl.1 h1
      obtain ⟨x2, e2⟩ := ih hl.2 h
      exact ⟨x1 ++ x2, by rw [e2, e1, List.append_assoc]⟩
    · cases h

theorem exec_grows (hq : QuietOk cf sg) {m : Nat} : ∀ {v : VC}, v.quiet = true → ∀ {σ : St} {e : Ex} {τ : St}, exec cf sg m v σ = some (e, τ) → ∃ ext, τ.bx = σ.bx ++ ext
  | .skip, _, σ, e, τ, h => by cases h; exact ⟨[], by simp⟩
  | .region ops, hl, σ, e, τ, h => by
    simp only [exec] at h
    obtain ⟨τ', h2, h3⟩ := Option.map_eq_some_iff.1 h
    cases h3
    unfold runRegion at h2
    split at h2
    · rename_i τ1 hr
      cases h2
      obtain ⟨x, e⟩ := runOps_grows hq hl hr
      exact ⟨x, e⟩
    · cases h2
  | .seq x y, hl, σ, e, τ, h => by
    simp only [VC.quiet, Bool.and_eq_true] at hl
    simp only [exec] at h
    cases hex : exec cf sg m x σ with
    | none => rw [hex] at h; cases h
    | some r =>
      obtain ⟨e1, σ1⟩ := r
      obtain ⟨x1, q1⟩ := exec_grows hq hl.1 hex
      rw [hex] at h
      cases e1 with
      | nrm =>
        obtain ⟨x2, q2⟩ := exec_grows hq hl.2 h
        exact ⟨x1 ++ x2, by rw [q2, q1, List.append_assoc]⟩
      | exit id => cases h; exact ⟨x1, q1⟩
      | ret => cases h; exact ⟨x1, q1⟩
  | .cond c x y, hl, σ, e, τ, h => by
    simp only [VC.quiet, Bool.and_eq_true] at hl
    simp only [exec] at h
    split at h
    · exact exec_grows hq hl.1 h
    · exact exec_grows hq hl.2 h
    · cases h
  | .block id x, hl, σ, e, τ, h => by
    simp only [exec] at h
    cases hex : exec cf sg m x σ with
    | none => rw [hex] at h; cases h
    | some r =>
      obtain ⟨e1, σ1⟩ := r
      obtain ⟨x1, q1⟩ := exec_grows hq (v := x) hl hex
      rw [hex] at h
      cases e1 with
      | nrm => cases h; exact ⟨x1, q1⟩
      | exit id' =>
        simp only at h
        split at h <;> cases h <;> exact ⟨x1, q1⟩
      | ret => cases h; exact ⟨x1, q1⟩
  | .loop x, hl, σ, e, τ, h => by
    simp only [exec] at h
    have key : ∀ (n : Nat) {σ : St}, iter (exec cf sg m x) n σ = some (e, τ) → ∃ ext, τ.bx = σ.bx ++ ext := by
      intro n
      induction n with
      | zero => intro σ hi; cases hi
      | succ n ih =>
        intro σ hi
        simp only [iter] at hi
        cases hex : exec cf sg m x σ with
        | none => rw [hex] at hi; cases hi
        | some r =>
          obtain ⟨e1, σ1⟩ := r
          obtain ⟨x1, q1⟩ := exec_grows hq (v := x) hl hex
          rw [hex] at hi
          cases e1 with
          | nrm =>
            obtain ⟨x2, q2⟩ := ih hi
            exact ⟨x1 ++ x2, by rw [q2, q1, List.append_assoc]⟩
          | exit id => cases hi; exact ⟨x1, q1⟩
          | ret => cases hi; exact ⟨x1, q1⟩
    exact key m h
  | .exit id, _, σ, e, τ, h => by cases h; exact ⟨[], by simp⟩
  | .scope x, hl, σ, e, τ, h => by
    simp only [exec] at h
    exact exec_grows hq (v := x) hl h
  | .ret, _, σ, e, τ, h => by cases h; exact ⟨[], by simp⟩
end

theorem compileFn_inv {P : Program} {hh : Hints} {kept cons : List Nat} {fn : Func} {vf : VF} (h : compileFn P hh kept cons fn = some vf) :
    ∃ c, fn.body = some c ∧ compileCode P hh fn.ntmps c = some vf.code ∧ compileRes P fn.ntmps fn.results.toList = some vf.res ∧ vf.quiet = vf.code.quiet ∧ vf.kept = kept ∧ vf.cons = cons ∧ (fn.name == "runtime.NumGoroutine") = false := by
  unfold compileFn at h
  split at h
  · cases h
  · rename_i c hb
    split at h
    · rename_i code res h1 h2
      split at h
      · rename_i hc
        cases h
        exact ⟨c, hb, h1, h2, rfl, rfl, rfl, hc.2.2.2⟩
      · cases h
    · cases h

theorem quietOk_call {P : Program} {F : Nat → Option Entry} (hF : TableOk P F) (n : Nat) : QuietOk (call F n) (sigOf F) := by
  induction n with
  | zero => intro f vs bx r bx' h; cases h
  | succ n ih =>
    intro f vs bx r bx' h hq hlen
    unfold call at h
    split at h
    · rename_i vf hf
      obtain ⟨fn, hh, _, h2⟩ := hF f _ hf
      obtain ⟨c, _, _, _, h3, _⟩ := compileFn_inv h2
      have hq' : vf.code.quiet = true := by
        rw [← h3]
        simpa [sigOf, hf] using hq
      obtain ⟨e, τ, us, hex, _, _, rfl, rfl⟩ := endOf_inv h
      obtain ⟨ext, hext⟩ := exec_grows ih hq' hex
      simp only [start] at hext
      unfold keepBoxes at hlen ⊢
      split at hlen
      · rename_i he
        rw [if_pos he]
        rw [hext, List.length_append] at he
        have : ext = [] := List.eq_nil_of_length_eq_zero (by omega)
        rw [hext, this, List.append_nil]
      · rename_i he
        rw [if_neg he]
        split at hlen
        · rename_i hb
          rw [if_pos hb, hext, List.take_left]
        · exact absurd hlen he
    · obtain ⟨v, _, h2⟩ := Option.map_eq_some_iff.1 h
      cases h2; rfl
    · cases h
end Go.VM
