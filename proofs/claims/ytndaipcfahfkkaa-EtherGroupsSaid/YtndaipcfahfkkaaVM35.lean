/- More fuel never takes an answer back. -/
import Derived.Test.YtndaipcfahfkkaaVM34
namespace Go.VM

abbrev FLe (cf cf' : CallF) : Prop := ∀ f a b r, cf f a b = some r → cf' f a b = some r

section
variable {cf cf' : CallF} {sg : Nat → Sig} (h : FLe cf cf')
include h

theorem callAt_le {σ σ' : St} {d : Option Nat} {f : Nat} {vs : List V} {q : Bool} {av : List Nat} (h1 : callAt cf sg σ d f vs q av = some σ') : callAt cf' sg σ d f vs q av = some σ' := by
  unfold callAt at h1 ⊢
  cases d with
  | none => cases h1
  | some d =>
    simp only at h1 ⊢
    split at h1
    · rename_i hc
      rw [if_pos hc]
      cases hcf : cf f (handArgs (sg f).cons 0 vs) σ.bx with
      | none => rw [hcf] at h1; cases h1
      | some x =>
        rw [hcf] at h1
        rw [h _ _ _ _ hcf]
        exact h1
    · cases h1

theorem step1_le {σ σ' : St} {t0 : Nat → Nat} {d : Option Nat} {op : VOp} (h1 : step1 cf sg σ t0 d op = some σ') : step1 cf' sg σ t0 d op = some σ' := by
  cases op with
  | call f args q av => exact callAt_le h h1
  | callv x args q av =>
    simp only [step1] at h1 ⊢
    split at h1
    · exact callAt_le h h1
    · cases h1
  | bslice lky z n zs parts => cases lky <;> exact h1
  | _ => exact h1

theorem stepOp_le {σ σ' : St} {t0 : Nat → Nat} {o : VOper} (h1 : stepOp cf sg t0 σ o = some σ') : stepOp cf' sg t0 σ o = some σ' := by
  unfold stepOp at h1 ⊢
  split at h1
  · split at h1
    · cases h1
    · rename_i hr
      rw [if_neg hr]
      exact step1_le h h1
  · exact h1
  · cases h1

theorem runOps_le {t0 : Nat → Nat} : ∀ {ops : List VOper} {σ σ' : St}, runOps cf sg t0 σ ops = some σ' → runOps cf' sg t0 σ ops = some σ'
  | [], _, _, h1 => h1
  | o :: r, σ, σ', h1 => by
    unfold runOps at h1 ⊢
    cases hs : stepOp cf sg t0 σ o with
    | none => rw [hs] at h1; cases h1
    | some τ =>
      rw [hs] at h1
      rw [stepOp_le h hs]
      exact runOps_le h1

theorem runRegion_le {ops : List VOper} {σ σ' : St} (h1 : runRegion cf sg ops σ = some σ') : runRegion cf' sg ops σ = some σ' := by
  unfold runRegion at h1 ⊢
  split at h1
  · rename_i τ hs
    rw [runOps_le h hs]
    exact h1
  · cases h1
end

theorem iter_le {b b' : St → Option (Ex × St)} (hb : ∀ σ r, b σ = some r → b' σ = some r) : ∀ {n m : Nat} {σ : St} {r : Ex × St}, n ≤ m → iter b n σ = some r → iter b' m σ = some r
  | 0, _, _, _, _, h => by cases h
  | n + 1, 0, _, _, hm, _ => by omega
  | n + 1, m + 1, σ, r, hm, h => by
    unfold iter at h ⊢
    cases hs : b σ with
    | none => rw [hs] at h; cases h
    | some x =>
      obtain ⟨e, τ⟩ := x
      rw [hs] at h
      rw [hb _ _ hs]
      cases e with
      | nrm => exact iter_le hb (by omega) h
      | exit id => exact h
      | ret => exact h

theorem exec_le {cf cf' : CallF} {sg : Nat → Sig} (h : FLe cf cf') {n m : Nat} (hm : n ≤ m) : ∀ {c : VC} {σ : St} {r : Ex × St}, exec cf sg n c σ = some r → exec cf' sg m c σ = some r := by
  intro c
  induction c with
  | skip => exact fun h1 => h1
  | region ops =>
    intro σ r h1
    unfold exec at h1 ⊢
    cases hs : runRegion cf sg ops σ with
    | none => rw [hs] at h1; cases h1
    | some τ =>
      rw [hs] at h1
      rw [runRegion_le h hs]
      exact h1
  | seq a b ha hb =>
    intro σ r h1
    unfold exec at h1 ⊢
    cases hs : exec cf sg n a σ with
    | none => rw [hs] at h1; cases h1
    | some x =>
      obtain ⟨e, τ⟩ := x
      rw [hs] at h1
      rw [ha hs]
      cases e with
      | nrm => exact hb h1
      | exit id => exact h1
      | ret => exact h1
  | cond c a b ha hb =>
    intro σ r h1
    unfold exec at h1 ⊢
    split at h1
    · exact ha h1
    · exact hb h1
    · cases h1
  | block id a ha =>
    intro σ r h1
    unfold exec at h1 ⊢
    cases hs : exec cf sg n a σ with
    | none => rw [hs] at h1; cases h1
    | some x =>
      rw [hs] at h1
      rw [ha hs]
      exact h1
  | loop a ha =>
    intro σ r h1
    unfold exec at h1 ⊢
    exact iter_le (fun _ _ => ha) hm h1
  | exit id => exact fun h1 => h1
  | scope a ha => exact fun h1 => ha h1
  | ret => exact fun h1 => h1

theorem call_le {F : Nat → Option Entry} : ∀ {n m : Nat} {f : Nat} {args : List V} {bx : BX} {r : V × BX}, n ≤ m → call F n f args bx = some r → call F m f args bx = some r
  | 0, m, f, args, bx, r, _, h => by
    cases m with
    | zero => exact h
    | succ m => cases h
  | n + 1, 0, _, _, _, _, hm, _ => by omega
  | n + 1, m + 1, f, args, bx, r, hm, h => by
    unfold call at h ⊢
    cases hF : F f with
    | none => rw [hF] at h; cases h
    | some en =>
      rw [hF] at h
      cases en with
      | prim cons p => exact h
      | code vf =>
        simp only at h ⊢
        cases hs : exec (call F n) (sigOf F) n vf.code (start vf args bx) with
        | none => rw [hs] at h; cases h
        | some x =>
          rw [hs] at h
          rw [exec_le (fun f a b r hr => call_le (by omega) hr) (by omega) hs]
          exact h
end Go.VM
