/- Code. -/
import Derived.Test.YtndaipcfahfkkaaVM27
import Derived.LoopN
import Derived.Scope
namespace Go.VM
open Go.RowKit

def Ex.out : Ex → Exit
  | .nrm => .normal
  | .exit id => .exit id
  | .ret => .ret

/-- Where a stretch of code comes to. -/
def Post (G : Gh) (τ : St) (e : Ex) (a : Act) (w : World) : Exit → Act → World → Prop := fun e' a' w' => e' = e.out ∧ ThenC G τ a w a' w'

section
variable {P : Program} {G : Gh} {σ : St} {a : Act} {w : World} {hh : Hints} {cf : CallF} {sg : Nat → Sig}

theorem ThenC.self (h : SRc G σ a.tmps w) : ThenC G σ a w a w := ⟨G, h, Fr.refl G w, rfl, rfl⟩

theorem Post.nrm_inv {τ : St} {e : Ex} {e' : Exit} {a' : Act} {w' : World} (h : Post G τ e a w e' a' w') : e' = e.out ∧ ThenC G τ a w a' w' := h

/-- CODE. -/
theorem wp_codeV (hcf : CallOk P cf) (hnr : NoReg cf) (hq : QuietOk cf sg) {m N : Nat} : ∀ (c : Code) {v : VC}, compileCode P hh N c = some v → ∀ {G : Gh} {σ : St} {e : Ex} {τ : St} {a : Act} {w : World}, exec cf sg m v σ = some (e, τ) → SRc G σ a.tmps w → N ≤ a.tmps.size → c.wp P (Post G τ e a w) a w := by
  intro c
  induction c with
  | skip =>
    intro v hc G σ e τ a w hx h hN
    cases hc; cases hx
    exact wp_skip ⟨rfl, ThenC.self h⟩
  | label l =>
    intro v hc G σ e τ a w hx h hN
    cases hc; cases hx
    exact wp_label ⟨rfl, ThenC.self h⟩
  | region id ops draw =>
    intro v hc G σ e τ a w hx h hN
    simp only [compileCode] at hc
    obtain ⟨vs, h1, rfl⟩ := Option.map_eq_some_iff.1 hc
    simp only [exec] at hx
    obtain ⟨τ', h2, h3⟩ := Option.map_eq_some_iff.1 hx
    cases h3
    exact wp_regionV hcf hnr hq hN h1 h2 h fun a' w' ht => ⟨rfl, ht⟩
  | seq x y ihx ihy =>
    intro v hc G σ e τ a w hx h hN
    simp only [compileCode] at hc
    split at hc
    · rename_i vx vy h1 h2
      cases hc
      simp only [exec] at hx
      refine wp_seq ?_
      cases hex : exec cf sg m vx σ with
      | none => rw [hex] at hx; cases hx
      | some r =>
        obtain ⟨e1, σ1⟩ := r
        refine wp_mono (ihx h1 hex h hN) fun e' a' w' ⟨k1, G', k2, k3, k4, k5⟩ => ?_
        rw [hex] at hx
        cases e1 with
        | nrm =>
          subst k1
          refine wp_mono (ihy h2 hx k2 (by rw [k4]; exact hN)) fun e2 a2 w2 ⟨q1, G2, q2, q3, q4, q5⟩ => ⟨q1, G2, q2, k3.trans h.ok q3, q4.trans k4, q5.trans k5⟩
        | exit id => cases hx; subst k1; exact ⟨rfl, G', k2, k3, k4, k5⟩
        | ret => cases hx; subst k1; exact ⟨rfl, G', k2, k3, k4, k5⟩
    · cases hc
  | cond c x y ihx ihy =>
    intro v hc G σ e τ a w hx h hN
    simp only [compileCode] at hc
    split at hc
    · rename_i c' vx vy h0 h1 h2
      cases hc
      simp only [exec] at hx
      split at hx
      · rename_i hb
        exact wp_cond_true (h.opd_bool h0 hb) (ihx h1 hx h hN)
      · rename_i hb
        exact wp_cond_false (h.opd_bool h0 hb) (ihy h2 hx h hN)
      · cases hx
    · cases hc
  | block id x ih =>
    intro v hc G σ e τ a w hx h hN
    simp only [compileCode] at hc
    obtain ⟨vx, h1, rfl⟩ := Option.map_eq_some_iff.1 hc
    simp only [exec] at hx
    refine wp_block ?_
    cases hex : exec cf sg m vx σ with
    | none => rw [hex] at hx; cases hx
    | some r =>
      obtain ⟨e1, σ1⟩ := r
      refine wp_mono (ih h1 hex h hN) fun e' a' w' ⟨k1, k2⟩ => ?_
      rw [hex] at hx
      subst k1
      cases e1 with
      | nrm => cases hx; exact ⟨rfl, k2⟩
      | exit id' =>
        simp only at hx
        simp only [Ex.out, Exit.inBlock]
        split at hx
        · rename_i hi; cases hx; rw [if_pos hi]; exact ⟨rfl, k2⟩
        · rename_i hi; cases hx; rw [if_neg hi]; exact ⟨rfl, k2⟩
      | ret => cases hx; exact ⟨rfl, k2⟩
  | loop x ih =>
    intro v hc G σ e τ a w hx h hN
    simp only [compileCode] at hc
    obtain ⟨vx, h1, rfl⟩ := Option.map_eq_some_iff.1 hc
    simp only [exec] at hx
    have key : ∀ (n : Nat) {G' : Gh} {σ' : St} {a' : Act} {w' : World}, iter (exec cf sg m vx) n σ' = some (e, τ) → SRc G' σ' a'.tmps w' → Fr G w G' w' → a'.tmps.size = a.tmps.size → a'.defers = a.defers → Code.rounds P x (Post G τ e a w) n a' w' := by
      intro n
      induction n with
      | zero => intro G' σ' a' w' hi; cases hi
      | succ n ihn =>
        intro G' σ' a' w' hi hs hf k1 k2
        rw [rounds_succ]
        simp only [iter] at hi
        cases hex : exec cf sg m vx σ' with
        | none => rw [hex] at hi; cases hi
        | some r =>
          obtain ⟨e1, σ1⟩ := r
          rw [hex] at hi
          refine wp_mono (ih h1 hex hs (by rw [k1]; exact hN)) fun e2 a2 w2 ⟨q1, G2, q2, q3, q4, q5⟩ => ?_
          subst q1
          cases e1 with
          | nrm => exact ihn hi q2 (hf.trans h.ok q3) (q4.trans k1) (q5.trans k2)
          | exit id => cases hi; exact ⟨rfl, G2, q2, hf.trans h.ok q3, q4.trans k1, q5.trans k2⟩
          | ret => cases hi; exact ⟨rfl, G2, q2, hf.trans h.ok q3, q4.trans k1, q5.trans k2⟩
    exact wp_loop_rounds m (key m hx h (Fr.refl G w) rfl rfl)
  | exit id =>
    intro v hc G σ e τ a w hx h hN
    cases hc; cases hx
    exact wp_exit ⟨rfl, ThenC.self h⟩
  | scope x ih =>
    intro v hc G σ e τ a w hx h hN
    simp only [compileCode] at hc
    obtain ⟨vx, h1, rfl⟩ := Option.map_eq_some_iff.1 hc
    simp only [exec] at hx
    refine wp_scope_straight (wp_mono (ih h1 hx h hN) fun e' a' w' ⟨k1, k2⟩ => ?_)
    subst k1
    cases e <;> exact ⟨rfl, k2⟩
  | ret =>
    intro v hc G σ e τ a w hx h hN
    cases hc; cases hx
    exact wp_ret ⟨rfl, ThenC.self h⟩
  | _ =>
    intro v hc
    cases hc
end
end Go.VM
