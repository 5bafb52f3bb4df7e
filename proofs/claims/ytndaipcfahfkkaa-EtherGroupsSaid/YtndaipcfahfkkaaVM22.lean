/- One operation of a region, a call too; operations one after another. -/
import Derived.Test.YtndaipcfahfkkaaVM21
namespace Go.VM
open Go.RowKit

/-- Function f, called, comes to R. -/
def Invokes (P : Program) (f : FuncId) (args : Array Value) (w : World) (R : Value → World → Prop) : Prop :=
  ((callFunc f args).run P w = .ok (.enter f args) w ∧ Calls P f args w fun e w' => ∃ c, e = .returned c ∧ R c w') ∨ ∃ c w', (callFunc f args).run P w = .ok (.value c) w' ∧ R c w'

/-- What the machine says of calls is true. -/
def CallOk (P : Program) (cf : CallF) : Prop := ∀ f vs bx r bx', cf f vs bx = some (r, bx') → (newsOf r.results).all (· < 64) = true →
  ∀ G w cs, Start G w vs cs bx → Invokes P f cs.toArray w fun c w' => ∃ rcs G' lk, c = packC rcs ∧ Ret G w G' lk w' r.results rcs bx bx'

section
variable {P : Program} {D M : Nat → Prop} {G : Gh} {σ : St} {a : Act} {w : World} {o : Oper} {t0 : Nat → Nat} {hh : Hints} {cf : CallF} {sg : Nat → Sig}

theorem Invokes.mono {f : FuncId} {args : Array Value} {R R' : Value → World → Prop} (h : Invokes P f args w R) (hr : ∀ c w', R c w' → R' c w') : Invokes P f args w R' := by
  rcases h with ⟨h1, h2⟩ | ⟨c, w', h1, h2⟩
  · exact .inl ⟨h1, h2.mono fun e w' ⟨c, k1, k2⟩ => ⟨c, k1, hr _ _ k2⟩⟩
  · exact .inr ⟨c, w', h1, hr _ _ h2⟩

theorem does_callAt (hcf : CallOk P cf) {tm : Array Value} (h : SR D M G σ tm w) {d f : Nat} {vs : List V} {cs : List Value} {q : Bool} {av : List Nat} {σ' : St} (hl : vs.length = cs.length) (hargs : ∀ (i : Nat) v c, vs[i]? = some v → cs[i]? = some c → VR G (At G σ.tips σ.lk w) w (get σ.env) v c)
    (hs : callAt cf sg σ (some d) f vs q av = some σ') (hd : d < tm.size) : Invokes P f cs.toArray w fun c w' => ∃ G', SR (fun s => D s ∨ s = d) M G' σ' (tm.setIfInBounds d c) w' ∧ Fr G w G' w' := by
  unfold callAt at hs
  simp only at hs
  split at hs
  · rename_i hc
    obtain ⟨c1, c2, c3, c4, _⟩ := hc
    cases hr : cf f (handArgs (sg f).cons 0 vs) σ.bx with
    | none => rw [hr] at hs; cases hs
    | some x =>
      obtain ⟨r, bx⟩ := x
      rw [hr] at hs
      simp only at hs
      split at hs
      · rename_i hg
        obtain ⟨g1, g2, g3, _⟩ := hg
        cases hs
        obtain ⟨N, hst⟩ := h.start hl hargs c1 c2 c3 c4
        refine (hcf f _ _ _ _ hr g2 _ w cs hst).mono fun c w' ⟨rcs, G', lk, k1, k2⟩ => ?_
        subst k1
        refine h.called hd k2 c1 c4 (fun i nm hci hn => ?_) (g1.imp id fun hx => by simpa using hx) (fun i hi => by
          have := List.all_eq_true.1 g2 i hi
          simpa using this) g3 rfl
        obtain ⟨k, z, n, ds, hv⟩ := argNm_some hn
        have hi := (List.getElem?_eq_some_iff.1 hv).1
        have hvr := hargs i _ _ hv (List.getElem?_eq_getElem (hl ▸ hi))
        have how := ownsArgs_get c3 hv
        rw [Nat.zero_add] at how
        have hk : k = σ.tips nm := by
          simp only [ownsArg, hci, Bool.not_true, Bool.false_or, beq_iff_eq] at how
          exact how
        obtain ⟨b, cap, xs, p1, p2, _⟩ := Rel.sl_inv hvr
        exact ⟨b.block, (p2.2.2 hk).1.1⟩
      · cases hs
  · cases hs

theorem opdsOf_get {xs : List Operand} {ys : List Opd} (h : opdsOf xs = some ys) : ys.length = xs.length ∧ ∀ (i : Nat) x y, xs[i]? = some x → ys[i]? = some y → opdOf x = some y := by
  induction xs generalizing ys with
  | nil => cases h; exact ⟨rfl, fun i x y h => by simp at h⟩
  | cons x r ih =>
    simp only [opdsOf] at h
    split at h
    · rename_i y ys' h1 h2
      cases h
      obtain ⟨k1, k2⟩ := ih h2
      refine ⟨by simp [k1], fun i x' y' e1 e2 => ?_⟩
      cases i with
      | zero => simp at e1 e2; subst e1 e2; exact h1
      | succ i => simp at e1 e2; exact k2 i x' y' e1 e2
    · cases h

/-- What comes of an invocation, behind the operation. -/
theorem wp_invokes {f : FuncId} {args : Array Value} {R : Value → World → Prop} {K : Act → World → Prop} {Q : Exit → Act → World → Prop} (hrun : (execOp a.eval o).run P w = (callFunc f args).run P w) (h : Invokes P f args w R) (hK : ∀ c w', R c w' → K (a.put o.dst c) w') : o.wp P a w K Q := by
  unfold Oper.wp
  rcases h with ⟨h1, h2⟩ | ⟨c, w', h1, h2⟩
  · rw [hrun, h1]
    exact h2.mono fun e w' ⟨c, k1, k2⟩ => by subst k1; exact hK c w' k2
  · rw [hrun, h1]
    exact hK c w' h2

theorem callAt_dst {d : Option Nat} {f : Nat} {vs : List V} {q : Bool} {av : List Nat} {σ' : St} (h : callAt cf sg σ d f vs q av = some σ') : ∃ d', d = some d' := by
  cases d with
  | none => cases h
  | some d => exact ⟨d, rfl⟩

/-- What an act is to be behind an operation. -/
def Then (D M : Nat → Prop) (G : Gh) (σ' : St) (a : Act) (w : World) (a' : Act) (w' : World) : Prop :=
  ∃ G', SR D M G' σ' a'.tmps w' ∧ Fr G w G' w' ∧ a'.tmps.size = a.tmps.size ∧ a'.defers = a.defers

theorem put_size (a : Act) (d : Option Nat) (c : Value) : (a.put d c).tmps.size = a.tmps.size ∧ (a.put d c).defers = a.defers := by
  cases d <;> simp [Act.put]

theorem calls_call {op : Op} {d : Option Nat} {vo : VOp} (hc : compileOp P hh d op = some vo) (hn : vo.calls = true) : ∃ c, op = .call c := by
  cases op with
  | call c => exact ⟨c, rfl⟩
  | slice t x lo hi mx =>
    exfalso
    cases mx with
    | some m => simp only [compileOp] at hc; cases hc
    | none =>
      simp only [compileOp] at hc
      repeat' first
        | (cases hc; done)
        | (cases hc; cases hn; done)
        | (obtain ⟨_, _, rfl⟩ := Option.map_eq_some_iff.1 hc; cases hn; done)
        | split at hc
  | _ =>
    exfalso
    simp only [compileOp] at hc
    repeat' first
      | (cases hc; done)
      | (cases hc; cases hn; done)
      | (obtain ⟨_, _, rfl⟩ := Option.map_eq_some_iff.1 hc; cases hn; done)
      | split at hc

theorem calls_inv {c : Call} {d : Option Nat} {vo : VOp} (hc : compileOp P hh d (.call c) = some vo) (hn : vo.calls = true) :
    (∃ f ys, c.callee = .value (.func f) ∧ opdsOf c.args.toList = some ys ∧ vo = .call f ys (quOf hh d) (avOf hh d)) ∨ (∃ x x' ys, c.callee = .value x ∧ opdOf x = some x' ∧ opdsOf c.args.toList = some ys ∧ vo = .callv x' ys (quOf hh d) (avOf hh d)) := by
  simp only [compileOp] at hc
  split at hc
  · rename_i f hcal
    obtain ⟨ys, h1, rfl⟩ := Option.map_eq_some_iff.1 hc
    exact .inl ⟨f, ys, hcal, h1, rfl⟩
  · rename_i x _ hcal
    split at hc
    · rename_i x' ys h1 h2
      cases hc
      exact .inr ⟨x, x', ys, hcal, h1, h2, rfl⟩
    · cases hc
  · exfalso
    split at hc
    · split at hc
      · obtain ⟨i, _, hc⟩ := Option.bind_eq_some_iff.1 hc
        split at hc
        · split at hc
          · cases hc; cases hn
          · cases hc
        · cases hc
      · obtain ⟨i, _, hc⟩ := Option.bind_eq_some_iff.1 hc
        split at hc
        · split at hc
          · cases hc; cases hn
          · cases hc
        · cases hc
      · cases hc
    · cases hc
  · exfalso
    split at hc
    · split at hc
      · cases hc; cases hn
      · cases hc; cases hn
      · cases hc; cases hn
      · cases hc
    · cases hc
  · exfalso
    split at hc
    · cases hc; cases hn
    · cases hc
  · exfalso
    split at hc
    · cases hc; cases hn
    · cases hc
  · cases hc

/-- EVERY OPERATION. -/
theorem wp_op (hcf : CallOk P cf) (h : SR D M G σ a.tmps w) {vo : VOp} (hc : compileOp P hh o.dst o.op = some vo) {σ' : St} (hs : step1 cf sg σ t0 o.dst vo = some σ') (hsz : ∀ d, o.dst = some d → d < a.tmps.size)
    (hD : ∀ d, o.dst = some d → ¬ D d) (hM : ∀ d, o.dst = some d → vo.rowed = true → M d) (ht : ∀ nm, t0 nm ≤ σ.tips nm) {K : Act → World → Prop} {Q : Exit → Act → World → Prop}
    (hK : ∀ a' w', Then (fun s => D s ∨ o.dst = some s) M G σ' a w a' w' → K a' w') : o.wp P a w K Q := by
  by_cases hn : vo.calls = true
  · -- a call
    have hcall := calls_call hc hn
    obtain ⟨c, hop⟩ := hcall
    rw [hop] at hc
    have hinv := calls_inv hc hn
    obtain ⟨callee, args, argTypes⟩ := c
    have fin : ∀ {d f : Nat} {cs : List Value}, o.dst = some d → (execOp a.eval o).run P w = (callFunc f cs.toArray).run P w → (Invokes P f cs.toArray w fun c w' => ∃ G', SR (fun s => D s ∨ s = d) M G' σ' (a.tmps.setIfInBounds d c) w' ∧ Fr G w G' w') → o.wp P a w K Q := fun {d f cs} hd hrun hi => by
      refine wp_invokes hrun hi fun c w' ⟨G', k1, k2⟩ => hK _ _ ⟨G', ?_, k2, put_size _ _ _⟩
      rw [put_some a hd]
      exact k1.mono fun s => (dst_or hd s).1
    rcases hinv with ⟨f, ys, rfl, hx, rfl⟩ | ⟨x, x', ys, rfl, hx, hys, rfl⟩
    · simp only [step1] at hs
      obtain ⟨d, hd⟩ := callAt_dst hs
      rw [hd] at hs
      obtain ⟨k1, k2⟩ := opdsOf_get hx
      refine fin (cs := args.toList.map a.eval) hd ?_ (does_callAt hcf h (by simp only [List.length_map]; exact k1) (fun i v c hv hcv => ?_) hs (hsz d hd))
      · unfold execOp
        simp [hop, resolve, Deferred.ofValue, invoke, Act.eval]
        congr 2
        apply Array.ext'
        simp
      · rw [List.getElem?_map] at hv hcv
        cases hy : ys[i]? with
        | none => rw [hy] at hv; cases hv
        | some y =>
          cases hxx : args.toList[i]? with
          | none => rw [hxx] at hcv; cases hcv
          | some x =>
            rw [hy] at hv; rw [hxx] at hcv
            cases hv; cases hcv
            exact h.opd (k2 i x y hxx hy)
    · simp only [step1] at hs
      split at hs
      · rename_i f first cap e1
        obtain ⟨d, hd⟩ := callAt_dst hs
        rw [hd] at hs
        obtain ⟨k1, k2⟩ := opdsOf_get hys
        have hf := h.opd hx
        rw [e1] at hf
        obtain ⟨xs, zs, f1, f2, f3, f4, f5⟩ := Rel.fn_inv hf
        refine fin (cs := xs.toList ++ args.toList.map a.eval ++ zs.toList) hd ?_ (does_callAt hcf h (by simp only [List.length_append, List.length_map, f2.length, f3.length, k1]) (fun i v c hv hcv => ?_) hs (hsz d hd))
        · unfold execOp
          simp [hop, resolve, Deferred.ofValue, invoke, f1]
          congr 2
          apply Array.ext'
          simp
        · have hl1 := f2.length
          have hl2 : (ys.map (ev (get σ.env))).length = (args.toList.map a.eval).length := by simp only [List.length_map]; exact k1
          by_cases hi : i < (first ++ ys.map (ev (get σ.env))).length
          · rw [List.getElem?_append_left hi] at hv
            rw [List.getElem?_append_left (by rw [List.length_append] at hi ⊢; omega)] at hcv
            by_cases hi2 : i < first.length
            · rw [List.getElem?_append_left hi2] at hv
              rw [List.getElem?_append_left (by omega)] at hcv
              obtain ⟨c', q1, q2⟩ := f2.get hv
              rw [hcv] at q1; cases q1
              exact VR.of_rel q2.far q2
            · rw [List.getElem?_append_right (by omega)] at hv
              rw [List.getElem?_append_right (by omega), ← hl1] at hcv
              rw [List.getElem?_map] at hv hcv
              cases hy : ys[i - first.length]? with
              | none => rw [hy] at hv; cases hv
              | some y =>
                cases hxx : args.toList[i - first.length]? with
                | none => rw [hxx] at hcv; cases hcv
                | some x =>
                  rw [hy] at hv; rw [hxx] at hcv
                  cases hv; cases hcv
                  exact h.opd (k2 _ x y hxx hy)
          · rw [List.getElem?_append_right (by omega)] at hv
            rw [List.getElem?_append_right (by rw [List.length_append] at hi ⊢; omega)] at hcv
            have he : (xs.toList ++ args.toList.map a.eval).length = (first ++ ys.map (ev (get σ.env))).length := by rw [List.length_append, List.length_append]; omega
            rw [he] at hcv
            obtain ⟨c', q1, q2⟩ := f3.get hv
            rw [hcv] at q1; cases q1
            exact VR.of_rel q2.far q2
      · cases hs
  · obtain ⟨c, w', G', h1, h2, h3⟩ := does_op h hc (by simpa using hn) hs hsz hD hM ht
    unfold Oper.wp
    rcases h1 with h1 | ⟨h1, rfl⟩
    · rw [h1]; exact hK _ _ ⟨G', h2, h3, put_size _ _ _⟩
    · rw [h1]; exact hK _ _ ⟨G', h2, h3, put_size _ _ _⟩
end
end Go.VM
