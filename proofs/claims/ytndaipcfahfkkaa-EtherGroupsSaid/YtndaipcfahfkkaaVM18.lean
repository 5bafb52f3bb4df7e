/- One operation that is no call: the model's runs as the machine's does. -/
import Derived.Test.YtndaipcfahfkkaaVM17
namespace Go.VM
open Go.RowKit

def VOp.calls : VOp → Bool
  | .call .. | .callv .. => true
  | _ => false
/-- It makes a row at its own name. -/
def VOp.rowed : VOp → Bool
  | .bslice .. | .mkslice .. => true
  | _ => false

section
variable {cf : CallF} {sg : Nat → Sig} {σ : St} {t0 : Nat → Nat}

/-- The answer goes into the slot. -/
def answer (σ : St) (t0 : Nat → Nat) (dst : Option Nat) (vo : VOp) : Option St :=
  match dst with
  | some d => match pureOp (get σ.env) t0 σ.clk σ.bx d vo with
    | some v => some { σ with env := set σ.env d v }
    | none => none
  | none => none

theorem step1_answer {vo : VOp} (hp : vo.isP = true) (dst : Option Nat) : step1 cf sg σ t0 dst vo = answer σ t0 dst vo := by
  cases vo with
  | bslice lky z n zs ps => cases lky with | true => cases hp | false => rfl
  | store => cases hp
  | call => cases hp
  | callv => cases hp
  | allocB => cases hp
  | boxB => cases hp
  | append => cases hp
  | _ => rfl

theorem step1_pure {vo : VOp} (hp : vo.isP = true) {dst : Option Nat} {σ' : St} (h : step1 cf sg σ t0 dst vo = some σ') :
    ∃ d v, dst = some d ∧ pureOp (get σ.env) t0 σ.clk σ.bx d vo = some v ∧ σ' = { σ with env := set σ.env d v } := by
  rw [step1_answer hp] at h
  cases dst with
  | none => cases h
  | some d =>
    simp only [answer] at h
    cases hv : pureOp (get σ.env) t0 σ.clk σ.bx d vo with
    | none => rw [hv] at h; cases h
    | some v => rw [hv] at h; cases h; exact ⟨d, v, rfl, hv, rfl⟩
end

section
variable {P : Program} {D M : Nat → Prop} {G : Gh} {σ : St} {a : Act} {w : World} {o : Oper} {t0 : Nat → Nat} {hh : Hints} {cf : CallF} {sg : Nat → Sig}

theorem does_alloc (h : SR D M G σ a.tmps w) {t : TypeId} (hop : o.op = .alloc t) {vo : VOp} (hc : compileOp P hh o.dst (.alloc t) = some vo) {σ' : St} (hs : step1 cf sg σ t0 o.dst vo = some σ') (hsz : ∀ d, o.dst = some d → d < a.tmps.size) (hD : ∀ d, o.dst = some d → ¬ D d) :
    Does P D M G a o w σ' := by
  simp only [compileOp] at hc
  split at hc
  · rename_i zs hz
    split at hc
    · cases hc
      simp only [step1] at hs
      cases hd : o.dst with
      | none => rw [hd] at hs; cases hs
      | some d => rw [hd] at hs; cases hs; exact does_allocB h hop hz hd (hsz d hd)
    · cases hc
      obtain ⟨d, v, hd, hv, rfl⟩ := step1_pure rfl hs
      cases hv
      exact does_allocR h hop hz hd (hsz d hd) (hD d hd)
  · cases hc

theorem does_box (h : SR D M G σ a.tmps w) {t : TypeId} {x : Operand} (hop : o.op = .box t x) {vo : VOp} (hc : compileOp P hh o.dst (.box t x) = some vo) {σ' : St} (hs : step1 cf sg σ t0 o.dst vo = some σ') (hsz : ∀ d, o.dst = some d → d < a.tmps.size) (hD : ∀ d, o.dst = some d → ¬ D d) :
    Does P D M G a o w σ' := by
  simp only [compileOp] at hc
  split at hc
  · rename_i sz y hz hy
    split at hc
    · cases hc
      simp only [step1] at hs
      cases hd : o.dst with
      | none => rw [hd] at hs; cases hs
      | some d =>
        rw [hd] at hs
        simp only at hs
        split at hs
        · rename_i hf; cases hs; exact does_boxB h hop hy hf hd (hsz d hd)
        · cases hs
    · cases hc
      obtain ⟨d, v, hd, hv, rfl⟩ := step1_pure rfl hs
      simp only [pureOp] at hv
      split at hv
      · rename_i hf; cases hv; exact does_boxR h hop hy hf hd (hsz d hd) (hD d hd)
      · cases hv
  · cases hc

theorem does_buildSlice (h : SR D M G σ a.tmps w) {t : TypeId} {len : Nat} {parts : Array (Nat × Operand)} (hop : o.op = .buildSlice t len parts) {vo : VOp} (hc : compileOp P hh o.dst (.buildSlice t len parts) = some vo) {σ' : St} (hs : step1 cf sg σ t0 o.dst vo = some σ')
    (hsz : ∀ d, o.dst = some d → d < a.tmps.size) (hD : ∀ d, o.dst = some d → ¬ D d) (hM : ∀ d, o.dst = some d → vo.rowed = true → M d) (ht : ∀ nm, t0 nm ≤ σ.tips nm) : Does P D M G a o w σ' := by
  simp only [compileOp] at hc
  split at hc
  · rename_i e hu
    split at hc
    · rename_i z zs hz hzz
      split at hc
      · rename_i hl
        cases hq : partsA z parts.toList with
        | none => rw [hq] at hc; cases hc
        | some qs =>
          rw [hq] at hc
          cases hc
          cases hb : plainT P 20 e with
          | true =>
            rw [hb] at hs
            obtain ⟨d, v, hd, hv, rfl⟩ := step1_pure rfl hs
            simp only [Bool.not_true, pureOp] at hv
            split at hv
            · rename_i cs hf
              split at hv
              · rename_i hcc; cases hv
                exact does_bslice h hop hu hz hzz hl.1 hl.2 hq hf hcc.1 hcc.2.1 hcc.2.2 hd (hsz d hd) (hD d hd) (hM d hd rfl) (ht _)
              · cases hv
            · cases hv
          | false =>
            rw [hb] at hs
            simp only [Bool.not_false, step1] at hs
            split at hs
            · rename_i d cs hd hf
              split at hs
              · rename_i hcc; cases hs
                exact does_bslice_lky h hop hu hz hzz hl.1 hl.2 hq hf hcc.1 hcc.2.1 hcc.2.2 hd (hsz d hd) (hD d hd) (hM d hd rfl) (ht _)
              · cases hs
            · cases hs
      · cases hc
    · cases hc
  · cases hc

theorem does_makeSlice (h : SR D M G σ a.tmps w) {t : TypeId} {l c : Operand} (hop : o.op = .makeSlice t l c) {vo : VOp} (hc : compileOp P hh o.dst (.makeSlice t l c) = some vo) {σ' : St} (hs : step1 cf sg σ t0 o.dst vo = some σ')
    (hsz : ∀ d, o.dst = some d → d < a.tmps.size) (hD : ∀ d, o.dst = some d → ¬ D d) (hM : ∀ d, o.dst = some d → vo.rowed = true → M d) (ht : ∀ nm, t0 nm ≤ σ.tips nm) : Does P D M G a o w σ' := by
  simp only [compileOp] at hc
  split at hc
  · rename_i e l' c' hu hl hcc
    split at hc
    · rename_i i zs hi hz
      cases hc
      obtain ⟨d, v, hd, hv, rfl⟩ := step1_pure rfl hs
      simp only [pureOp] at hv
      split at hv
      · rename_i lv cv el ec
        split at hv
        · rename_i hg; cases hv
          exact does_mkslice h hop hu hi hz hl hcc el ec hg hd (hsz d hd) (hD d hd) (hM d hd rfl) (ht _)
        · cases hv
      · cases hv
    · cases hc
  · cases hc

theorem does_store (h : SR D M G σ a.tmps w) {t : TypeId} {x y : Operand} (hop : o.op = .store t x y) {vo : VOp} (hc : compileOp P hh o.dst (.store t x y) = some vo) {σ' : St} (hs : step1 cf sg σ t0 o.dst vo = some σ') : Does P D M G a o w σ' := by
  simp only [compileOp] at hc
  split at hc
  · rename_i sz x' y' hz hx hy
    split at hc
    · cases hc
      simp only [step1] at hs
      cases hd : o.dst with
      | some d => rw [hd] at hs; cases hs
      | none =>
        rw [hd] at hs
        simp only [storeAt] at hs
        split at hs
        · rename_i s s' c off e1 e2
          split at hs
          · rename_i c' n cs e3
            split at hs
            · rename_i hcc
              obtain ⟨rfl, rfl, hf⟩ := hcc
              cases hs
              exact does_store_r h hop hz hx hy e2 e3 hf hd
            · cases hs
          · cases hs
        · rename_i b off e1 e2
          split at hs
          · rename_i cs e3
            split at hs
            · rename_i hf; cases hs; exact does_store_b h hop hz hx hy e2 e3 hf hd
            · cases hs
          · cases hs
        · rename_i av nm k cs off e1 e2
          split at hs
          · rename_i hcc
            obtain ⟨rfl, hlk, hnm, hf⟩ := hcc
            cases hs
            exact does_store_e h hop hz hx hy e2 hlk hnm hf hd
          · cases hs
        · cases hs
    · cases hc
  · cases hc

/-- One that only answers. -/
theorem does_pure (h : SR D M G σ a.tmps w) {vo : VOp} (hc : compileOp P hh o.dst o.op = some vo) (hp : vo.isP = true) (hm : vo.makesS = false) {σ' : St} (hs : step1 cf sg σ t0 o.dst vo = some σ') (hsz : ∀ d, o.dst = some d → d < a.tmps.size) : Does P D M G a o w σ' := by
  obtain ⟨d, v, hd, hv, rfl⟩ := step1_pure hp hs
  exact does_ans h hd (hsz d hd) (ans_pure h hc hp hm hv)

theorem does_convert (h : SR D M G σ a.tmps w) {src dst : TypeId} {x : Operand} (hop : o.op = .convert src dst x) {vo : VOp} (hc : compileOp P hh o.dst (.convert src dst x) = some vo) {σ' : St} (hs : step1 cf sg σ t0 o.dst vo = some σ') (hsz : ∀ d, o.dst = some d → d < a.tmps.size) : Does P D M G a o w σ' := by
  by_cases hm : vo.makesS = true
  · simp only [compileOp] at hc
    split at hc
    · cases hc; cases hm
    · cases hc; cases hm
    · split at hc
      · cases hc; cases hm
      · cases hc
    · rename_i e y hsr hde hy
      split at hc
      · rename_i he
        cases hc
        obtain ⟨d, v, hd, hv, rfl⟩ := step1_pure rfl hs
        simp only [pureOp] at hv
        split at hv
        · rename_i s e1
          split at hv
          · rename_i hl; cases hv
            exact does_toBytes h hop hy hsr hde he e1 (by simp only [maxLen]; omega) hd (hsz d hd)
          · cases hv
        · cases hv
      · cases hc
    · cases hc
  · have hp : vo.isP = true := by
      simp only [compileOp] at hc
      split at hc
      · cases hc; rfl
      · cases hc; rfl
      · split at hc
        · cases hc; rfl
        · cases hc
      · split at hc
        · cases hc; rfl
        · cases hc
      · cases hc
    exact does_pure h (by rw [hop]; exact hc) hp (by simpa using hm) hs hsz

theorem toList_one2 {α : Type} {xs : Array α} {x y : α} (h : xs.toList = [x, y]) : xs = #[x, y] := Array.ext' (by simpa using h)

theorem does_callop (h : SR D M G σ a.tmps w) {c : Call} (hop : o.op = .call c) {vo : VOp} (hc : compileOp P hh o.dst (.call c) = some vo) (hn : vo.calls = false) {σ' : St} (hs : step1 cf sg σ t0 o.dst vo = some σ') (hsz : ∀ d, o.dst = some d → d < a.tmps.size) : Does P D M G a o w σ' := by
  have hc0 := hc
  by_cases hp : vo.isP = true ∧ vo.makesS = false
  · exact does_pure h (by rw [hop]; exact hc) hp.1 hp.2 hs hsz
  · obtain ⟨callee, args, argTypes⟩ := c
    simp only [compileOp] at hc
    split at hc
    · cases hx : opdsOf args.toList with
      | none => rw [hx] at hc; cases hc
      | some ys => rw [hx] at hc; cases hc; cases hn
    · split at hc
      · cases hc; cases hn
      · cases hc
    · split at hc
      · rename_i t u x y ht hx
        have e1 := toList_one2 ht
        have e2 := toList_one2 hx
        subst e1 e2
        have fin : ∀ {e : TypeId} {s' x' : Opd} {td : TypeDesc} {i : TypeInfo}, P.underlying t = some (.slice e) → P.underlying u = some td → (∀ k, td ≠ .int k) → opdOf x = some s' → opdOf y = some x' → P.info? e = some i →
            (match i.zero with
              | some zv => if zv.cells.size = i.size ∧ 0 < i.size then some (VOp.append i.size i.bytes ((o.dst.map hh.cut.contains).getD false) s' x' (avOf hh o.dst)) else none
              | none => none) = some vo → Does P D M G a o w σ' := by
          intro e s' x' td i h1 h2 h3 h4 h5 h6 h7
          split at h7
          · rename_i zv hz
            split at h7
            · rename_i hzs
              cases h7
              simp only [step1] at hs
              split at hs
              · rename_i d m news hd hsrc
                split at hs
                · rename_i hk
                  exact does_append h hop h1 h2 h3 h6 hz hzs.1 hzs.2 h4 h5 hsrc hk.1 hs hd (hsz d hd)
                · cases hs
              · cases hs
            · cases h7
          · cases h7
        split at hc
        · rename_i e e' s' x' h1 h2 h3 h4
          cases hi : P.info? e with
          | none => rw [hi] at hc; cases hc
          | some i =>
            rw [hi] at hc
            exact fin h1 h2 (by simp) h3 h4 hi hc
        · rename_i e s' x' h1 h2 h3 h4
          cases hi : P.info? e with
          | none => rw [hi] at hc; cases hc
          | some i =>
            rw [hi] at hc
            exact fin h1 h2 (by simp) h3 h4 hi hc
        · cases hc
      · cases hc
    · split at hc
      · split at hc
        · cases hc; exact absurd ⟨rfl, rfl⟩ hp
        · cases hc; exact absurd ⟨rfl, rfl⟩ hp
        · cases hc; exact absurd ⟨rfl, rfl⟩ hp
        · cases hc
      · cases hc
    · split at hc
      · cases hc; exact absurd ⟨rfl, rfl⟩ hp
      · cases hc
    · split at hc
      · cases hc; exact absurd ⟨rfl, rfl⟩ hp
      · cases hc
    · cases hc

/-- EVERY OPERATION THAT IS NO CALL. -/
theorem does_op (h : SR D M G σ a.tmps w) {vo : VOp} (hc : compileOp P hh o.dst o.op = some vo) (hn : vo.calls = false) {σ' : St} (hs : step1 cf sg σ t0 o.dst vo = some σ') (hsz : ∀ d, o.dst = some d → d < a.tmps.size)
    (hD : ∀ d, o.dst = some d → ¬ D d) (hM : ∀ d, o.dst = some d → vo.rowed = true → M d) (ht : ∀ nm, t0 nm ≤ σ.tips nm) : Does P D M G a o w σ' := by
  have pureCase : ∀ {op : Op}, o.op = op → (∀ vo, compileOp P hh o.dst op = some vo → vo.isP = true ∧ vo.makesS = false) → Does P D M G a o w σ' := fun hop hq => by
    obtain ⟨h1, h2⟩ := hq vo (by rw [← hop]; exact hc)
    exact does_pure h hc h1 h2 hs hsz
  cases hop : o.op with
  | alloc t => rw [hop] at hc; exact does_alloc h hop hc hs hsz hD
  | box t x => rw [hop] at hc; exact does_box h hop hc hs hsz hD
  | buildSlice t l ps => rw [hop] at hc; exact does_buildSlice h hop hc hs hsz hD hM ht
  | makeSlice t l c => rw [hop] at hc; exact does_makeSlice h hop hc hs hsz hD hM ht
  | store t x y => rw [hop] at hc; exact does_store h hop hc hs
  | convert s t x => rw [hop] at hc; exact does_convert h hop hc hs hsz
  | call c => rw [hop] at hc; exact does_callop h hop hc hn hs hsz
  | slice t x lo hi mx =>
    cases mx with
    | none =>
      exact pureCase hop (by
      intro vo hc
      simp only [compileOp] at hc
      repeat' first
        | (cases hc; done)
        | (cases hc; exact ⟨rfl, rfl⟩)
        | (obtain ⟨_, _, rfl⟩ := Option.map_eq_some_iff.1 hc; exact ⟨rfl, rfl⟩)
        | split at hc)
    | some m => rw [hop] at hc; simp only [compileOp] at hc; cases hc
  | _ =>
    exact pureCase hop (by
      intro vo hc
      simp only [compileOp] at hc
      repeat' first
        | (cases hc; done)
        | (cases hc; exact ⟨rfl, rfl⟩)
        | (obtain ⟨_, _, rfl⟩ := Option.map_eq_some_iff.1 hc; exact ⟨rfl, rfl⟩)
        | split at hc)
end
end Go.VM
