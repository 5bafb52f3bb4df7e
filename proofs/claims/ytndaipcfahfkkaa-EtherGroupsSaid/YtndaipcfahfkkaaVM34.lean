/- The machine run step by step: rules for rewriting, with what is to come handed along. -/
import Derived.Test.YtndaipcfahfkkaaVM33
namespace Go.VM

section
variable (cf : CallF) (sg : Nat → Sig) (m : Nat)
abbrev Res := Option (V × BX)

def execK (c : VC) (σ : St) (k : Ex → St → Res) : Res := match exec cf sg m c σ with
  | some (e, τ) => k e τ
  | none => none
def runK (t0 : Nat → Nat) (ops : List VOper) (σ : St) (k : St → Res) : Res := match runOps cf sg t0 σ ops with
  | some τ => k τ
  | none => none
def loopK (c : VC) (n : Nat) (σ : St) (k : Ex → St → Res) : Res := match iter (exec cf sg m c) n σ with
  | some (e, τ) => k e τ
  | none => none
/-- Behind the first of two. -/
def seqK (c : VC) (k : Ex → St → Res) : Ex → St → Res
  | .nrm, τ => execK cf sg m c τ k
  | .exit id, τ => k (.exit id) τ
  | .ret, τ => k .ret τ
/-- Behind a round. -/
def againK (c : VC) (n : Nat) (k : Ex → St → Res) : Ex → St → Res
  | .nrm, τ => loopK cf sg m c n τ k
  | .exit id, τ => k (.exit id) τ
  | .ret, τ => k .ret τ
end
def blockK (id : Nat) (k : Ex → St → Res) : Ex → St → Res
  | .nrm, τ => k .nrm τ
  | .exit id', τ => if id' = id then k .nrm τ else k (.exit id') τ
  | .ret, τ => k .ret τ
/-- Behind a region. -/
def endK (n : Nat) (k : Ex → St → Res) (τ : St) : Res := k .nrm { τ with env := τ.env.take n }
/-- Behind a body. -/
def finK (vf : VF) (n : Nat) : Ex → St → Res
  | .nrm, τ | .ret, τ => match resVals (get τ.env) vf.res with
    | some vs => some (packed (finish τ.tips τ.lk vs), keepBoxes n (finish τ.tips τ.lk vs) τ.bx)
    | none => none
  | .exit _, _ => none
/-- What simp is to leave alone: nothing here is visited before its turn. -/
def Pin {α : Type} (_ : α) : Type := Unit
def optK {α : Type} (x : Option α) (k : α → Res) (_ : Pin k := ()) : Res := match x with
  | some v => k v
  | none => none

/-- Two ways. -/
def brK (p : Bool) (x y : Res) : Res := if p = true then x else y
theorem brK_congr {p q : Bool} {x x' y y' : Res} (h : p = q) (hx : q = true → x = x') (hy : q = false → y = y') : brK p x y = brK q x' y' := by
  subst h
  cases p
  · exact hy rfl
  · exact hx rfl
@[simp ↓] theorem brK_true {x y : Res} : brK true x y = x := rfl
@[simp ↓] theorem brK_false {x y : Res} : brK false x y = y := rfl
@[simp] theorem brK_not {p : Bool} {x y : Res} : brK (!p) x y = brK p y x := by cases p <;> rfl
@[simp] theorem brK_and {p q : Bool} {bx : BX} : brK p (some (.bool q, bx)) (some (.bool false, bx)) = some (.bool (p && q), bx) := by cases p <;> rfl
@[simp] theorem brK_or {p q : Bool} {bx : BX} : brK p (some (.bool true, bx)) (some (.bool q, bx)) = some (.bool (p || q), bx) := by cases p <;> rfl
@[simp] theorem brK_same {p : Bool} {x : Res} : brK p x x = x := by cases p <;> rfl
theorem brK_ite {c : Prop} [Decidable c] {x y : Res} : brK (decide c) x y = if c then x else y := by
  by_cases h : c <;> simp [brK, h]

/-- By a value. -/
def condK (x : V) (a b : Res) (_ : Pin (a, b) := ()) : Res := match x with
  | .bool p => brK p a b
  | _ => none
@[simp ↓] theorem condK_bool {p : Bool} {a b : Res} : condK (.bool p) a b = brK p a b := rfl
def guardK (x : V) (w : Bool) (a b c : Res) (_ : Pin (a, b, c) := ()) : Res := match x with
  | .bool p => brK (p == w) a b
  | .tup [] => c
  | _ => none
@[simp ↓] theorem guardK_true {p : Bool} {a b c : Res} : guardK (.bool p) true a b c = brK p a b := by cases p <;> rfl
@[simp ↓] theorem guardK_false {p : Bool} {a b c : Res} : guardK (.bool p) false a b c = brK p b a := by cases p <;> rfl
@[simp ↓] theorem guardK_tup {w : Bool} {a b c : Res} : guardK (.tup []) w a b c = c := rfl
/-- Passed over. -/
def skipK (cf : CallF) (sg : Nat → Sig) (t0 : Nat → Nat) (r : List VOper) (d : Nat) (clk : Nat) (e : Env) (tips : Nat → Nat) (lk : Nat → Bool) (bx : BX) (kk : St → Res) : Res :=
  if isReg (get e d) = true then none else runK cf sg t0 r ⟨clk, set e d (.tup []), tips, lk, bx⟩ kk

section
variable {cf : CallF} {sg : Nat → Sig} {m : Nat} {t0 : Nat → Nat} {clk : Nat} {e : Env} {tips : Nat → Nat} {lk : Nat → Bool} {bx : BX} {k : Ex → St → Res} {kk : St → Res}

theorem call_code {F : Nat → Option Entry} {f N : Nat} {vf : VF} {args : List V} (h : F f = some (.code vf)) :
    call F (N + 1) f args bx = execK (call F N) (sigOf F) N vf.code ⟨0, entry vf args, fun _ => 0, fun nm => decide (nm < 64), bx⟩ (finK vf bx.length) := by
  simp only [call, h, endOf, execK, start]
  cases exec (call F N) (sigOf F) N vf.code ⟨0, entry vf args, fun _ => 0, fun nm => decide (nm < 64), bx⟩ with
  | none => rfl
  | some x => obtain ⟨e, τ⟩ := x; cases e <;> rfl

@[simp ↓] theorem execK_skip {σ : St} : execK cf sg m .skip σ k = k .nrm σ := rfl
@[simp ↓] theorem execK_ret {σ : St} : execK cf sg m .ret σ k = k .ret σ := rfl
@[simp ↓] theorem execK_exit {id : Nat} {σ : St} : execK cf sg m (.exit id) σ k = k (.exit id) σ := rfl
@[simp ↓] theorem execK_seq {a b : VC} {σ : St} : execK cf sg m (.seq a b) σ k = execK cf sg m a σ (seqK cf sg m b k) := by
  simp only [execK, exec]
  cases exec cf sg m a σ with
  | none => rfl
  | some x => obtain ⟨e, τ⟩ := x; cases e <;> rfl
@[simp ↓] theorem execK_block {id : Nat} {a : VC} {σ : St} : execK cf sg m (.block id a) σ k = execK cf sg m a σ (blockK id k) := by
  simp only [execK, exec]
  cases exec cf sg m a σ with
  | none => rfl
  | some x =>
    obtain ⟨e, τ⟩ := x
    cases e with
    | exit id' =>
      simp only [blockK]
      by_cases h : id' = id
      · simp only [if_pos h]
      · simp only [if_neg h]
    | _ => rfl
@[simp ↓] theorem execK_scope {a : VC} {σ : St} : execK cf sg m (.scope a) σ k = execK cf sg m a σ k := rfl
@[simp ↓] theorem execK_loop {a : VC} {σ : St} : execK cf sg m (.loop a) σ k = loopK cf sg m a m σ k := rfl
theorem loopK_succ {a : VC} {n : Nat} {σ : St} : loopK cf sg m a (n + 1) σ k = execK cf sg m a σ (againK cf sg m a n k) := by
  simp only [loopK, iter, execK]
  cases exec cf sg m a σ with
  | none => rfl
  | some x => obtain ⟨e, τ⟩ := x; cases e <;> rfl
@[simp] theorem execK_cond {c : Opd} {a b : VC} : execK cf sg m (.cond c a b) ⟨clk, e, tips, lk, bx⟩ k = condK (ev (get e) c) (execK cf sg m a ⟨clk, e, tips, lk, bx⟩ k) (execK cf sg m b ⟨clk, e, tips, lk, bx⟩ k) := by
  simp only [execK, exec, condK]
  cases ev (get e) c with
  | bool p => cases p <;> rfl
  | _ => rfl
@[simp] theorem execK_region {ops : List VOper} : execK cf sg m (.region ops) ⟨clk, e, tips, lk, bx⟩ k =
    runK cf sg (bump tips (makes ops)) ops ⟨clk + 1, e, bump tips (makes ops), updL lk false (makes ops), bx⟩ (endK e.length k) := by
  simp only [execK, exec, runRegion, runK]
  cases runOps cf sg (bump tips (makes ops)) ⟨clk + 1, e, bump tips (makes ops), updL lk false (makes ops), bx⟩ ops with
  | none => rfl
  | some τ => rfl

@[simp ↓] theorem seqK_nrm {c : VC} {σ : St} : seqK cf sg m c k .nrm σ = execK cf sg m c σ k := rfl
@[simp ↓] theorem seqK_exit {c : VC} {id : Nat} {σ : St} : seqK cf sg m c k (.exit id) σ = k (.exit id) σ := rfl
@[simp ↓] theorem seqK_ret {c : VC} {σ : St} : seqK cf sg m c k .ret σ = k .ret σ := rfl
@[simp ↓] theorem againK_nrm {c : VC} {n : Nat} {σ : St} : againK cf sg m c n k .nrm σ = loopK cf sg m c n σ k := rfl
@[simp ↓] theorem againK_exit {c : VC} {n id : Nat} {σ : St} : againK cf sg m c n k (.exit id) σ = k (.exit id) σ := rfl
@[simp ↓] theorem againK_ret {c : VC} {n : Nat} {σ : St} : againK cf sg m c n k .ret σ = k .ret σ := rfl
@[simp ↓] theorem blockK_nrm {id : Nat} {σ : St} : blockK id k .nrm σ = k .nrm σ := rfl
@[simp ↓] theorem blockK_exit {id id' : Nat} {σ : St} : blockK id k (.exit id') σ = if id' = id then k .nrm σ else k (.exit id') σ := rfl
@[simp ↓] theorem blockK_ret {id : Nat} {σ : St} : blockK id k .ret σ = k .ret σ := rfl
@[simp ↓] theorem endK_eq {n : Nat} : endK n k ⟨clk, e, tips, lk, bx⟩ = k .nrm ⟨clk, e.take n, tips, lk, bx⟩ := rfl

@[simp ↓] theorem finK_ret {vf : VF} {n : Nat} : finK vf n .ret ⟨clk, e, tips, lk, bx⟩ = optK (resVals (get e) vf.res) fun vs => some (packed (finish tips lk vs), keepBoxes n (finish tips lk vs) bx) := by
  simp only [finK, optK]
  cases resVals (get e) vf.res <;> rfl
@[simp ↓] theorem finK_nrm {vf : VF} {n : Nat} : finK vf n .nrm ⟨clk, e, tips, lk, bx⟩ = optK (resVals (get e) vf.res) fun vs => some (packed (finish tips lk vs), keepBoxes n (finish tips lk vs) bx) := by
  simp only [finK, optK]
  cases resVals (get e) vf.res <;> rfl
@[simp ↓] theorem optK_some {α : Type} {v : α} {k : α → Res} : optK (some v) k = k v := rfl
@[simp ↓] theorem optK_none {α : Type} {k : α → Res} : optK (none : Option α) k = none := rfl
theorem optK_ite {α : Type} {c : Prop} [Decidable c] {x y : Option α} {k : α → Res} : optK (if c then x else y) k = if c then optK x k else optK y k := by split <;> rfl
@[simp ↓] theorem optK_if {α : Type} {c : Prop} [Decidable c] {x : Option α} {k : α → Res} : optK (if c then x else none) k = if c then optK x k else none := by split <;> rfl

@[simp ↓] theorem runK_nil {σ : St} : runK cf sg t0 [] σ kk = kk σ := rfl

theorem runK_step {o : VOper} {r : List VOper} {σ : St} : runK cf sg t0 (o :: r) σ kk = optK (stepOp cf sg t0 σ o) fun τ => runK cf sg t0 r τ kk := by
  simp only [runK, runOps, optK]
  cases stepOp cf sg t0 σ o <;> rfl

/-- One that is not passed over. -/
theorem runK_go {d : Option Nat} {op : VOp} {r : List VOper} : runK cf sg t0 (⟨d, op, none⟩ :: r) ⟨clk, e, tips, lk, bx⟩ kk =
    if (regAt (get e) d && !op.makesR) = true then none else optK (step1 cf sg ⟨clk, e, tips, lk, bx⟩ t0 d op) fun τ => runK cf sg t0 r τ kk := by
  rw [runK_step]
  have e1 : stepOp cf sg t0 ⟨clk, e, tips, lk, bx⟩ ⟨d, op, none⟩ = if (regAt (get e) d && !op.makesR) = true then none else step1 cf sg ⟨clk, e, tips, lk, bx⟩ t0 d op := rfl
  rw [e1]
  by_cases h : (regAt (get e) d && !op.makesR) = true
  · rw [if_pos h, if_pos h]; rfl
  · rw [if_neg h, if_neg h]

/-- An operation that only answers. -/
theorem runK_pure {d : Nat} {op : VOp} {r : List VOper} (hp : op.isP = true) : runK cf sg t0 (⟨some d, op, none⟩ :: r) ⟨clk, e, tips, lk, bx⟩ kk =
    if (isReg (get e d) && !op.makesR) = true then none else optK (pureOp (get e) t0 clk bx d op) fun v => runK cf sg t0 r ⟨clk, set e d v, tips, lk, bx⟩ kk := by
  rw [runK_go]
  show (if (isReg (get e d) && !op.makesR) = true then none else _) = _
  by_cases h : (isReg (get e d) && !op.makesR) = true
  · rw [if_pos h, if_pos h]
  · rw [if_neg h, if_neg h, step1_answer hp]
    simp only [answer]
    cases pureOp (get e) t0 clk bx d op <;> rfl

theorem set_self {e : Env} {s : Nat} {v : V} (h : get e s = v) (hv : v ≠ .undef) : set e s v = e := by
  induction e with
  | nil => exact absurd h.symm hv
  | cons x r ih =>
    obtain ⟨a, u⟩ := x
    simp only [get] at h
    simp only [set]
    by_cases ha : a = s
    · rw [if_pos ha] at h ⊢; rw [h]
    · rw [if_neg ha] at h ⊢; rw [ih h]

/-- One that may be passed over. -/
theorem runK_guard {s : Nat} {w : Bool} {r : List VOper} {d : Nat} {op : VOp} : runK cf sg t0 (⟨some d, op, some (s, w)⟩ :: r) ⟨clk, e, tips, lk, bx⟩ kk =
    guardK (get e s) w (runK cf sg t0 (⟨some d, op, none⟩ :: r) ⟨clk, set e s (.bool w), tips, lk, bx⟩ kk) (skipK cf sg t0 r d clk (set e s (.bool (!w))) tips lk bx kk) (skipK cf sg t0 r d clk e tips lk bx kk) := by
  have skip : ∀ e : Env, wantedV (get e) (some (s, w)) = some false → runK cf sg t0 (⟨some d, op, some (s, w)⟩ :: r) ⟨clk, e, tips, lk, bx⟩ kk = skipK cf sg t0 r d clk e tips lk bx kk := fun e he => by
    rw [runK_step]
    have e1 : stepOp cf sg t0 ⟨clk, e, tips, lk, bx⟩ ⟨some d, op, some (s, w)⟩ = if isReg (get e d) = true then none else some ⟨clk, set e d (.tup []), tips, lk, bx⟩ := by
      unfold stepOp
      simp only [he]
    rw [e1]
    unfold skipK
    by_cases hr : isReg (get e d) = true
    · rw [if_pos hr, if_pos hr]; rfl
    · rw [if_neg hr, if_neg hr]; rfl
  cases hs : get e s with
  | bool b =>
    by_cases hb : b = w
    · subst hb
      rw [set_self hs (by simp)]
      simp only [guardK, beq_self_eq_true, brK_true]
      simp only [runK, runOps, stepOp, wantedV, hs, beq_self_eq_true]
    · have hbw : (b == w) = false := by simpa using hb
      have hb2 : b = !w := by cases b <;> cases w <;> first | rfl | exact absurd rfl hb
      simp only [guardK, hbw, brK_false]
      rw [← hb2, set_self hs (by simp)]
      exact skip e (by simp only [wantedV, hs, hbw])
  | tup vs =>
    cases vs with
    | nil => exact skip e (by simp only [wantedV, hs])
    | cons => simp only [guardK, runK, runOps, stepOp, wantedV, hs]
  | _ => simp only [guardK, runK, runOps, stepOp, wantedV, hs]
end

@[simp] theorem keepBoxes_same (vs : List V) (bx : BX) : keepBoxes bx.length vs bx = bx := by simp [keepBoxes]

@[simp] theorem isP_mv {x : Opd} : (VOp.mv x).isP = true := rfl
@[simp] theorem makesR_mv {x : Opd} : (VOp.mv x).makesR = false := rfl
@[simp] theorem isP_pick {c : Opd} {a : Opd} {b : Opd} : (VOp.pick c a b).isP = true := rfl
@[simp] theorem makesR_pick {c : Opd} {a : Opd} {b : Opd} : (VOp.pick c a b).makesR = false := rfl
@[simp] theorem isP_allocR {zs : List V} : (VOp.allocR zs).isP = true := rfl
@[simp] theorem makesR_allocR {zs : List V} : (VOp.allocR zs).makesR = true := rfl
@[simp] theorem isP_boxR {sz : Nat} {x : Opd} : (VOp.boxR sz x).isP = true := rfl
@[simp] theorem makesR_boxR {sz : Nat} {x : Opd} : (VOp.boxR sz x).makesR = true := rfl
@[simp] theorem makesR_allocB {zs : List V} : (VOp.allocB zs).makesR = false := rfl
@[simp] theorem makesR_boxB {sz : Nat} {x : Opd} : (VOp.boxB sz x).makesR = false := rfl
@[simp] theorem isP_build {zs : List V} {ps : List (Nat × Nat × Opd)} : (VOp.build zs ps).isP = true := rfl
@[simp] theorem makesR_build {zs : List V} {ps : List (Nat × Nat × Opd)} : (VOp.build zs ps).makesR = false := rfl
@[simp] theorem isP_bslice {z n : Nat} {zs : List V} {ps : List (Nat × Nat × Opd)} : (VOp.bslice false z n zs ps).isP = true := rfl
@[simp] theorem makesR_bslice {lky : Bool} {z : Nat} {n : Nat} {zs : List V} {ps : List (Nat × Nat × Opd)} : (VOp.bslice lky z n zs ps).makesR = false := rfl
@[simp] theorem isP_load {rt : RT} {agg : Bool} {sz : Nat} {a : Opd} : (VOp.load rt agg sz a).isP = true := rfl
@[simp] theorem makesR_load {rt : RT} {agg : Bool} {sz : Nat} {a : Opd} : (VOp.load rt agg sz a).makesR = false := rfl
@[simp] theorem makesR_store {rt : RT} {sz : Nat} {a : Opd} {x : Opd} : (VOp.store rt sz a x).makesR = false := rfl
@[simp] theorem isP_nilck {x : Opd} : (VOp.nilck x).isP = true := rfl
@[simp] theorem makesR_nilck {x : Opd} : (VOp.nilck x).makesR = false := rfl
@[simp] theorem isP_bin {op : BinOp} {x : Opd} {y : Opd} : (VOp.bin op x y).isP = true := rfl
@[simp] theorem makesR_bin {op : BinOp} {x : Opd} {y : Opd} : (VOp.bin op x y).makesR = false := rfl
@[simp] theorem isP_eq {neq : Bool} {k : EK} {x : Opd} {y : Opd} : (VOp.eq neq k x y).isP = true := rfl
@[simp] theorem makesR_eq {neq : Bool} {k : EK} {x : Opd} {y : Opd} : (VOp.eq neq k x y).makesR = false := rfl
@[simp] theorem isP_unop {op : UnOp} {x : Opd} : (VOp.unop op x).isP = true := rfl
@[simp] theorem makesR_unop {op : UnOp} {x : Opd} : (VOp.unop op x).makesR = false := rfl
@[simp] theorem isP_convI {k : IntKind} {x : Opd} : (VOp.convI k x).isP = true := rfl
@[simp] theorem makesR_convI {k : IntKind} {x : Opd} : (VOp.convI k x).makesR = false := rfl
@[simp] theorem isP_convS {x : Opd} : (VOp.convS x).isP = true := rfl
@[simp] theorem makesR_convS {x : Opd} : (VOp.convS x).makesR = false := rfl
@[simp] theorem isP_toStr {x : Opd} {av : List Nat} : (VOp.toStr x av).isP = true := rfl
@[simp] theorem makesR_toStr {x : Opd} {av : List Nat} : (VOp.toStr x av).makesR = false := rfl
@[simp] theorem isP_toBytes {x : Opd} : (VOp.toBytes x).isP = true := rfl
@[simp] theorem makesR_toBytes {x : Opd} : (VOp.toBytes x).makesR = false := rfl
@[simp] theorem isP_fieldA {off : Nat} {x : Opd} : (VOp.fieldA off x).isP = true := rfl
@[simp] theorem makesR_fieldA {off : Nat} {x : Opd} : (VOp.fieldA off x).makesR = false := rfl
@[simp] theorem isP_field {agg : Bool} {off : Nat} {sz : Nat} {x : Opd} : (VOp.field agg off sz x).isP = true := rfl
@[simp] theorem makesR_field {agg : Bool} {off : Nat} {sz : Nat} {x : Opd} : (VOp.field agg off sz x).makesR = false := rfl
@[simp] theorem isP_idxS {z : Nat} {x : Opd} {i : Opd} : (VOp.idxS z x i).isP = true := rfl
@[simp] theorem makesR_idxS {z : Nat} {x : Opd} {i : Opd} : (VOp.idxS z x i).makesR = false := rfl
@[simp] theorem isP_idxA {len : Nat} {z : Nat} {x : Opd} {i : Opd} : (VOp.idxA len z x i).isP = true := rfl
@[simp] theorem makesR_idxA {len : Nat} {z : Nat} {x : Opd} {i : Opd} : (VOp.idxA len z x i).makesR = false := rfl
@[simp] theorem isP_ixA {agg : Bool} {len : Nat} {z : Nat} {x : Opd} {i : Opd} : (VOp.ixA agg len z x i).isP = true := rfl
@[simp] theorem makesR_ixA {agg : Bool} {len : Nat} {z : Nat} {x : Opd} {i : Opd} : (VOp.ixA agg len z x i).makesR = false := rfl
@[simp] theorem isP_ixS {x : Opd} {i : Opd} : (VOp.ixS x i).isP = true := rfl
@[simp] theorem makesR_ixS {x : Opd} {i : Opd} : (VOp.ixS x i).makesR = false := rfl
@[simp] theorem isP_cutS {x : Opd} {lo : Option Opd} {hi : Option Opd} : (VOp.cutS x lo hi).isP = true := rfl
@[simp] theorem makesR_cutS {x : Opd} {lo : Option Opd} {hi : Option Opd} : (VOp.cutS x lo hi).makesR = false := rfl
@[simp] theorem isP_cut {z : Nat} {x : Opd} {lo : Option Opd} {hi : Option Opd} : (VOp.cut z x lo hi).isP = true := rfl
@[simp] theorem makesR_cut {z : Nat} {x : Opd} {lo : Option Opd} {hi : Option Opd} : (VOp.cut z x lo hi).makesR = false := rfl
@[simp] theorem isP_cutR {s : Nat} {len : Nat} {z : Nat} {x : Opd} {lo : Option Opd} {hi : Option Opd} : (VOp.cutR s len z x lo hi).isP = true := rfl
@[simp] theorem makesR_cutR {s : Nat} {len : Nat} {z : Nat} {x : Opd} {lo : Option Opd} {hi : Option Opd} : (VOp.cutR s len z x lo hi).makesR = false := rfl
@[simp] theorem isP_mkslice {z : Nat} {bytes : Nat} {zs : List V} {l : Opd} {c : Opd} : (VOp.mkslice z bytes zs l c).isP = true := rfl
@[simp] theorem makesR_mkslice {z : Nat} {bytes : Nat} {zs : List V} {l : Opd} {c : Opd} : (VOp.mkslice z bytes zs l c).makesR = false := rfl
@[simp] theorem makesR_append {z : Nat} {bytes : Nat} {cut : Bool} {s : Opd} {x : Opd} {av : List Nat} : (VOp.append z bytes cut s x av).makesR = false := rfl
@[simp] theorem isP_len {st : Bool} {x : Opd} : (VOp.len st x).isP = true := rfl
@[simp] theorem makesR_len {st : Bool} {x : Opd} : (VOp.len st x).makesR = false := rfl
@[simp] theorem isP_lenC {n : Nat} : (VOp.lenC n).isP = true := rfl
@[simp] theorem makesR_lenC {n : Nat} : (VOp.lenC n).makesR = false := rfl
@[simp] theorem isP_extract {i : Nat} {x : Opd} : (VOp.extract i x).isP = true := rfl
@[simp] theorem makesR_extract {i : Nat} {x : Opd} : (VOp.extract i x).makesR = false := rfl
@[simp] theorem isP_arrptr {n : Nat} {z : Nat} {x : Opd} : (VOp.arrptr n z x).isP = true := rfl
@[simp] theorem makesR_arrptr {n : Nat} {z : Nat} {x : Opd} : (VOp.arrptr n z x).makesR = false := rfl
@[simp] theorem makesR_call {f : Nat} {args : List Opd} {q : Bool} {av : List Nat} : (VOp.call f args q av).makesR = false := rfl
@[simp] theorem makesR_callv {x : Opd} {args : List Opd} {q : Bool} {av : List Nat} : (VOp.callv x args q av).makesR = false := rfl
@[simp] theorem isP_fail  : VOp.fail.isP = true := rfl
@[simp] theorem makesR_fail  : VOp.fail.makesR = false := rfl
@[simp] theorem isP_mkfn {f : Fn} {a : List Opd} {b : List Opd} : (VOp.mkfn f a b).isP = true := rfl
@[simp] theorem makesR_mkfn {f : Fn} {a : List Opd} {b : List Opd} : (VOp.mkfn f a b).makesR = false := rfl
@[simp] theorem isP_mkiface {t : TypeId} {x : Opd} : (VOp.mkiface t x).isP = true := rfl
@[simp] theorem makesR_mkiface {t : TypeId} {x : Opd} : (VOp.mkiface t x).makesR = false := rfl
@[simp] theorem isP_minmax {mx : Bool} {x : Opd} {args : List Opd} : (VOp.minmax mx x args).isP = true := rfl
@[simp] theorem makesR_minmax {mx : Bool} {x : Opd} {args : List Opd} : (VOp.minmax mx x args).makesR = false := rfl
section
variable {cf : CallF} {sg : Nat → Sig} {t0 : Nat → Nat} {clk : Nat} {e : Env} {tips : Nat → Nat} {lk : Nat → Bool} {bx : BX} {kk : St → Res}
@[simp] theorem runK_mv {d : Nat} {x : Opd} {r : List VOper} : runK cf sg t0 (⟨some d, .mv x, none⟩ :: r) ⟨clk, e, tips, lk, bx⟩ kk = if isReg (get e d) = true then none else optK (pureOp (get e) t0 clk bx d (VOp.mv x)) fun v => runK cf sg t0 r ⟨clk, set e d v, tips, lk, bx⟩ kk := by
  rw [runK_pure rfl]; simp
@[simp] theorem runK_pick {d : Nat} {c : Opd} {a : Opd} {b : Opd} {r : List VOper} : runK cf sg t0 (⟨some d, .pick c a b, none⟩ :: r) ⟨clk, e, tips, lk, bx⟩ kk = if isReg (get e d) = true then none else optK (pureOp (get e) t0 clk bx d (VOp.pick c a b)) fun v => runK cf sg t0 r ⟨clk, set e d v, tips, lk, bx⟩ kk := by
  rw [runK_pure rfl]; simp
@[simp] theorem runK_allocR {d : Nat} {zs : List V} {r : List VOper} : runK cf sg t0 (⟨some d, .allocR zs, none⟩ :: r) ⟨clk, e, tips, lk, bx⟩ kk = optK (pureOp (get e) t0 clk bx d (VOp.allocR zs)) fun v => runK cf sg t0 r ⟨clk, set e d v, tips, lk, bx⟩ kk := by
  rw [runK_pure rfl]; simp
@[simp] theorem runK_boxR {d : Nat} {sz : Nat} {x : Opd} {r : List VOper} : runK cf sg t0 (⟨some d, .boxR sz x, none⟩ :: r) ⟨clk, e, tips, lk, bx⟩ kk = optK (pureOp (get e) t0 clk bx d (VOp.boxR sz x)) fun v => runK cf sg t0 r ⟨clk, set e d v, tips, lk, bx⟩ kk := by
  rw [runK_pure rfl]; simp
@[simp] theorem runK_build {d : Nat} {zs : List V} {ps : List (Nat × Nat × Opd)} {r : List VOper} : runK cf sg t0 (⟨some d, .build zs ps, none⟩ :: r) ⟨clk, e, tips, lk, bx⟩ kk = if isReg (get e d) = true then none else optK (pureOp (get e) t0 clk bx d (VOp.build zs ps)) fun v => runK cf sg t0 r ⟨clk, set e d v, tips, lk, bx⟩ kk := by
  rw [runK_pure rfl]; simp
@[simp] theorem runK_bslice {d : Nat} {z : Nat} {n : Nat} {zs : List V} {ps : List (Nat × Nat × Opd)} {r : List VOper} : runK cf sg t0 (⟨some d, .bslice false z n zs ps, none⟩ :: r) ⟨clk, e, tips, lk, bx⟩ kk = if isReg (get e d) = true then none else optK (pureOp (get e) t0 clk bx d (VOp.bslice false z n zs ps)) fun v => runK cf sg t0 r ⟨clk, set e d v, tips, lk, bx⟩ kk := by
  rw [runK_pure rfl]; simp
@[simp] theorem runK_load {d : Nat} {rt : RT} {agg : Bool} {sz : Nat} {a : Opd} {r : List VOper} : runK cf sg t0 (⟨some d, .load rt agg sz a, none⟩ :: r) ⟨clk, e, tips, lk, bx⟩ kk = if isReg (get e d) = true then none else optK (pureOp (get e) t0 clk bx d (VOp.load rt agg sz a)) fun v => runK cf sg t0 r ⟨clk, set e d v, tips, lk, bx⟩ kk := by
  rw [runK_pure rfl]; simp
@[simp] theorem runK_nilck {d : Nat} {x : Opd} {r : List VOper} : runK cf sg t0 (⟨some d, .nilck x, none⟩ :: r) ⟨clk, e, tips, lk, bx⟩ kk = if isReg (get e d) = true then none else optK (pureOp (get e) t0 clk bx d (VOp.nilck x)) fun v => runK cf sg t0 r ⟨clk, set e d v, tips, lk, bx⟩ kk := by
  rw [runK_pure rfl]; simp
@[simp] theorem runK_bin {d : Nat} {op : BinOp} {x : Opd} {y : Opd} {r : List VOper} : runK cf sg t0 (⟨some d, .bin op x y, none⟩ :: r) ⟨clk, e, tips, lk, bx⟩ kk = if isReg (get e d) = true then none else optK (pureOp (get e) t0 clk bx d (VOp.bin op x y)) fun v => runK cf sg t0 r ⟨clk, set e d v, tips, lk, bx⟩ kk := by
  rw [runK_pure rfl]; simp
@[simp] theorem runK_eq {d : Nat} {neq : Bool} {kd : EK} {x : Opd} {y : Opd} {r : List VOper} : runK cf sg t0 (⟨some d, .eq neq kd x y, none⟩ :: r) ⟨clk, e, tips, lk, bx⟩ kk = if isReg (get e d) = true then none else optK (pureOp (get e) t0 clk bx d (VOp.eq neq kd x y)) fun v => runK cf sg t0 r ⟨clk, set e d v, tips, lk, bx⟩ kk := by
  rw [runK_pure rfl]; simp
@[simp] theorem runK_unop {d : Nat} {op : UnOp} {x : Opd} {r : List VOper} : runK cf sg t0 (⟨some d, .unop op x, none⟩ :: r) ⟨clk, e, tips, lk, bx⟩ kk = if isReg (get e d) = true then none else optK (pureOp (get e) t0 clk bx d (VOp.unop op x)) fun v => runK cf sg t0 r ⟨clk, set e d v, tips, lk, bx⟩ kk := by
  rw [runK_pure rfl]; simp
@[simp] theorem runK_convI {d : Nat} {ki : IntKind} {x : Opd} {r : List VOper} : runK cf sg t0 (⟨some d, .convI ki x, none⟩ :: r) ⟨clk, e, tips, lk, bx⟩ kk = if isReg (get e d) = true then none else optK (pureOp (get e) t0 clk bx d (VOp.convI ki x)) fun v => runK cf sg t0 r ⟨clk, set e d v, tips, lk, bx⟩ kk := by
  rw [runK_pure rfl]; simp
@[simp] theorem runK_convS {d : Nat} {x : Opd} {r : List VOper} : runK cf sg t0 (⟨some d, .convS x, none⟩ :: r) ⟨clk, e, tips, lk, bx⟩ kk = if isReg (get e d) = true then none else optK (pureOp (get e) t0 clk bx d (VOp.convS x)) fun v => runK cf sg t0 r ⟨clk, set e d v, tips, lk, bx⟩ kk := by
  rw [runK_pure rfl]; simp
@[simp] theorem runK_toStr {d : Nat} {x : Opd} {av : List Nat} {r : List VOper} : runK cf sg t0 (⟨some d, .toStr x av, none⟩ :: r) ⟨clk, e, tips, lk, bx⟩ kk = if isReg (get e d) = true then none else optK (pureOp (get e) t0 clk bx d (VOp.toStr x av)) fun v => runK cf sg t0 r ⟨clk, set e d v, tips, lk, bx⟩ kk := by
  rw [runK_pure rfl]; simp
@[simp] theorem runK_toBytes {d : Nat} {x : Opd} {r : List VOper} : runK cf sg t0 (⟨some d, .toBytes x, none⟩ :: r) ⟨clk, e, tips, lk, bx⟩ kk = if isReg (get e d) = true then none else optK (pureOp (get e) t0 clk bx d (VOp.toBytes x)) fun v => runK cf sg t0 r ⟨clk, set e d v, tips, lk, bx⟩ kk := by
  rw [runK_pure rfl]; simp
@[simp] theorem runK_fieldA {d : Nat} {off : Nat} {x : Opd} {r : List VOper} : runK cf sg t0 (⟨some d, .fieldA off x, none⟩ :: r) ⟨clk, e, tips, lk, bx⟩ kk = if isReg (get e d) = true then none else optK (pureOp (get e) t0 clk bx d (VOp.fieldA off x)) fun v => runK cf sg t0 r ⟨clk, set e d v, tips, lk, bx⟩ kk := by
  rw [runK_pure rfl]; simp
@[simp] theorem runK_field {d : Nat} {agg : Bool} {off : Nat} {sz : Nat} {x : Opd} {r : List VOper} : runK cf sg t0 (⟨some d, .field agg off sz x, none⟩ :: r) ⟨clk, e, tips, lk, bx⟩ kk = if isReg (get e d) = true then none else optK (pureOp (get e) t0 clk bx d (VOp.field agg off sz x)) fun v => runK cf sg t0 r ⟨clk, set e d v, tips, lk, bx⟩ kk := by
  rw [runK_pure rfl]; simp
@[simp] theorem runK_idxS {d : Nat} {z : Nat} {x : Opd} {i : Opd} {r : List VOper} : runK cf sg t0 (⟨some d, .idxS z x i, none⟩ :: r) ⟨clk, e, tips, lk, bx⟩ kk = if isReg (get e d) = true then none else optK (pureOp (get e) t0 clk bx d (VOp.idxS z x i)) fun v => runK cf sg t0 r ⟨clk, set e d v, tips, lk, bx⟩ kk := by
  rw [runK_pure rfl]; simp
@[simp] theorem runK_idxA {d : Nat} {len : Nat} {z : Nat} {x : Opd} {i : Opd} {r : List VOper} : runK cf sg t0 (⟨some d, .idxA len z x i, none⟩ :: r) ⟨clk, e, tips, lk, bx⟩ kk = if isReg (get e d) = true then none else optK (pureOp (get e) t0 clk bx d (VOp.idxA len z x i)) fun v => runK cf sg t0 r ⟨clk, set e d v, tips, lk, bx⟩ kk := by
  rw [runK_pure rfl]; simp
@[simp] theorem runK_ixA {d : Nat} {agg : Bool} {len : Nat} {z : Nat} {x : Opd} {i : Opd} {r : List VOper} : runK cf sg t0 (⟨some d, .ixA agg len z x i, none⟩ :: r) ⟨clk, e, tips, lk, bx⟩ kk = if isReg (get e d) = true then none else optK (pureOp (get e) t0 clk bx d (VOp.ixA agg len z x i)) fun v => runK cf sg t0 r ⟨clk, set e d v, tips, lk, bx⟩ kk := by
  rw [runK_pure rfl]; simp
@[simp] theorem runK_ixS {d : Nat} {x : Opd} {i : Opd} {r : List VOper} : runK cf sg t0 (⟨some d, .ixS x i, none⟩ :: r) ⟨clk, e, tips, lk, bx⟩ kk = if isReg (get e d) = true then none else optK (pureOp (get e) t0 clk bx d (VOp.ixS x i)) fun v => runK cf sg t0 r ⟨clk, set e d v, tips, lk, bx⟩ kk := by
  rw [runK_pure rfl]; simp
@[simp] theorem runK_cutS {d : Nat} {x : Opd} {lo : Option Opd} {hi : Option Opd} {r : List VOper} : runK cf sg t0 (⟨some d, .cutS x lo hi, none⟩ :: r) ⟨clk, e, tips, lk, bx⟩ kk = if isReg (get e d) = true then none else optK (pureOp (get e) t0 clk bx d (VOp.cutS x lo hi)) fun v => runK cf sg t0 r ⟨clk, set e d v, tips, lk, bx⟩ kk := by
  rw [runK_pure rfl]; simp
@[simp] theorem runK_cut {d : Nat} {z : Nat} {x : Opd} {lo : Option Opd} {hi : Option Opd} {r : List VOper} : runK cf sg t0 (⟨some d, .cut z x lo hi, none⟩ :: r) ⟨clk, e, tips, lk, bx⟩ kk = if isReg (get e d) = true then none else optK (pureOp (get e) t0 clk bx d (VOp.cut z x lo hi)) fun v => runK cf sg t0 r ⟨clk, set e d v, tips, lk, bx⟩ kk := by
  rw [runK_pure rfl]; simp
@[simp] theorem runK_cutR {d : Nat} {s : Nat} {len : Nat} {z : Nat} {x : Opd} {lo : Option Opd} {hi : Option Opd} {r : List VOper} : runK cf sg t0 (⟨some d, .cutR s len z x lo hi, none⟩ :: r) ⟨clk, e, tips, lk, bx⟩ kk = if isReg (get e d) = true then none else optK (pureOp (get e) t0 clk bx d (VOp.cutR s len z x lo hi)) fun v => runK cf sg t0 r ⟨clk, set e d v, tips, lk, bx⟩ kk := by
  rw [runK_pure rfl]; simp
@[simp] theorem runK_mkslice {d : Nat} {z : Nat} {bytes : Nat} {zs : List V} {l : Opd} {c : Opd} {r : List VOper} : runK cf sg t0 (⟨some d, .mkslice z bytes zs l c, none⟩ :: r) ⟨clk, e, tips, lk, bx⟩ kk = if isReg (get e d) = true then none else optK (pureOp (get e) t0 clk bx d (VOp.mkslice z bytes zs l c)) fun v => runK cf sg t0 r ⟨clk, set e d v, tips, lk, bx⟩ kk := by
  rw [runK_pure rfl]; simp
@[simp] theorem runK_len {d : Nat} {st : Bool} {x : Opd} {r : List VOper} : runK cf sg t0 (⟨some d, .len st x, none⟩ :: r) ⟨clk, e, tips, lk, bx⟩ kk = if isReg (get e d) = true then none else optK (pureOp (get e) t0 clk bx d (VOp.len st x)) fun v => runK cf sg t0 r ⟨clk, set e d v, tips, lk, bx⟩ kk := by
  rw [runK_pure rfl]; simp
@[simp] theorem runK_lenC {d : Nat} {n : Nat} {r : List VOper} : runK cf sg t0 (⟨some d, .lenC n, none⟩ :: r) ⟨clk, e, tips, lk, bx⟩ kk = if isReg (get e d) = true then none else optK (pureOp (get e) t0 clk bx d (VOp.lenC n)) fun v => runK cf sg t0 r ⟨clk, set e d v, tips, lk, bx⟩ kk := by
  rw [runK_pure rfl]; simp
@[simp] theorem runK_extract {d : Nat} {i : Nat} {x : Opd} {r : List VOper} : runK cf sg t0 (⟨some d, .extract i x, none⟩ :: r) ⟨clk, e, tips, lk, bx⟩ kk = if isReg (get e d) = true then none else optK (pureOp (get e) t0 clk bx d (VOp.extract i x)) fun v => runK cf sg t0 r ⟨clk, set e d v, tips, lk, bx⟩ kk := by
  rw [runK_pure rfl]; simp
@[simp] theorem runK_arrptr {d : Nat} {n : Nat} {z : Nat} {x : Opd} {r : List VOper} : runK cf sg t0 (⟨some d, .arrptr n z x, none⟩ :: r) ⟨clk, e, tips, lk, bx⟩ kk = if isReg (get e d) = true then none else optK (pureOp (get e) t0 clk bx d (VOp.arrptr n z x)) fun v => runK cf sg t0 r ⟨clk, set e d v, tips, lk, bx⟩ kk := by
  rw [runK_pure rfl]; simp
@[simp] theorem runK_fail {d : Nat}  {r : List VOper} : runK cf sg t0 (⟨some d, .fail, none⟩ :: r) ⟨clk, e, tips, lk, bx⟩ kk = if isReg (get e d) = true then none else optK (pureOp (get e) t0 clk bx d VOp.fail) fun v => runK cf sg t0 r ⟨clk, set e d v, tips, lk, bx⟩ kk := by
  rw [runK_pure rfl]; simp
@[simp] theorem runK_mkfn {d : Nat} {f : Fn} {a : List Opd} {b : List Opd} {r : List VOper} : runK cf sg t0 (⟨some d, .mkfn f a b, none⟩ :: r) ⟨clk, e, tips, lk, bx⟩ kk = if isReg (get e d) = true then none else optK (pureOp (get e) t0 clk bx d (VOp.mkfn f a b)) fun v => runK cf sg t0 r ⟨clk, set e d v, tips, lk, bx⟩ kk := by
  rw [runK_pure rfl]; simp
@[simp] theorem runK_mkiface {d : Nat} {t : TypeId} {x : Opd} {r : List VOper} : runK cf sg t0 (⟨some d, .mkiface t x, none⟩ :: r) ⟨clk, e, tips, lk, bx⟩ kk = if isReg (get e d) = true then none else optK (pureOp (get e) t0 clk bx d (VOp.mkiface t x)) fun v => runK cf sg t0 r ⟨clk, set e d v, tips, lk, bx⟩ kk := by
  rw [runK_pure rfl]; simp
@[simp] theorem runK_minmax {d : Nat} {mx : Bool} {x : Opd} {args : List Opd} {r : List VOper} : runK cf sg t0 (⟨some d, .minmax mx x args, none⟩ :: r) ⟨clk, e, tips, lk, bx⟩ kk = if isReg (get e d) = true then none else optK (pureOp (get e) t0 clk bx d (VOp.minmax mx x args)) fun v => runK cf sg t0 r ⟨clk, set e d v, tips, lk, bx⟩ kk := by
  rw [runK_pure rfl]; simp
end
@[simp] theorem get_cons {a s : Nat} {u : V} {r : Env} : get ((a, u) :: r) s = if a = s then u else get r s := by rw [get]
@[simp] theorem get_nil {s : Nat} : get [] s = .undef := by rw [get]
@[simp] theorem set_cons {a s : Nat} {u v : V} {r : Env} : set ((a, u) :: r) s v = if a = s then (a, v) :: r else (a, u) :: set r s v := by rw [set]
@[simp] theorem set_nil {s : Nat} {v : V} : set [] s v = [(s, v)] := by rw [set]
attribute [simp] ev isReg regAt runK_guard skipK bump updL
attribute [simp] V.ok V.ok1 V.cells wrapAgg part splice fits fill binV shiftOp strOp eqCell eqCells eqV unV byteOfV byteList bound bounds partLab
attribute [simp] V.mapLab1 V.mapLab V.bare Lab.names V.names namesL Lab.live Lab.free V.plain1 V.plain adoptLab number1 numberL number numberAll resVals finish packed V.results
attribute [simp] argName Lab.news V.news1 V.news newsOf freshOf Lab.shared V.shared1 V.shared handLab handArg handArgs ownsArg ownsArgs usedName usedNames argOk isRv plainB tight Lab.gone V.gone1 V.gone argNm goneOk behind source
attribute [simp] pureOp intOp
attribute [simp] nmOf append2 callAt storeAt IntKind.bits IntKind.signed
@[simp] theorem upd_apply {α : Type} (f : Nat → α) (a b : Nat) (v : α) : upd f a v b = if b = a then v else f b := rfl

section
variable {cf : CallF} {sg : Nat → Sig} {t0 : Nat → Nat} {clk : Nat} {e : Env} {tips : Nat → Nat} {lk : Nat → Bool} {bx : BX} {kk : St → Res}
@[simp] theorem runK_call {d : Nat} {f : Nat} {args : List Opd} {q : Bool} {av : List Nat} {r : List VOper} : runK cf sg t0 (⟨some d, .call f args q av, none⟩ :: r) ⟨clk, e, tips, lk, bx⟩ kk =
    if isReg (get e d) = true then none else optK (callAt cf sg ⟨clk, e, tips, lk, bx⟩ (some d) f (args.map (ev (get e))) q av) fun τ => runK cf sg t0 r τ kk := by
  rw [runK_go]
  simp only [regAt, VOp.makesR, Bool.not_false, Bool.and_true]
  rfl
@[simp] theorem runK_append {d z bytes : Nat} {cut : Bool} {s x : Opd} {av : List Nat} {r : List VOper} : runK cf sg t0 (⟨some d, .append z bytes cut s x av, none⟩ :: r) ⟨clk, e, tips, lk, bx⟩ kk =
    if isReg (get e d) = true then none else optK (source (get e) av z (ev (get e) x)) fun y => if y.2.all V.ok1 = true ∧ y.2.length = y.1 * z then optK (append2 ⟨clk, e, tips, lk, bx⟩ d bytes cut z (ev (get e) s) y.1 y.2) fun τ => runK cf sg t0 r τ kk else none := by
  rw [runK_go]
  simp only [regAt, VOp.makesR, Bool.not_false, Bool.and_true]
  by_cases h : isReg (get e d) = true
  · rw [if_pos h, if_pos h]
  · rw [if_neg h, if_neg h]
    simp only [step1]
    cases source (get e) av z (ev (get e) x) with
    | none => rfl
    | some y =>
      simp only [optK_some]
      by_cases h2 : y.2.all V.ok1 = true ∧ y.2.length = y.1 * z
      · simp only [if_pos h2]
      · simp only [if_neg h2, optK_none]
@[simp] theorem runK_store {rt : RT} {sz : Nat} {a x : Opd} {r : List VOper} : runK cf sg t0 (⟨none, .store rt sz a x, none⟩ :: r) ⟨clk, e, tips, lk, bx⟩ kk =
    optK (storeAt ⟨clk, e, tips, lk, bx⟩ rt sz (ev (get e) a) (ev (get e) x)) fun τ => runK cf sg t0 r τ kk := by
  rw [runK_go]
  simp only [regAt, Bool.false_and, Bool.false_eq_true, if_false]
  rfl
end
end Go.VM
