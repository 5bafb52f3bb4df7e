/- Functions of Go's library: what reads, and hands back something without a row. -/
import Derived.Test.YtndaipcfahfkkaaVM35
import Derived.Below
namespace Go.VM
open Go.RowKit

/-- A value that is the same over every world. -/
def flatV (v : V) (c : Value) : Prop := (∀ w A B, Rel w A B v c) ∧ v.flat = true ∧ v.results = [v] ∧ [v].flatMap V.shared = [] ∧ isReg v = false

theorem flatV_bool (b : Bool) : flatV (.bool b) (.bool b) := ⟨fun _ _ _ => .bool b, rfl, rfl, rfl, rfl⟩
theorem flatV_int (k : IntKind) (n : Int) : flatV (.int k n) (.int k n) := ⟨fun _ _ _ => .int k n, rfl, rfl, rfl, rfl⟩
theorem flatV_str (s : ByteArray) : flatV (.str s.data.toList) (.string s) := ⟨fun _ _ _ => .str s, rfl, rfl, rfl, rfl⟩

theorem ret_below {G : Gh} {w w' : World} {vs : List V} {cs : List Value} {bx : BX} {v : V} {c : Value} (hs : Start G w vs cs bx) (hb : Below w.heap.size w w') (hv : flatV v c) :
    Ret G w G (fun nm => decide (nm < 64)) w' v.results [c] bx bx := by
  obtain ⟨hr, hf, h1, hsh, _⟩ := hv
  have hlt : ∀ b, G.Z b ≠ .out → w'.heap[b]? = w.heap[b]? := fun b h => hb.block b (hs.ok.lt b h)
  have hcell : ∀ (a : Addr), G.Z a.block ≠ .out → ∀ j, w'.cell? (a.add j) = w.cell? (a.add j) := fun a ha j => by
    unfold World.cell?
    rw [add_block, hlt _ ha]
  have hkB : KeepsB w w' (A0 G w) (AtR G (fun nm => decide (nm < 64)) w') G.bxB G.bxB := ⟨fun l a len z n cap hl ha => by
    cases l with
    | none =>
      rcases ha with ha | ha | ⟨nm, q1, q2, q3⟩
      · exact ⟨.inl ha, fun j hj => by omega⟩
      · obtain ⟨n', q1, q2⟩ := ha
        exact ⟨.inr (.inl ⟨n', q1, q2⟩), fun j _ => hcell a (by rw [q1]; simp) j⟩
      · exact ⟨.inr (.inr ⟨nm, q1, q2, q3⟩), fun j _ => hcell a (by rw [q2]; simp) j⟩
    | rv s c v => exact absurd ha (by simp [A0, At])
    | _ => simp [Lab.names] at hl, fun i blk h => h⟩
  rw [h1]
  refine ⟨⟨fun b h => Nat.lt_of_lt_of_le (hs.ok.lt b h) hb.size, hs.ok.famU, fun b nm h => ?_, hs.ok.rgU⟩, ⟨hb.os, hb.tape, hb.output, hb.size, fun b hbs _ => ⟨hb.block b hbs, rfl⟩, fun b nm _ h => ⟨fun x hx _ => ?_, .inl ⟨h, Nat.le_refl _⟩⟩, fun _ _ h => h⟩, fun i h => ?_, .cons _ _ _ _ (hr _ _ _) .nil, fun u hu => ?_, ⟨hs.boxes.1, fun i ds hi => ?_⟩, Nat.le_refl _⟩
  · obtain ⟨cur, e, q1, q2⟩ := hs.ok.famC b nm h
    exact ⟨cur, e, by rw [hlt b (by rw [h]; simp)]; exact q1, q2⟩
  · unfold World.cell?
    rw [hx, hlt b (by rw [h]; simp)]
  · simp only [decide_eq_true_eq] at h
    omega
  · simp only [List.mem_singleton] at hu
    subst hu
    exact hf
  · obtain ⟨k1, b, k2, k3, xs, e, k4, k5⟩ := hs.boxes.2 i ds hi
    exact ⟨k1, b, k2, k3, xs, e, by rw [hlt b (by rw [k3]; simp)]; exact k4, k5.keepB hkB k1⟩

theorem primOk_of {P : Program} {f : Nat} {cons : List Nat} {p : List V → Option V} {fn : Func} {c : Code} (hf : P.funcs[f]? = some fn) (hb : fn.body = some c) (hname : (fn.name == "runtime.NumGoroutine") = false)
    (h : ∀ vs v, p vs = some v → ∀ G w cs bx, Start G w vs cs bx → ∃ c, flatV v c ∧ Calls P f cs.toArray w fun e w' => e = .returned c ∧ Below w.heap.size w w')
    (hreg : ∀ vs v, p vs = some v → ∀ u ∈ v.results, isReg u = false) : PrimOk P f cons p := by
  refine ⟨hreg, fun vs v hp G w cs bx hs => .inl ⟨?_, ?_⟩⟩
  · unfold callFunc
    have hp : (Go.program : Sem Program).run P w = .ok P w := rfl
    rw [Sem.run_bind, hp, Result.andThen_ok, hf]
    simp only
    rw [if_neg (by rw [hname]; simp), if_neg (by rw [hb]; simp)]
    rfl
  · obtain ⟨d, hv, hc⟩ := h vs v hp G w cs bx hs
    refine hc.mono fun e w' ⟨he, hb⟩ => ⟨d, he, [d], G, (fun nm => decide (nm < 64)), rfl, ret_below hs hb hv⟩
end Go.VM
