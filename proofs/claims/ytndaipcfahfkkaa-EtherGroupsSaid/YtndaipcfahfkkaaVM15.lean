/- Every operation that only answers and makes nothing. -/
import Derived.Test.YtndaipcfahfkkaaVM14
namespace Go.VM
open Go.RowKit

/-- It makes something. -/
def VOp.makesS : VOp → Bool
  | .allocR _ | .boxR .. | .bslice .. | .mkslice .. | .toBytes _ => true
  | _ => false

theorem toList_one {α : Type} {xs : Array α} {x : α} (h : xs.toList = [x]) : xs = #[x] := Array.ext' (by simpa using h)

section
variable {P : Program} {D M : Nat → Prop} {G : Gh} {σ : St} {a : Act} {w : World} {o : Oper} {t0 : Nat → Nat} {clk d : Nat} {hh : Hints}

theorem ans_load (h : SR D M G σ a.tmps w) {t : TypeId} {x : Operand} {y : Opd} {g : Bool} {sz : Nat} {v : V} {rt : RT} (ho : o.op = .load t x) (hy : opdOf x = some y) (hg : aggT P t = some g) (hs : sizeT P t = some sz)
    (hv : pureOp (get σ.env) t0 clk σ.bx d (.load rt g sz y) = some v) : Ans P G σ a o w v := by
  cases rt with
  | r s =>
    simp only [pureOp] at hv
    split at hv
    · rename_i s' c off e1
      split at hv
      · rename_i c' n cs e2
        split at hv
        · rename_i hc
          obtain ⟨rfl, rfl⟩ := hc
          exact ans_load_r h ho hy hg hs e1 e2 hv
        · cases hv
      · cases hv
    · cases hv
  | b =>
    simp only [pureOp] at hv
    split at hv
    · rename_i b off e1
      split at hv
      · rename_i cs e2
        exact ans_load_b h ho hy hg hs e1 e2 hv
      · cases hv
    · cases hv
  | e av =>
    simp only [pureOp] at hv
    split at hv
    · rename_i l cs off e1
      split at hv
      · rename_i hl
        exact ans_load_e h ho hy hg hs e1 (live_of_free hl) hv
      · cases hv
    · cases hv

theorem ans_call (h : SR D M G σ a.tmps w) {c : Call} (hop : o.op = .call c) {vo : VOp} {v : V} (hc : compileOp P hh o.dst (.call c) = some vo) (hp : vo.isP = true) (hm : vo.makesS = false) (hv : pureOp (get σ.env) t0 clk σ.bx d vo = some v) : Ans P G σ a o w v := by
  obtain ⟨callee, args, argTypes⟩ := c
  simp only [compileOp] at hc
  split at hc
  · cases hx : opdsOf args.toList with
    | none => rw [hx] at hc; cases hc
    | some ys => rw [hx] at hc; cases hc; cases hp
  · split at hc
    · cases hc; cases hp
    · cases hc
  · split at hc
    · split at hc
      · rename_i i _
        cases hi : P.info? _ with
        | none => rw [hi] at hc; cases hc
        | some i =>
          rw [hi] at hc
          simp only [Option.bind_some] at hc
          split at hc
          · split at hc
            · cases hc; cases hp
            · cases hc
          · cases hc
      · cases hi : P.info? _ with
        | none => rw [hi] at hc; cases hc
        | some i =>
          rw [hi] at hc
          simp only [Option.bind_some] at hc
          split at hc
          · split at hc
            · cases hc; cases hp
            · cases hc
          · cases hc
      · cases hc
    · cases hc
  · split at hc
    · rename_i t x ht hx
      have e1 := toList_one ht
      have e2 := toList_one hx
      subst e1 e2
      split at hc
      · rename_i y hu hy
        cases hc
        simp only [pureOp] at hv
        split at hv
        · rename_i s e3; cases hv; exact ans_len_str h hop hy hu e3
        · cases hv
      · rename_i e y hu hy
        cases hc
        simp only [pureOp] at hv
        split at hv
        · rename_i l z n cs e3; cases hv; exact ans_len_sl h hop hy hu e3
        · rename_i e3; cases hv; exact ans_len_nil h hop hy hu e3
        · cases hv
      · rename_i n e y hu
        cases hc
        simp only [pureOp] at hv
        cases hv
        exact ans_lenC hop hu
      · cases hc
    · cases hc
  · split at hc
    · rename_i x r hx
      cases hc
      exact ans_minmax (mx := false) h hop hx hv
    · cases hc
  · split at hc
    · rename_i x r hx
      cases hc
      exact ans_minmax (mx := true) h hop hx hv
    · cases hc
  · cases hc

theorem ans_convert (h : SR D M G σ a.tmps w) {src dst : TypeId} {x : Operand} (hop : o.op = .convert src dst x) {vo : VOp} {v : V} (hc : compileOp P hh o.dst (.convert src dst x) = some vo) (hm : vo.makesS = false) (hv : pureOp (get σ.env) t0 clk σ.bx d vo = some v) : Ans P G σ a o w v := by
  simp only [compileOp] at hc
  split at hc
  · rename_i k1 k2 y h1 h2 h3
    cases hc
    simp only [pureOp] at hv
    split at hv
    · rename_i k n e1; cases hv; exact ans_convI h hop h3 h1 h2 e1
    · cases hv
  · rename_i y h1 h2 h3
    cases hc
    simp only [pureOp] at hv
    split at hv
    · rename_i s e1; cases hv; exact ans_convS h hop h3 h1 h2 e1
    · cases hv
  · rename_i e y h1 h2 h3
    split at hc
    · rename_i h4; cases hc; exact ans_toStr h hop h3 h1 h4 h2 hv
    · cases hc
  · split at hc
    · cases hc; cases hm
    · cases hc
  · cases hc

theorem ans_binOp (h : SR D M G σ a.tmps w) {op : BinOp} {t yt : TypeId} {x y : Operand} (hop : o.op = .binOp op t x y yt) {vo : VOp} {v : V} (hc : compileOp P hh o.dst (.binOp op t x y yt) = some vo) (hv : pureOp (get σ.env) t0 clk σ.bx d vo = some v) : Ans P G σ a o w v := by
  simp only [compileOp] at hc
  split at hc
  · rename_i u u' h1 h2
    split at hc
    · cases hc; exact ans_bin h hop h1 h2 hv
    · split at hc
      · cases hk : eqT P t x y with
        | none => rw [hk] at hc; cases hc
        | some k =>
          rw [hk] at hc; cases hc
          simp only [pureOp] at hv
          cases he : eqV k (ev (get σ.env) u) (ev (get σ.env) u') with
          | none => rw [he] at hv; cases hv
          | some b => rw [he] at hv; cases hv; exact ans_eq (neq := false) h hop h1 h2 hk he
      · cases hk : eqT P t x y with
        | none => rw [hk] at hc; cases hc
        | some k =>
          rw [hk] at hc; cases hc
          simp only [pureOp] at hv
          cases he : eqV k (ev (get σ.env) u) (ev (get σ.env) u') with
          | none => rw [he] at hv; cases hv
          | some b => rw [he] at hv; cases hv; exact ans_eq (neq := true) h hop h1 h2 hk he
      · cases hc
  · cases hc

theorem ans_slice (h : SR D M G σ a.tmps w) {t : TypeId} {x : Operand} {lo hi mx : Option Operand} (hop : o.op = .slice t x lo hi mx) {vo : VOp} {v : V} (hc : compileOp P hh o.dst (.slice t x lo hi mx) = some vo) (hv : pureOp (get σ.env) t0 clk σ.bx d vo = some v) : Ans P G σ a o w v := by
  cases mx with
  | some m => cases hc
  | none =>
    simp only [compileOp] at hc
    split at hc
    · rename_i y lo' hi' h1 h2 h3 h4
      cases hc; exact ans_cutS h hop h2 h3 h4 h1 hv
    · rename_i e y lo' hi' h1 h2 h3 h4
      cases hs : sizeT P e with
      | none => rw [hs] at hc; cases hc
      | some z => rw [hs] at hc; cases hc; exact ans_cut h hop h2 h3 h4 h1 hs hv
    · rename_i n e y lo' hi' h1 h2 h3 h4
      split at hc
      · rename_i hn
        cases hs : sizeT P e with
        | none => rw [hs] at hc; cases hc
        | some z => rw [hs] at hc; cases hc; exact ans_cutR h hop h2 h3 h4 h1 hs hn hv
      · cases hc
    · cases hc

/-- EVERY OPERATION THAT ONLY ANSWERS: what the machine says is what the model's operation yields. -/
theorem ans_pure (h : SR D M G σ a.tmps w) {vo : VOp} {v : V} (hc : compileOp P hh o.dst o.op = some vo) (hp : vo.isP = true) (hm : vo.makesS = false) (hv : pureOp (get σ.env) t0 clk σ.bx d vo = some v) : Ans P G σ a o w v := by
  generalize hop : o.op = op at hc
  cases op with
  | move x =>
    simp only [compileOp] at hc
    cases hx : opdOf x with
    | none => rw [hx] at hc; cases hc
    | some y =>
      rw [hx] at hc; cases hc
      simp only [pureOp] at hv
      split at hv
      · cases hv
      · cases hv
      · cases hv; exact ans_mv h (.inl hop) hx
  | assign x =>
    simp only [compileOp] at hc
    cases hx : opdOf x with
    | none => rw [hx] at hc; cases hc
    | some y =>
      rw [hx] at hc; cases hc
      simp only [pureOp] at hv
      split at hv
      · cases hv
      · cases hv
      · cases hv; exact ans_mv h (.inr hop) hx
  | pick c x y =>
    simp only [compileOp] at hc
    split at hc
    · rename_i c' x' y' h1 h2 h3
      cases hc
      simp only [pureOp] at hv
      split at hv
      · rename_i t e1
        have hq := ans_pick (P := P) (o := o) h hop h1 h2 h3 e1
        generalize (if t then ev (get σ.env) x' else ev (get σ.env) y') = u at hv hq
        by_cases hk : u.ok = true
        · rw [if_pos hk] at hv; cases hv; exact hq
        · rw [if_neg hk] at hv; cases hv
      · cases hv
    · cases hc
  | alloc t =>
    simp only [compileOp] at hc
    split at hc
    · split at hc <;> cases hc
      · cases hp
      · cases hm
    · cases hc
  | box t x =>
    simp only [compileOp] at hc
    split at hc
    · split at hc <;> cases hc
      · cases hp
      · cases hm
    · cases hc
  | build t parts =>
    simp only [compileOp] at hc
    split at hc
    · rename_i zs fs h1 h2
      split at hc
      · rename_i h3
        cases hq : partsS P fs parts.toList with
        | none => rw [hq] at hc; cases hc
        | some qs => rw [hq] at hc; cases hc; exact ans_build h hop h1 (.inl ⟨fs, h2, h3, hq⟩) hv
      · cases hc
    · rename_i zs n e h1 h2
      split at hc
      · rename_i z h3
        cases hq : partsA z parts.toList with
        | none => rw [hq] at hc; cases hc
        | some qs => rw [hq] at hc; cases hc; exact ans_build h hop h1 (.inr ⟨n, e, z, h2, h3, hq⟩) hv
      · cases hc
    · cases hc
  | buildSlice t len parts =>
    simp only [compileOp] at hc
    split at hc
    · split at hc
      · split at hc
        · cases hq : partsA _ parts.toList with
          | none => rw [hq] at hc; cases hc
          | some qs => rw [hq] at hc; cases hc; cases hm
        · cases hc
      · cases hc
    · cases hc
  | load t x =>
    simp only [compileOp] at hc
    split at hc
    · rename_i g sz y h1 h2 h3
      split at hc
      · cases hc; exact ans_load h hop h3 h1 h2 hv
      · cases hc
    · cases hc
  | store t x y =>
    simp only [compileOp] at hc
    split at hc
    · split at hc
      · cases hc; cases hp
      · cases hc
    · cases hc
  | nilCheck x =>
    simp only [compileOp] at hc
    cases hx : opdOf x with
    | none => rw [hx] at hc; cases hc
    | some y => rw [hx] at hc; cases hc; exact ans_nilck h hop hx hv
  | binOp op t x y yt => exact ans_binOp h hop hc hv
  | unOp op t x =>
    simp only [compileOp] at hc
    cases hx : opdOf x with
    | none => rw [hx] at hc; cases hc
    | some y => rw [hx] at hc; cases hc; exact ans_unop h hop hx hv
  | convert src dst x => exact ans_convert h hop hc hm hv
  | sliceToArrayPointer t x =>
    simp only [compileOp] at hc
    split at hc
    · rename_i n e y h1 h2
      cases hs : sizeT P e with
      | none => rw [hs] at hc; cases hc
      | some z => rw [hs] at hc; cases hc; exact ans_arrptr h hop h2 h1 hv
    · cases hc
  | makeInterface t x =>
    simp only [compileOp] at hc
    split at hc
    · cases hc
    · rename_i td y h1 h2 h3
      cases hc; exact ans_mkiface h hop h3 h2 (fun ms hms => h1 ms hms) hv
    · cases hc
  | makeFunc fn p q =>
    simp only [compileOp] at hc
    split at hc
    · rename_i p' q' h1 h2
      cases hc; exact ans_mkfn h hop h1 h2 hv
    · cases hc
  | makeSlice t l c =>
    simp only [compileOp] at hc
    split at hc
    · split at hc
      · cases hc; cases hm
      · cases hc
    · cases hc
  | slice t x lo hi mx => exact ans_slice h hop hc hv
  | fieldAddr t x f =>
    simp only [compileOp] at hc
    split at hc
    · rename_i fs y h1 h2
      split at hc
      · rename_i g h3
        split at hc
        · rename_i sz h4
          split at hc
          · rename_i h5; cases hc; exact ans_fieldA h hop h2 h1 h3 h4 h5 hv
          · cases hc
        · cases hc
      · cases hc
    · cases hc
  | field t x f =>
    simp only [compileOp] at hc
    split at hc
    · rename_i fs y h1 h2
      split at hc
      · rename_i g h3
        split at hc
        · rename_i ag sz h4 h5
          cases hc
          simp only [pureOp] at hv
          split at hv
          · rename_i cs e1; exact ans_field h hop h2 h1 h3 h4 h5 e1 hv
          · cases hv
        · cases hc
      · cases hc
    · cases hc
  | indexAddr t x i =>
    simp only [compileOp] at hc
    split at hc
    · rename_i e y j h1 h2 h3
      cases hs : sizeT P e with
      | none => rw [hs] at hc; cases hc
      | some z => rw [hs] at hc; cases hc; exact ans_idxS h hop h2 h3 h1 hs hv
    · rename_i n e y j h1 h2 h3
      cases hs : sizeT P e with
      | none => rw [hs] at hc; cases hc
      | some z => rw [hs] at hc; cases hc; exact ans_idxA h hop h2 h3 h1 hs hv
    · cases hc
  | index t x i =>
    simp only [compileOp] at hc
    split at hc
    · rename_i n e y j h1 h2 h3
      split at hc
      · rename_i g z h4 h5; cases hc; exact ans_ixA h hop h2 h3 h1 h5 h4 hv
      · cases hc
    · rename_i y j h1 h2 h3
      cases hc; exact ans_ixS h hop h2 h3 h1 hv
    · cases hc
  | extract x i =>
    simp only [compileOp] at hc
    cases hx : opdOf x with
    | none => rw [hx] at hc; cases hc
    | some y =>
      rw [hx] at hc; cases hc
      simp only [pureOp] at hv
      split at hv
      · rename_i vs e1
        split at hv
        · rename_i v' e2
          split at hv
          · rename_i e3; cases hv; exact ans_extract h hop hx e1 e2 e3
          · cases hv
        · cases hv
      · cases hv
  | call c => exact ans_call h hop hc hp hm hv
  | _ => cases hc
end
end Go.VM
