/- Functions of Go's library, told of by what they answer; each held by the shelf's contract. -/
import Derived.Test.YtndaipcfahfkkaaVM37
import Derived.Lib.Join
import Derived.Lib.Bytealg
namespace Go.VM
open Go.RowKit

def strsOf : List V → Option (List (List UInt8))
  | [] => some []
  | .str s :: r => (strsOf r).map (s :: ·)
  | _ :: _ => none
/-- strings.Join -/
def pJoin : List V → Option V
  | [.nils, .str _] => some (.str [])
  | [.sl _ 1 n cs, .str sep] => match strsOf cs with
    | some ss => if n ≤ 140737488355328 ∧ (Lib.join ss sep).length ≤ 140737488355328 then some (.str (Lib.join ss sep)) else none
    | none => none
  | _ => none
/-- strings.IndexByte -/
def pIndexByte : List V → Option V
  | [.str s, .int .u8 c] => some (.int .i64 (Lib.indexByte s c.toNat.toUInt8))
  | _ => none

theorem strs_rel {w : World} {A : Pl} {B : List Nat} : ∀ {vs : List V} {cs : List Value} {ss : List (List UInt8)}, RelL w A B vs cs → strsOf vs = some ss → ∃ xs : List ByteArray, cs = xs.map .string ∧ xs.map (·.data.toList) = ss
  | [], _, ss, h, hs => by
    cases h
    cases hs
    exact ⟨[], rfl, rfl⟩
  | v :: r, _, ss, h, hs => by
    cases h with
    | cons _ c _ cs h1 h2 =>
      cases v with
      | str s =>
        simp only [strsOf, Option.map_eq_some_iff] at hs
        obtain ⟨ss', k1, rfl⟩ := hs
        obtain ⟨t, rfl, rfl⟩ := h1.str_inv
        obtain ⟨xs, rfl, rfl⟩ := strs_rel h2 k1
        exact ⟨t :: xs, rfl, rfl⟩
      | _ => cases hs

section
variable {P : Program} {f : Nat} {fn : Func} {c : Code} (hf : P.funcs[f]? = some fn) (hb : fn.body = some c) (hname : (fn.name == "runtime.NumGoroutine") = false)
include hf hb hname

theorem pIndexByte_ok (hc : ∀ (s : ByteArray) (c : Int) (w : World), Calls P f #[.string s, .int .u8 c] w fun e w' => e = .returned (.int .i64 (Lib.indexByte s.data.toList c.toNat.toUInt8)) ∧ w' = w) : PrimOk P f [] pIndexByte := by
  refine primOk_of hf hb hname (fun vs v hp G w cs bx hs => ?_) fun vs v hp => ?_
  · unfold pIndexByte at hp
    split at hp
    · cases hp
      rename_i s c
      cases hs.args with
      | cons _ c1 _ cs1 h1 h2 =>
        cases h2 with
        | cons _ c2 _ cs2 h3 h4 =>
          cases h4
          obtain ⟨t, rfl, rfl⟩ := h1.str_inv
          have := h3.int_inv
          subst this
          exact ⟨_, flatV_int _ _, (hc t c w).mono fun e w' ⟨k1, k2⟩ => ⟨k1, by rw [k2]; exact Below.refl _ _⟩⟩
    · cases hp
  · unfold pIndexByte at hp
    split at hp
    · cases hp
      intro u hu
      simp only [V.results, List.mem_singleton] at hu
      subst hu; rfl
    · cases hp

theorem pJoin_ok (hc0 : ∀ (a : Option Addr) (c : Nat) (sep : ByteArray) (w : World), Calls P f #[.slice a 0 c, .string sep] w fun e w' => e = .returned (.string ⟨#[]⟩) ∧ w' = w)
    (hc : ∀ (bk o c : Nat) (xs : List ByteArray) (sep : ByteArray) (w : World) (_ : ∀ (j : Nat) x, xs[j]? = some x → w.cell? ⟨bk, o + j, none⟩ = some (.string x)) (_ : bk < w.heap.size) (_ : xs.length ≤ 140737488355328) (_ : xs.length ≤ c) (_ : (Lib.join (xs.map (·.data.toList)) sep.data.toList).length ≤ 140737488355328),
      Calls P f #[.slice (some ⟨bk, o, none⟩) xs.length c, .string sep] w fun e w' => e = .returned (.string ⟨(Lib.join (xs.map (·.data.toList)) sep.data.toList).toArray⟩) ∧ Below w.heap.size w w') : PrimOk P f [] pJoin := by
  refine primOk_of hf hb hname (fun vs v hp G w cs bx hs => ?_) fun vs v hp => ?_
  · unfold pJoin at hp
    split at hp
    · cases hp
      cases hs.args with
      | cons _ c1 _ cs1 h1 h2 =>
        cases h2 with
        | cons _ c2 _ cs2 h3 h4 =>
          cases h4
          obtain ⟨t, rfl, rfl⟩ := h3.str_inv
          have := h1.nils_inv
          subst this
          exact ⟨_, flatV_str ⟨#[]⟩, (hc0 none 0 t w).mono fun e w' ⟨k1, k2⟩ => ⟨k1, by rw [k2]; exact Below.refl _ _⟩⟩
    · rename_i l n vs sep
      split at hp
      · rename_i ss hss
        split at hp
        · rename_i hlen
          cases hp
          cases hs.args with
          | cons _ c1 _ cs1 h1 h2 =>
            cases h2 with
            | cons _ c2 _ cs2 h3 h4 =>
              cases h4
              obtain ⟨t, rfl, rfl⟩ := h3.str_inv
              obtain ⟨a, cap, xs, rfl, ha, hz, hxs, hcap, hmax, hrow, hrel, hnm⟩ := h1.sl_inv
              obtain ⟨ys, rfl, rfl⟩ := strs_rel hrel hss
              rw [Nat.mul_one, List.length_map] at hxs
              subst hxs
              cases hys : ys with
              | nil => exact ⟨_, flatV_str ⟨#[]⟩, (hc0 (some a) cap t w).mono fun e w' ⟨k1, k2⟩ => ⟨k1, by rw [k2]; exact Below.refl _ _⟩⟩
              | cons y r =>
                have hj : ∀ (j : Nat) x, ys[j]? = some x → w.cell? (a.add j) = some (.string x) := fun j x hx => hrow j _ (by rw [List.getElem?_map, hx]; rfl)
                have h0 := hj 0 y (by rw [hys]; rfl)
                obtain ⟨blk, off, sp⟩ := a
                have hsp : sp = none ∧ blk < w.heap.size := by
                  unfold World.cell? at h0
                  rw [add_block] at h0
                  split at h0
                  · rename_i c e fr hh
                    split at h0
                    · cases h0
                    · rename_i hns
                      refine ⟨by cases sp with
                        | none => rfl
                        | some q => exact absurd rfl hns, (Array.getElem?_eq_some_iff.1 hh).1⟩
                  · cases h0
                obtain ⟨rfl, hlt⟩ := hsp
                rw [← hys]
                refine ⟨_, flatV_str ⟨(Lib.join (ys.map (·.data.toList)) t.data.toList).toArray⟩, ?_⟩
                exact hc blk off cap ys t w (fun j x hx => by have := hj j x hx; rwa [show (Addr.add ⟨blk, off, none⟩ j) = ⟨blk, off + j, none⟩ from by unfold Addr.add; split <;> simp_all] at this) hlt hlen.1 hcap hlen.2
        · cases hp
      · cases hp
    · cases hp
  · unfold pJoin at hp
    intro u hu
    have : ∃ s, v = .str s := by
      split at hp
      · cases hp; exact ⟨_, rfl⟩
      · split at hp
        · split at hp
          · cases hp; exact ⟨_, rfl⟩
          · cases hp
        · cases hp
      · cases hp
    obtain ⟨s, rfl⟩ := this
    simp only [V.results, List.mem_singleton] at hu
    subst hu; rfl
end
end Go.VM
