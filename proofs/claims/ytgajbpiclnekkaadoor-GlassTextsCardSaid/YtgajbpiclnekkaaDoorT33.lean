/- strconv.ParseInt and FormatInt as they are read. -/
import Derived.Test.YtgajbpiclnekkaaDoorTC
namespace Go.VM
theorem parseUint_eq : ∀ (l : List UInt8) (a : Nat), Lib.parseUintM (2 ^ 64 - 1) a l = Lib.parseUint10 a l
  | [], _ => rfl
  | c :: r, a => by
    rw [Lib.parseUintM, Lib.parseUint10, parseUint_eq r]
    by_cases h : 18446744073709551616 ≤ a * 10 + (c.toNat - 48)
    · rw [if_pos h, if_pos (show 2 ^ 64 - 1 < a * 10 + (c.toNat - 48) by omega)]
    · rw [if_neg h, if_neg (show ¬ 2 ^ 64 - 1 < a * 10 + (c.toNat - 48) by omega)]
theorem parseInt_eq (l : List UInt8) : Lib.parseIntB 64 l = Lib.atoiAll l := by
  cases l with
  | nil => rfl
  | cons c r =>
    have h : ∀ l, Lib.parseUintB 64 l = Lib.parseMag l := fun l => by
      unfold Lib.parseUintB Lib.parseMag
      rw [parseUint_eq]
    simp only [Lib.parseIntB, Lib.atoiAll, h]
    rfl
theorem qParseInt_ok {te : TypeId} {a : List UInt8} (h : a.length ≤ 281474976710656) : ∃ v : Int, qF (gParseInt te) ⟨[.d .str, .d (.int .i64), .d (.int .i64)], [(.int .i64, []), (.err, [])], none⟩ (a, (10 : Int), (64 : Int)) = some (v, (atoiR a).2) ∧ ((atoiR a).2 = false → v = (atoiR a).1) := by
  cases hp : Lib.atoiAll a with
  | ok v =>
    have e : gParseInt te [.s a, .i .i64 10, .i .i64 64] = some [.i .i64 v, .e te false] := by
      unfold gParseInt
      simp only
      rw [if_pos ⟨trivial, trivial, h⟩, parseInt_eq, hp]
    refine ⟨v, ?_, fun _ => by unfold atoiR; rw [hp]⟩
    rw [show (atoiR a).2 = false by unfold atoiR; rw [hp]]
    exact q_of [.s a, .i .i64 10, .i .i64 64] [.i .i64 v, .e te false] rfl e rfl
  | range =>
    have e : gParseInt te [.s a, .i .i64 10, .i .i64 64] = some [.i .i64 (Lib.intSat 64 a), .e te true] := by
      unfold gParseInt
      simp only
      rw [if_pos ⟨trivial, trivial, h⟩, parseInt_eq, hp]
    have e2 : (atoiR a).2 = true := by unfold atoiR; rw [hp]
    rw [e2]
    exact ⟨_, q_of [.s a, .i .i64 10, .i .i64 64] [.i .i64 (Lib.intSat 64 a), .e te true] rfl e rfl, fun h => by cases h⟩
  | _ =>
    have e : gParseInt te [.s a, .i .i64 10, .i .i64 64] = some [.i .i64 0, .e te true] := by
      unfold gParseInt
      simp only
      rw [if_pos ⟨trivial, trivial, h⟩, parseInt_eq, hp]
    have e2 : (atoiR a).2 = true := by unfold atoiR; rw [hp]
    rw [e2]
    exact ⟨_, q_of [.s a, .i .i64 10, .i .i64 64] [.i .i64 0, .e te true] rfl e rfl, fun h => by cases h⟩
theorem qFormatInt_ok {n : Int} (h : -9223372036854775808 ≤ n ∧ n ≤ 9223372036854775807) : qF gFormatInt ⟨[.d (.int .i64), .d (.int .i64)], [(.str, [])], none⟩ (n, (10 : Int)) = some (Lib.itoa n) := q_of [.i .i64 n, .i .i64 10] [.s (Lib.itoa n)] rfl (if_pos ⟨rfl, h⟩) rfl
end Go.VM
