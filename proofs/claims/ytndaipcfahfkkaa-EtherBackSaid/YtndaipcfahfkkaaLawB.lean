/- EtherBack: the law returns true for every input, and its arguments read behind the call as they read before. Conditions: none beyond the given statement's. -/
import Derived.Test.YtndaipcfahfkkaaNO
import Derived.Test.YtndaipcfahfkkaaPX
import Derived.Test.YtndaipcfahfkkaaRows
import Derived.ProofKit
namespace Go.Proofs.Ytndaipcfahfkkaa
open Go.ChangeShapes Go.WideShapes Go.ChangeAt Go.RowKit
open Go.VM
theorem etherBack_own : ownKnob Try.prog.godebug = none := by kernel_rfl
theorem etherBack_laid : laidOutB Try.prog = true := by kernel_rfl
theorem etherBack_typed (N : Nat) : FnOk1 ⟨[.d (.st t4), .d (.sl (.int .u8)), .d (.sl (.int .i64)), .d (.int .i64), .d (.int .i64)], [(.bool, [])], none⟩ [] (call FT N 6) (nfN TN N 6) := by
  have h := typed N 6
  unfold FnOk at h
  rw [sigOk 6] at h
  exact h
theorem etherBack_true (vs : List V) (h : TyVs Try.prog Try.f6.params.toList vs) : ∃ n, call FT n 6 vs [] = some (.bool true, []) :=
  law_of (P := Try.prog) (ps := [.d (.st t4), .d (.sl (.int .u8)), .d (.sl (.int .i64)), .d (.int .i64), .d (.int .i64)]) (c := fun N => call FT N 6) (g := fun N => nfN TN N 6) etherBack_typed (by kernel_rfl)
    (fun ⟨a0, a1, a2, a3, a4⟩ ⟨h0, h1, h2, _⟩ => ⟨20001, true, back a0 a1 a2 a3 a4 h0 h1.2 h2.1, rfl⟩) vs h

set_option maxRecDepth 100000 in
theorem etherBack_lifted (os : Os) (started : os.Started) (H : Type) (enc : TypeId × Value → H) :
    ReturnsInHanded {} Try.checked os 6 .any (Rows.etherBackSpec.pre6 enc Try.prog Try.f6 Rows.etherBackRow.domain false) (Rows.etherBackSpec.post enc Try.prog Try.f6 false true false false) := by
  refine returnsInHanded_of_change (C := Try.checked) etherBack_own started (by kernel_rfl) Try.func6
    (ChangeSpec.witness6 (enc := enc) (C := Try.checked) false ⟨#[], #[.agg #[.int .u8 0, .int .u8 0, .int .u8 0, .int .u8 0, .int .u8 0, .int .u8 0], .slice none 0 0, .slice none 0 0, .int .i64 0, .int .i64 0], []⟩ 8 (by kernel_rfl) (by kernel_rfl) (by kernel_rfl) (by kernel_rfl)) ?_
  intro W base args ds gs before hval hW _ _
  exact contract_of_vm (P := Try.prog) tableOk (f := 6) (tb := 4) (vf := vf6) rfl etherBack_laid (by kernel_rfl) (by kernel_rfl) (by kernel_rfl) Try.underlying4 rfl (fun ds hl => by
    match ds, hl with
    | [_, _, _, _, _], _ => rfl) etherBack_true hval hW

theorem etherBack_holds : Rows.EtherBackSaid :=
  OpenClaim.holds_of_wide 6 Try.f6 rfl rfl rfl rfl rfl rfl rfl ⟨rfl, rfl, rfl, rfl, rfl⟩ rfl rfl rfl rfl rfl (by kernel_rfl) Try.func6 (by kernel_rfl)
    (of_decide_eq_true (by kernel_rfl)) (by unfold Func.isWrapper; first | (rw [if_pos (by decide +kernel)]; kernel_rfl) | (rw [if_neg (by decide +kernel)]; exact ⟨rfl, rfl⟩))
    (fun os started H enc _ => etherBack_lifted os started H enc)
#print axioms etherBack_holds
end Go.Proofs.Ytndaipcfahfkkaa
