/- EtherAddresses: the law returns true for every input, and its arguments read behind the call as they read before. Conditions: none beyond the given statement's. -/
import Derived.Test.YtndaipcfahfkkaaNO
import Derived.Test.YtndaipcfahfkkaaPX
import Derived.Test.YtndaipcfahfkkaaRows
import Derived.ProofKit
namespace Go.Proofs.Ytndaipcfahfkkaa
open Go.ChangeShapes Go.WideShapes Go.ChangeAt Go.RowKit
open Go.VM
theorem etherAddresses_own : ownKnob Try.prog.godebug = none := by kernel_rfl
theorem etherAddresses_laid : laidOutB Try.prog = true := by kernel_rfl
theorem etherAddresses_typed (N : Nat) : FnOk1 ⟨[.d (.st t4), .d .str, .d t6, .d (.int .i64), .d (.int .i64)], [(.bool, [])], none⟩ [] (call FT N 3) (nfN TN N 3) := by
  have h := typed N 3
  unfold FnOk at h
  rw [sigOk 3] at h
  exact h
theorem etherAddresses_true (vs : List V) (h : TyVs Try.prog Try.f3.params.toList vs) : ∃ n, call FT n 3 vs [] = some (.bool true, []) :=
  law_of (P := Try.prog) (ps := [.d (.st t4), .d .str, .d t6, .d (.int .i64), .d (.int .i64)]) (c := fun N => call FT N 3) (g := fun N => nfN TN N 3) etherAddresses_typed (by kernel_rfl)
    (fun ⟨a0, a1, a2, a3, a4⟩ ⟨h0, _⟩ => ⟨61, true, addresses a0 a1 a2 a3 a4 h0, rfl⟩) vs h

set_option maxRecDepth 100000 in
theorem etherAddresses_lifted (os : Os) (started : os.Started) (H : Type) (enc : TypeId × Value → H) :
    ReturnsInHanded {} Try.checked os 3 .any (Rows.etherAddressesSpec.pre6 enc Try.prog Try.f3 Rows.etherAddressesRow.domain false) (Rows.etherAddressesSpec.post enc Try.prog Try.f3 false true false false) := by
  refine returnsInHanded_of_change (C := Try.checked) etherAddresses_own started (by kernel_rfl) Try.func3
    (ChangeSpec.witness6 (enc := enc) (C := Try.checked) false ⟨#[], #[.agg #[.int .u8 0, .int .u8 0, .int .u8 0, .int .u8 0, .int .u8 0, .int .u8 0], .string .empty, .agg #[.bool false, .int .u64 0, .int .u64 0], .int .i64 0, .int .i64 0], []⟩ 8 (by kernel_rfl) (by kernel_rfl) (by kernel_rfl) (by kernel_rfl)) ?_
  intro W base args ds gs before hval hW _ _
  exact contract_of_vm (P := Try.prog) tableOk (f := 3) (tb := 4) (vf := vf3) rfl etherAddresses_laid (by kernel_rfl) (by kernel_rfl) (by kernel_rfl) Try.underlying4 rfl (fun ds hl => by
    match ds, hl with
    | [_, _, _, _, _], _ => rfl) etherAddresses_true hval hW

theorem etherAddresses_holds : Rows.EtherAddressesSaid :=
  OpenClaim.holds_of_wide 3 Try.f3 rfl rfl rfl rfl rfl rfl rfl ⟨rfl, rfl, rfl, rfl, rfl⟩ rfl rfl rfl rfl rfl (by kernel_rfl) Try.func3 (by kernel_rfl)
    (of_decide_eq_true (by kernel_rfl)) (by unfold Func.isWrapper; first | (rw [if_pos (by decide +kernel)]; kernel_rfl) | (rw [if_neg (by decide +kernel)]; exact ⟨rfl, rfl⟩))
    (fun os started H enc _ => etherAddresses_lifted os started H enc)
#print axioms etherAddresses_holds
end Go.Proofs.Ytndaipcfahfkkaa
