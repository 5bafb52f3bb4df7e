/- EtherTags: the law returns true for every input, and its arguments read behind the call as they read before. Conditions: none beyond the given statement's. -/
import Derived.Test.YtndaipcfahfkkaaNO
import Derived.Test.YtndaipcfahfkkaaPT
import Derived.Test.YtndaipcfahfkkaaRows
import Derived.ProofKit
namespace Go.Proofs.Ytndaipcfahfkkaa
open Go.ChangeShapes Go.WideShapes Go.ChangeAt Go.RowKit
open Go.VM
theorem etherTags_own : ownKnob Try.prog.godebug = none := by kernel_rfl
theorem etherTags_laid : laidOutB Try.prog = true := by kernel_rfl
theorem etherTags_typed (N : Nat) : FnOk1 ⟨[.d (.sl (.int .i64)), .d (.int .i64)], [(.bool, [])], none⟩ [] (call FT N 7) (nfN TN N 7) := by
  have h := typed N 7
  unfold FnOk at h
  rw [sigOk 7] at h
  exact h
theorem etherTags_true (vs : List V) (h : TyVs Try.prog Try.f7.params.toList vs) : ∃ n, call FT n 7 vs [] = some (.bool true, []) :=
  law_of (P := Try.prog) (ps := [.d (.sl (.int .i64)), .d (.int .i64)]) (c := fun N => call FT N 7) (g := fun N => nfN TN N 7) etherTags_typed (by kernel_rfl)
    (fun ⟨a0, a1⟩ ⟨h0, _⟩ => ⟨61, true, tags a0 a1 h0.1, rfl⟩) vs h

set_option maxRecDepth 100000 in
theorem etherTags_lifted (os : Os) (started : os.Started) (H : Type) (enc : TypeId × Value → H) :
    ReturnsInHanded {} Try.checked os 7 .any (Rows.etherTagsSpec.pre6 enc Try.prog Try.f7 Rows.etherTagsRow.domain false) (Rows.etherTagsSpec.post enc Try.prog Try.f7 false true false false) := by
  refine returnsInHanded_of_change (C := Try.checked) etherTags_own started (by kernel_rfl) Try.func7
    (ChangeSpec.witness6 (enc := enc) (C := Try.checked) false ⟨#[], #[.slice none 0 0, .int .i64 0], []⟩ 8 (by kernel_rfl) (by kernel_rfl) (by kernel_rfl) (by kernel_rfl)) ?_
  intro W base args ds gs before hval hW _ _
  exact contract_of_vm (P := Try.prog) tableOk (f := 7) (tb := 4) (vf := vf7) rfl etherTags_laid (by kernel_rfl) (by kernel_rfl) (by kernel_rfl) Try.underlying4 rfl (fun ds hl => by
    match ds, hl with
    | [_, _], _ => rfl) etherTags_true hval hW

theorem etherTags_holds : Rows.EtherTagsSaid :=
  OpenClaim.holds_of_wide 7 Try.f7 rfl rfl rfl rfl rfl rfl rfl ⟨rfl, rfl, rfl, rfl, rfl⟩ rfl rfl rfl rfl rfl (by kernel_rfl) Try.func7 (by kernel_rfl)
    (of_decide_eq_true (by kernel_rfl)) (by unfold Func.isWrapper; first | (rw [if_pos (by decide +kernel)]; kernel_rfl) | (rw [if_neg (by decide +kernel)]; exact ⟨rfl, rfl⟩))
    (fun os started H enc _ => etherTags_lifted os started H enc)
#print axioms etherTags_holds
end Go.Proofs.Ytndaipcfahfkkaa
