/- EtherGroups. -/
import Derived.Test.YtndaipcfahfkkaaOk
import Derived.Test.YtndaipcfahfkkaaEqG
import Derived.Test.YtndaipcfahfkkaaRows
import Derived.ProofKit
namespace Go.Proofs.Ytndaipcfahfkkaa
open Go.ChangeShapes Go.WideShapes Go.ChangeAt Go.RowKit
open Go.VM
theorem Try.own : ownKnob Try.prog.godebug = none := by kernel_rfl
theorem Try.laidOut : laidOutB Try.prog = true := by kernel_rfl

theorem addr_inv {v : V} (h : TyV Try.prog 26 v) : ∃ (b : Bool) (x y : Int), v = .agg [.bool b, .int .u64 x, .int .u64 y] ∧ 0 ≤ x ∧ x ≤ 18446744073709551615 ∧ 0 ≤ y ∧ y ≤ 18446744073709551615 := by
  obtain ⟨css, hv, hc⟩ := tyv_struct h Try.underlying26
  have hc : TyCs Try.prog [4, 24, 24] css := hc
  subst hv
  obtain ⟨c0, _, rfl, h0, c1, _, rfl, h1, c2, _, rfl, h2, hn⟩ := hc
  have hn : _ = ([] : List (List V)) := hn
  subst hn
  obtain ⟨b, rfl⟩ := tyc_bool h0 Try.underlying4
  obtain ⟨x, rfl, x1, x2⟩ := tyc_int h1 Try.underlying24
  obtain ⟨y, rfl, y1, y2⟩ := tyc_int h2 Try.underlying24
  exact ⟨b, x, y, rfl, x1, x2, y1, y2⟩

theorem groups_true (vs : List V) (h : TyVs Try.prog Try.f4.params.toList vs) : ∃ n, call FT n 4 vs [] = some (.bool true, []) := by
  rw [Try.params4] at h
  match vs, h with
  | [v0, v1, v2, v3], ⟨h0, h1, h2, h3, _⟩ =>
    obtain ⟨a, x, y, rfl, x1, x2, y1, y2⟩ := addr_inv h0
    obtain ⟨a', x', y', rfl, x1', x2', y1', y2'⟩ := addr_inv h1
    obtain ⟨n, rfl, _, _⟩ := tyv_int h2 Try.underlying3
    obtain ⟨c, rfl, c1, c2⟩ := tyv_int h3 Try.underlying5
    exact ⟨41, Groups_law (Nat.le_refl _) a a' x y x' y' n c y1 y2 y1' y2' c1 c2⟩

set_option maxRecDepth 100000 in
theorem etherGroups_lifted (os : Os) (started : os.Started) (H : Type) (enc : TypeId × Value → H) :
    ReturnsInHanded {} Try.checked os 4 .any (Rows.etherGroupsSpec.pre6 enc Try.prog Try.f4 Rows.etherGroupsRow.domain false) (Rows.etherGroupsSpec.post enc Try.prog Try.f4 false true false false) := by
  refine returnsInHanded_of_change (C := Try.checked) Try.own started (by kernel_rfl) Try.func4
    (ChangeSpec.witness6 (enc := enc) (C := Try.checked) false ⟨#[], #[.agg #[.bool false, .int .u64 0, .int .u64 0], .agg #[.bool false, .int .u64 0, .int .u64 0], .int .i64 0, .int .u8 0], []⟩ 8 (by kernel_rfl) (by kernel_rfl) (by kernel_rfl) (by kernel_rfl)) ?_
  intro W base args ds gs before hval hW _ _
  exact contract_of_vm (P := Try.prog) tableOk (f := 4) (tb := 4) (vf := vf4) FT4 Try.laidOut (by kernel_rfl) (by kernel_rfl) (by kernel_rfl) Try.underlying4 rfl (fun ds hl => by
    match ds, hl with
    | [_, _, _, _], _ => rfl) groups_true hval hW

theorem etherGroups_holds : Rows.EtherGroupsSaid :=
  OpenClaim.holds_of_wide 4 Try.f4 rfl rfl rfl rfl rfl rfl rfl ⟨rfl, rfl, rfl, rfl, rfl⟩ rfl rfl rfl rfl rfl (by kernel_rfl) Try.func4 (by kernel_rfl)
    (of_decide_eq_true (by kernel_rfl)) (by unfold Func.isWrapper; first | (rw [if_pos (by decide +kernel)]; kernel_rfl) | (rw [if_neg (by decide +kernel)]; exact ⟨rfl, rfl⟩))
    (fun os started H enc _ => etherGroups_lifted os started H enc)
#print axioms etherGroups_holds
end Go.Proofs.Ytndaipcfahfkkaa
