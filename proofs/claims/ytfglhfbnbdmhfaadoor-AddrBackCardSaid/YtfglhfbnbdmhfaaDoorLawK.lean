/- AddrBack: the law returns true for every input, and its arguments read behind the call as they read before: the row, and its tied card. Conditions: none beyond the given statement's. -/
import Derived.Test.YtfglhfbnbdmhfaaDoorNO
import Derived.Test.YtfglhfbnbdmhfaaDoorT30
import Derived.Test.YtfglhfbnbdmhfaaDoorQK
import Derived.Test.YtfglhfbnbdmhfaaDoorRows
import Derived.Test.YtfglhfbnbdmhfaaDoorCards
import Derived.Test.YtfglhfbnbdmhfaaDoorTie
import Derived.ProofKit
import Derived.OpenShut
import Derived.LaidMore
import Derived.Lay
import Derived.SevenTiedAt
import Derived.Stop.Joined
namespace Go.Proofs.YtfglhfbnbdmhfaaDoor
open Go.ChangeShapes Go.WideShapes Go.ChangeAt Go.RowKit
open Go.VM
theorem addrBack_own : ownKnob Tryd.prog.godebug = none := by kernel_rfl
theorem addrBack_laidOut : laidOutB Tryd.prog = true := by kernel_rfl
theorem addrBack_typed (N : Nat) : FnOk1 ⟨[.d (.sl (.int .i64)), .d .str], [(.bool, [])], none⟩ [] (call FT N 7) (nfN TN N 7) := by
  have h := typed N 7
  unfold FnOk at h
  rw [sigOk 7] at h
  exact h
theorem addrBack_true (vs : List V) (h : TyVs Tryd.prog Tryd.f7.params.toList vs) : ∃ n, call FT n 7 vs [] = some (.bool true, []) :=
  law_of (P := Tryd.prog) (ps := [.d (.sl (.int .i64)), .d .str]) (c := fun N => call FT N 7) (g := fun N => nfN TN N 7) addrBack_typed (by kernel_rfl)
    (fun ⟨a0, a1⟩ ⟨h0, _⟩ => ⟨1000, true, back h0.1, rfl⟩) vs h
theorem addrBack_om {W : World} (hs : W.ShapedOpen Tryd.prog) (hL : laidMetH Tryd.prog Rows.addrBackRow.laid W) : Ow W :=
  om_of_laid hs (by kernel_rfl) hL (fun _ => ⟨by kernel_rfl, by kernel_rfl⟩) (fun _ => ⟨by kernel_rfl, by kernel_rfl, by kernel_rfl⟩) (fun z hz => by cases hz; exact ⟨by kernel_rfl, by kernel_rfl⟩)

set_option maxRecDepth 100000 in
theorem addrBack_lifted (os : Os) (started : os.Started) (H : Type) (enc : TypeId × Value → H) :
    ReturnsInHanded {} Tryd.checked os 7 .any (fun w args => (Rows.addrBackSpec.pre enc Tryd.prog Tryd.f7 Rows.addrBackRow.domain false w args ∧ laidMetH Tryd.prog Rows.addrBackRow.laid w) ∧ sizedMet enc Tryd.prog Tryd.f7 (OpenSpec.ofChange Rows.addrBackSpec) false w args) (Rows.addrBackSpec.post enc Tryd.prog Tryd.f7 false true false false) := by
  refine returns_laid (C := Tryd.checked) (X := fun w _ => laidMetH Tryd.prog Rows.addrBackRow.laid w) (fun _ _ _ hh h => h.of_heap hh) addrBack_own started (by kernel_rfl) Tryd.func7
    (ChangeSpec.witness_shaped (enc := enc) (C := Tryd.checked) (os := os) (X := fun w _ => laidMetH Tryd.prog Rows.addrBackRow.laid w) false (World.laidAll Tryd.prog os Rows.addrBackRow.laid) #[.slice none 0 0, .string ⟨#[]⟩] 8 (World.laidAll_os _ _ _)
      (World.shaped_of_ZipB (by kernel_rfl) (by kernel_rfl)) (by kernel_rfl) (by kernel_rfl) (by kernel_rfl)
      (by rw [MakeChecks.laidMetH_plain _ _ _ (by kernel_rfl)]; exact laidMet_laidAll _ (by kernel_rfl) (by kernel_rfl))) ?_
  intro W base args ds gs before hval hW hsh hX
  exact contract_of_vm (P := Tryd.prog) tableOk (f := 7) (tb := 4) (vf := vf7) rfl addrBack_laidOut (by kernel_rfl) (by kernel_rfl) (by kernel_rfl) Tryd.underlying4 rfl (fun ds hl => by
    match ds, hl with
    | [_, _], _ => rfl) addrBack_true (om_stays (addrBack_om hsh hX)) hval hW

theorem addrBack_row_holds : Rows.AddrBackSaid :=
  OpenClaim.holds_of_wide 7 Tryd.f7 rfl rfl rfl rfl rfl rfl rfl ⟨rfl, rfl, rfl, rfl, rfl⟩ rfl rfl rfl rfl rfl (by kernel_rfl) Tryd.func7 (by kernel_rfl)
    (of_decide_eq_true (by kernel_rfl)) (by unfold Func.isWrapper; first | (rw [if_pos (by decide +kernel)]; kernel_rfl) | (rw [if_neg (by decide +kernel)]; exact ⟨rfl, rfl⟩))
    (fun os started H enc _ => addrBack_lifted os started H enc)
theorem addrBack_holds : Rows.AddrBackCardSaid :=
  Claim7.holds_tied_plain_at .later [] [.data, .data, .data, .data, .sentinel, .sentinel, .pinned, .pinned] true (true, "d6a0c9d08dcdea2ccc6c4722ecc28a77a71efb226c9249fda31a98191e6da971") true
    addrBack_row_holds (fun _ h => by cases h) (by kernel_rfl) (fun _ h => by cases h) addrBack_row_tie rfl ⟨rfl, rfl⟩ (by kernel_rfl) rfl
    (fun f fn hf hfn => by
      obtain rfl : f = 7 := Option.some.inj ((show Tryd.prog.funcNamed "exchangepoint/exchangepointlaw01.AddrBack" = some 7 by kernel_rfl).symm.trans hf) |>.symm
      obtain rfl : fn = Tryd.f7 := (Option.some.inj (Tryd.func7.symm.trans hfn)).symm
      exact ⟨by kernel_rfl, fun j t ht => by
        have hm : t ∈ Tryd.f7.params.toList := Array.mem_toList_iff.2 (Array.mem_of_getElem? ht)
        have hall : (Tryd.f7.params.toList.all fun u => !Tryd.prog.wantsStandIn u) = true := by kernel_rfl
        exact (show Tryd.prog.wantsStandIn t = false by simpa using List.all_eq_true.1 hall t hm)⟩)
    (by kernel_rfl)
#print axioms addrBack_holds
end Go.Proofs.YtfglhfbnbdmhfaaDoor
