/- AddrTexts: the law returns true for every input, and its arguments read behind the call as they read before: the row, and its tied card. Conditions: none beyond the given statement's. -/
import Derived.Test.YtfglhfbnbdmhfaaGreatDoorNO
import Derived.Test.YtfglhfbnbdmhfaaGreatDoorT30
import Derived.Test.YtfglhfbnbdmhfaaGreatDoorQN
import Derived.Test.YtfglhfbnbdmhfaaGreatDoorRows
import Derived.Test.YtfglhfbnbdmhfaaGreatDoorCards
import Derived.Test.YtfglhfbnbdmhfaaGreatDoorTie
import Derived.ProofKit
import Derived.OpenShut
import Derived.LaidMore
import Derived.Lay
import Derived.SevenTiedAt
import Derived.Stop.Joined
namespace Go.Proofs.YtfglhfbnbdmhfaaGreatDoor
open Go.ChangeShapes Go.WideShapes Go.ChangeAt Go.RowKit
open Go.VM
theorem addrTexts_own : ownKnob Tryz.prog.godebug = none := by kernel_rfl
theorem addrTexts_laidOut : laidOutB Tryz.prog = true := by kernel_rfl
theorem addrTexts_typed (N : Nat) : FnOk1 ⟨[.d .str, .d t1, .d (.sl (.int .i64)), .d (.int .i64), .d (.int .i64)], [(.bool, [])], none⟩ [] (call FT N 3) (nfN TN N 3) := by
  have h := typed N 3
  unfold FnOk at h
  rw [sigOk 3] at h
  exact h
theorem addrTexts_true (vs : List V) (h : TyVs Tryz.prog Tryz.f3.params.toList vs) : ∃ n, call FT n 3 vs [] = some (.bool true, []) :=
  law_of (P := Tryz.prog) (ps := [.d .str, .d t1, .d (.sl (.int .i64)), .d (.int .i64), .d (.int .i64)]) (c := fun N => call FT N 3) (g := fun N => nfN TN N 3) addrTexts_typed (by kernel_rfl)
    (fun ⟨a0, a1, a2, a3, a4⟩ ⟨_, h1, h2, _⟩ => ⟨2000, true, texts h2.1 ⟨u64_of h1.2.1, u64_of h1.2.2⟩, rfl⟩) vs h
theorem addrTexts_om {W : World} (hs : W.ShapedOpen Tryz.prog) (hL : laidMetH Tryz.prog Rows.addrTextsRow.laid W) : Ow W :=
  om_of_laid hs (by kernel_rfl) hL (fun _ => ⟨by kernel_rfl, by kernel_rfl⟩) (fun _ => ⟨by kernel_rfl, by kernel_rfl, by kernel_rfl⟩) (fun z hz => by cases hz; exact ⟨by kernel_rfl, by kernel_rfl⟩)

set_option maxRecDepth 100000 in
theorem addrTexts_lifted (os : Os) (started : os.Started) (H : Type) (enc : TypeId × Value → H) :
    ReturnsInHanded {} Tryz.checked os 3 .any (fun w args => (Rows.addrTextsSpec.pre enc Tryz.prog Tryz.f3 Rows.addrTextsRow.domain false w args ∧ laidMetH Tryz.prog Rows.addrTextsRow.laid w) ∧ sizedMet enc Tryz.prog Tryz.f3 (OpenSpec.ofChange Rows.addrTextsSpec) false w args) (Rows.addrTextsSpec.post enc Tryz.prog Tryz.f3 false true false false) := by
  refine returns_laid (C := Tryz.checked) (X := fun w _ => laidMetH Tryz.prog Rows.addrTextsRow.laid w) (fun _ _ _ hh h => h.of_heap hh) addrTexts_own started (by kernel_rfl) Tryz.func3
    (ChangeSpec.witness_shaped (enc := enc) (C := Tryz.checked) (os := os) (X := fun w _ => laidMetH Tryz.prog Rows.addrTextsRow.laid w) false (World.laidAll Tryz.prog os Rows.addrTextsRow.laid) #[.string ⟨#[]⟩, .agg #[.bool false, .int .u64 0, .int .u64 0], .slice none 0 0, .int .i64 0, .int .i64 0] 8 (World.laidAll_os _ _ _)
      (World.shaped_of_ZipB (by kernel_rfl) (by kernel_rfl)) (by kernel_rfl) (by kernel_rfl) (by kernel_rfl)
      (by rw [MakeChecks.laidMetH_plain _ _ _ (by kernel_rfl)]; exact laidMet_laidAll _ (by kernel_rfl) (by kernel_rfl))) ?_
  intro W base args ds gs before hval hW hsh hX
  exact contract_of_vm (P := Tryz.prog) tableOk (f := 3) (tb := 4) (vf := vf3) rfl addrTexts_laidOut (by kernel_rfl) (by kernel_rfl) (by kernel_rfl) Tryz.underlying4 rfl (fun ds hl => by
    match ds, hl with
    | [_, _, _, _, _], _ => rfl) addrTexts_true (om_stays (addrTexts_om hsh hX)) hval hW

theorem addrTexts_row_holds : Rows.AddrTextsSaid :=
  OpenClaim.holds_of_wide 3 Tryz.f3 rfl rfl rfl rfl rfl rfl rfl ⟨rfl, rfl, rfl, rfl, rfl⟩ rfl rfl rfl rfl rfl (by kernel_rfl) Tryz.func3 (by kernel_rfl)
    (of_decide_eq_true (by kernel_rfl)) (by unfold Func.isWrapper; first | (rw [if_pos (by decide +kernel)]; kernel_rfl) | (rw [if_neg (by decide +kernel)]; exact ⟨rfl, rfl⟩))
    (fun os started H enc _ => addrTexts_lifted os started H enc)
theorem addrTexts_holds : Rows.AddrTextsCardSaid :=
  Claim7.holds_tied_plain_at .later [] [.data, .data, .data, .data, .sentinel, .sentinel, .pinned, .pinned] true (true, "c80cbcdf1c47e38ffafe7a9caa19ebd7c273fd15f70df5684fbff34ab7fda4fe") true
    addrTexts_row_holds (fun _ h => by cases h) (by kernel_rfl) (fun _ h => by cases h) addrTexts_row_tie rfl ⟨rfl, rfl⟩ (by kernel_rfl) rfl
    (fun f fn hf hfn => by
      obtain rfl : f = 3 := Option.some.inj ((show Tryz.prog.funcNamed "exchangepoint/exchangepointlaw01.AddrTexts" = some 3 by kernel_rfl).symm.trans hf) |>.symm
      obtain rfl : fn = Tryz.f3 := (Option.some.inj (Tryz.func3.symm.trans hfn)).symm
      exact ⟨by kernel_rfl, fun j t ht => by
        have hm : t ∈ Tryz.f3.params.toList := Array.mem_toList_iff.2 (Array.mem_of_getElem? ht)
        have hall : (Tryz.f3.params.toList.all fun u => !Tryz.prog.wantsStandIn u) = true := by kernel_rfl
        exact (show Tryz.prog.wantsStandIn t = false by simpa using List.all_eq_true.1 hall t hm)⟩)
    (by kernel_rfl)
#print axioms addrTexts_holds
end Go.Proofs.YtfglhfbnbdmhfaaGreatDoor
