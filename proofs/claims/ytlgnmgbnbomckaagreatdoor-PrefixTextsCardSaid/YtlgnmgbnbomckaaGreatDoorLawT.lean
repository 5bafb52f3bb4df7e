/- PrefixTexts: the law returns true for every input, and its arguments read behind the call as they read before: the row, and its tied card. Conditions: none beyond the given statement's. -/
import Derived.Test.YtlgnmgbnbomckaaGreatDoorNO
import Derived.Test.YtlgnmgbnbomckaaGreatDoorT30
import Derived.Test.YtlgnmgbnbomckaaGreatDoorPJ
import Derived.Test.YtlgnmgbnbomckaaGreatDoorRows
import Derived.Test.YtlgnmgbnbomckaaGreatDoorCards
import Derived.Test.YtlgnmgbnbomckaaGreatDoorTie
import Derived.ProofKit
import Derived.OpenShut
import Derived.LaidMore
import Derived.Lay
import Derived.SevenTiedAt
import Derived.Stop.Joined
namespace Go.Proofs.YtlgnmgbnbomckaaGreatDoor
open Go.ChangeShapes Go.WideShapes Go.ChangeAt Go.RowKit
open Go.VM
theorem prefixTexts_own : ownKnob Tryz.prog.godebug = none := by kernel_rfl
theorem prefixTexts_laidOut : laidOutB Tryz.prog = true := by kernel_rfl
theorem prefixTexts_typed (N : Nat) : wZ ⟨[.d .str, .d (.st t2), .d (.sl (.int .i64)), .d (.int .i64), .d (.int .i64)], [(.bool, [])], none⟩ [] (call FT N 5) (nfN TN N 5) := by
 have h := typed N 5
 unfold aF7 at h
 rw [sigOk 5] at h
 exact h
theorem prefixTexts_true (vs : List V) (h : aIX Tryz.prog Tryz.f5.params.toList vs) : ∃ n, call FT n 5 vs [] = some (.bool true, []) :=
 aJx (P := Tryz.prog) (ps := [.d .str, .d (.st t2), .d (.sl (.int .i64)), .d (.int .i64), .d (.int .i64)]) (c := fun N => call FT N 5) (g := fun N => nfN TN N 5) prefixTexts_typed (by kernel_rfl)
  (fun ⟨_, _, _, _, _⟩ ⟨_, h1, h2, _⟩ => ⟨2000, true, textsP h2.1 ⟨u64_of h1.1.2.1, u64_of h1.1.2.2⟩, rfl⟩) vs h
theorem prefixTexts_om {W : World} (hs : W.ShapedOpen Tryz.prog) (hL : laidMetH Tryz.prog Rows.prefixTextsRow.laid W) : Ow W :=
 om_of_laid hs (by kernel_rfl) hL (fun _ => ⟨by kernel_rfl, by kernel_rfl⟩) (fun _ => ⟨by kernel_rfl, by kernel_rfl, by kernel_rfl⟩) (fun z hz => by cases hz; exact ⟨by kernel_rfl, by kernel_rfl⟩)
set_option maxRecDepth 100000 in
theorem prefixTexts_lifted (os : Os) (started : os.Started) (H : Type) (enc : TypeId × Value → H) :
  ReturnsInHanded {} Tryz.checked os 5 .any (fun w args => (Rows.prefixTextsSpec.pre enc Tryz.prog Tryz.f5 Rows.prefixTextsRow.domain false w args ∧ laidMetH Tryz.prog Rows.prefixTextsRow.laid w) ∧ sizedMet enc Tryz.prog Tryz.f5 (OpenSpec.ofChange Rows.prefixTextsSpec) false w args) (Rows.prefixTextsSpec.post enc Tryz.prog Tryz.f5 false true false false) := by
 refine aGw (C := Tryz.checked) (X := fun w _ => laidMetH Tryz.prog Rows.prefixTextsRow.laid w) (fun _ _ _ hh h => h.of_heap hh) prefixTexts_own started (by kernel_rfl) Tryz.func5
  (ChangeSpec.witness_shaped (enc := enc) (C := Tryz.checked) (os := os) (X := fun w _ => laidMetH Tryz.prog Rows.prefixTextsRow.laid w) false (World.laidAll Tryz.prog os Rows.prefixTextsRow.laid) #[.string ⟨#[]⟩, .agg #[.bool false, .int .u64 0, .int .u64 0, .int .i64 0], .slice none 0 0, .int .i64 0, .int .i64 0] 8 (World.laidAll_os _ _ _)
   (World.shaped_of_ZipB (by kernel_rfl) (by kernel_rfl)) (by kernel_rfl) (by kernel_rfl) (by kernel_rfl)
   (by rw [MakeChecks.laidMetH_plain _ _ _ (by kernel_rfl)]; exact laidMet_laidAll _ (by kernel_rfl) (by kernel_rfl))) ?_
 intro W base args ds gs before hval hW hsh hX
 exact aF5 (P := Tryz.prog) tableOk (f := 5) (tb := 4) (vf := vf5) rfl prefixTexts_laidOut (by kernel_rfl) (by kernel_rfl) (by kernel_rfl) Tryz.underlying4 rfl (fun ds hl => by
  match ds, hl with
  | [_, _, _, _, _], _ => rfl) prefixTexts_true (aJN (prefixTexts_om hsh hX)) hval hW
theorem prefixTexts_row_holds : Rows.PrefixTextsSaid :=
 OpenClaim.holds_of_wide 5 Tryz.f5 rfl rfl rfl rfl rfl rfl rfl ⟨rfl, rfl, rfl, rfl, rfl⟩ rfl rfl rfl rfl rfl (by kernel_rfl) Tryz.func5 (by kernel_rfl)
  (of_decide_eq_true (by kernel_rfl)) (by unfold Func.isWrapper; first | (rw [if_pos (by decide +kernel)]; kernel_rfl) | (rw [if_neg (by decide +kernel)]; exact ⟨rfl, rfl⟩))
  (fun os started H enc _ => prefixTexts_lifted os started H enc)
theorem prefixTexts_holds : Rows.PrefixTextsCardSaid :=
 Claim7.holds_tied_plain_at .later [] [.data, .data, .data, .data, .sentinel, .sentinel, .pinned] true (true, "abb61db42a00441c8a113be25c2c579e48c9b5a12e9703417fe5941908f62ad9") true
  prefixTexts_row_holds (fun _ h => by cases h) (by kernel_rfl) (fun _ h => by cases h) prefixTexts_row_tie rfl ⟨rfl, rfl⟩ (by kernel_rfl) rfl
  (fun f fn hf hfn => by
   obtain rfl : f = 5 := Option.some.inj ((show Tryz.prog.funcNamed "exchangepoint/exchangepointlaw02.PrefixTexts" = some 5 by kernel_rfl).symm.trans hf) |>.symm
   obtain rfl : fn = Tryz.f5 := (Option.some.inj (Tryz.func5.symm.trans hfn)).symm
   exact ⟨by kernel_rfl, fun j t ht => by
    have hm : t ∈ Tryz.f5.params.toList := Array.mem_toList_iff.2 (Array.mem_of_getElem? ht)
    have hall : (Tryz.f5.params.toList.all fun u => !Tryz.prog.wantsStandIn u) = true := by kernel_rfl
    exact (show Tryz.prog.wantsStandIn t = false by simpa using List.all_eq_true.1 hall t hm)⟩)
  (by kernel_rfl)
#print axioms prefixTexts_holds
end Go.Proofs.YtlgnmgbnbomckaaGreatDoor
