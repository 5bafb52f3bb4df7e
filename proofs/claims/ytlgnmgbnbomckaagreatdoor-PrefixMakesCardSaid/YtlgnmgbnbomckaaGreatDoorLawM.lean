/- PrefixMakes: the law returns true for every input, and its arguments read behind the call as they read before: the row, and its tied card. Conditions: none beyond the given statement's. -/
import Derived.Test.YtlgnmgbnbomckaaGreatDoorNO
import Derived.Test.YtlgnmgbnbomckaaGreatDoorT30
import Derived.Test.YtlgnmgbnbomckaaGreatDoorPG
import Derived.Test.YtlgnmgbnbomckaaGreatDoorRows
import Derived.Test.YtlgnmgbnbomckaaGreatDoorCards
import Derived.Test.YtlgnmgbnbomckaaGreatDoorTie
import Derived.ProofKit
import Derived.OpenShut
import Derived.LaidMore
import Derived.Lay
import Derived.SevenTiedAt
import Derived.Stop.Joined
namespace Go.Proofs.YtlgnmgbnbomckaaGreatDoor
open Go.ChangeShapes Go.WideShapes Go.ChangeAt Go.RowKit
open Go.VM
theorem prefixMakes_own : ownKnob Tryz.prog.godebug = none := by kernel_rfl
theorem prefixMakes_laidOut : laidOutB Tryz.prog = true := by kernel_rfl
theorem prefixMakes_typed (N : Nat) : wZ ⟨[.d (.st t2), .d t1, .d (.sl (.int .i64)), .d (.int .i64)], [(.bool, [])], none⟩ [] (call FT N 8) (nfN TN N 8) := by
 have h := typed N 8
 unfold aF7 at h
 rw [sigOk 8] at h
 exact h
theorem prefixMakes_true (vs : List V) (h : aIX Tryz.prog Tryz.f8.params.toList vs) : ∃ n, call FT n 8 vs [] = some (.bool true, []) :=
 aJx (P := Tryz.prog) (ps := [.d (.st t2), .d t1, .d (.sl (.int .i64)), .d (.int .i64)]) (c := fun N => call FT N 8) (g := fun N => nfN TN N 8) prefixMakes_typed (by kernel_rfl)
  (fun ⟨_, _, _, _⟩ ⟨h0, h1, h2, h3, _⟩ => ⟨2000, true, cB h2.1 ⟨u64_of h0.1.2.1, u64_of h0.1.2.2⟩ ⟨u64_of h1.2.1, u64_of h1.2.2⟩ h3.2, rfl⟩) vs h
theorem prefixMakes_om {W : World} (hs : W.ShapedOpen Tryz.prog) (hL : laidMetH Tryz.prog Rows.prefixMakesRow.laid W) : Ow W :=
 om_of_laid hs (by kernel_rfl) hL (fun _ => ⟨by kernel_rfl, by kernel_rfl⟩) (fun _ => ⟨by kernel_rfl, by kernel_rfl, by kernel_rfl⟩) (fun z hz => by cases hz; exact ⟨by kernel_rfl, by kernel_rfl⟩)
set_option maxRecDepth 100000 in
theorem prefixMakes_lifted (os : Os) (started : os.Started) (H : Type) (enc : TypeId × Value → H) :
  ReturnsInHanded {} Tryz.checked os 8 .any (fun w args => (Rows.prefixMakesSpec.pre enc Tryz.prog Tryz.f8 Rows.prefixMakesRow.domain false w args ∧ laidMetH Tryz.prog Rows.prefixMakesRow.laid w) ∧ sizedMet enc Tryz.prog Tryz.f8 (OpenSpec.ofChange Rows.prefixMakesSpec) false w args) (Rows.prefixMakesSpec.post enc Tryz.prog Tryz.f8 false true false false) := by
 refine aGw (C := Tryz.checked) (X := fun w _ => laidMetH Tryz.prog Rows.prefixMakesRow.laid w) (fun _ _ _ hh h => h.of_heap hh) prefixMakes_own started (by kernel_rfl) Tryz.func8
  (ChangeSpec.witness_shaped (enc := enc) (C := Tryz.checked) (os := os) (X := fun w _ => laidMetH Tryz.prog Rows.prefixMakesRow.laid w) false (World.laidAll Tryz.prog os Rows.prefixMakesRow.laid) #[.agg #[.bool false, .int .u64 0, .int .u64 0, .int .i64 0], .agg #[.bool false, .int .u64 0, .int .u64 0], .slice none 0 0, .int .i64 0] 8 (World.laidAll_os _ _ _)
   (World.shaped_of_ZipB (by kernel_rfl) (by kernel_rfl)) (by kernel_rfl) (by kernel_rfl) (by kernel_rfl)
   (by rw [MakeChecks.laidMetH_plain _ _ _ (by kernel_rfl)]; exact laidMet_laidAll _ (by kernel_rfl) (by kernel_rfl))) ?_
 intro W base args ds gs before hval hW hsh hX
 exact aF5 (P := Tryz.prog) tableOk (f := 8) (tb := 4) (vf := vf8) rfl prefixMakes_laidOut (by kernel_rfl) (by kernel_rfl) (by kernel_rfl) Tryz.underlying4 rfl (fun ds hl => by
  match ds, hl with
  | [_, _, _, _], _ => rfl) prefixMakes_true (aJN (prefixMakes_om hsh hX)) hval hW
theorem prefixMakes_row_holds : Rows.PrefixMakesSaid :=
 OpenClaim.holds_of_wide 8 Tryz.f8 rfl rfl rfl rfl rfl rfl rfl ⟨rfl, rfl, rfl, rfl, rfl⟩ rfl rfl rfl rfl rfl (by kernel_rfl) Tryz.func8 (by kernel_rfl)
  (of_decide_eq_true (by kernel_rfl)) (by unfold Func.isWrapper; first | (rw [if_pos (by decide +kernel)]; kernel_rfl) | (rw [if_neg (by decide +kernel)]; exact ⟨rfl, rfl⟩))
  (fun os started H enc _ => prefixMakes_lifted os started H enc)
theorem prefixMakes_holds : Rows.PrefixMakesCardSaid :=
 Claim7.holds_tied_plain_at .later [] [.data, .data, .data, .data, .sentinel, .sentinel, .pinned] true (true, "abb61db42a00441c8a113be25c2c579e48c9b5a12e9703417fe5941908f62ad9") true
  prefixMakes_row_holds (fun _ h => by cases h) (by kernel_rfl) (fun _ h => by cases h) prefixMakes_row_tie rfl ⟨rfl, rfl⟩ (by kernel_rfl) rfl
  (fun f fn hf hfn => by
   obtain rfl : f = 8 := Option.some.inj ((show Tryz.prog.funcNamed "exchangepoint/exchangepointlaw02.PrefixMakes" = some 8 by kernel_rfl).symm.trans hf) |>.symm
   obtain rfl : fn = Tryz.f8 := (Option.some.inj (Tryz.func8.symm.trans hfn)).symm
   exact ⟨by kernel_rfl, fun j t ht => by
    have hm : t ∈ Tryz.f8.params.toList := Array.mem_toList_iff.2 (Array.mem_of_getElem? ht)
    have hall : (Tryz.f8.params.toList.all fun u => !Tryz.prog.wantsStandIn u) = true := by kernel_rfl
    exact (show Tryz.prog.wantsStandIn t = false by simpa using List.all_eq_true.1 hall t hm)⟩)
  (by kernel_rfl)
#print axioms prefixMakes_holds
end Go.Proofs.YtlgnmgbnbomckaaGreatDoor
