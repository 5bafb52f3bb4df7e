/- PrefixCovers: the law returns true for every input, and its arguments read behind the call as they read before: the row, and its tied card. Conditions: none beyond the given statement's. -/
import Derived.Test.YtlgnmgbnbomckaaGreatDoorNO
import Derived.Test.YtlgnmgbnbomckaaGreatDoorT30
import Derived.Test.YtlgnmgbnbomckaaGreatDoorPG
import Derived.Test.YtlgnmgbnbomckaaGreatDoorRows
import Derived.Test.YtlgnmgbnbomckaaGreatDoorCards
import Derived.Test.YtlgnmgbnbomckaaGreatDoorTie
import Derived.ProofKit
import Derived.OpenShut
import Derived.LaidMore
import Derived.Lay
import Derived.SevenTiedAt
import Derived.Stop.Joined
namespace Go.Proofs.YtlgnmgbnbomckaaGreatDoor
open Go.ChangeShapes Go.WideShapes Go.ChangeAt Go.RowKit
open Go.VM
theorem prefixCovers_own : ownKnob Tryz.prog.godebug = none := by kernel_rfl
theorem prefixCovers_laidOut : laidOutB Tryz.prog = true := by kernel_rfl
theorem prefixCovers_typed (N : Nat) : wZ ⟨[.d (.st t2), .d (.st t2), .d (.sl (.int .i64))], [(.bool, [])], none⟩ [] (call FT N 6) (nfN TN N 6) := by
 have h := typed N 6
 unfold aF7 at h
 rw [sigOk 6] at h
 exact h
theorem prefixCovers_true (vs : List V) (h : aIX Tryz.prog Tryz.f6.params.toList vs) : ∃ n, call FT n 6 vs [] = some (.bool true, []) :=
 aJx (P := Tryz.prog) (ps := [.d (.st t2), .d (.st t2), .d (.sl (.int .i64))]) (c := fun N => call FT N 6) (g := fun N => nfN TN N 6) prefixCovers_typed (by kernel_rfl)
  (fun ⟨_, _, _⟩ ⟨h0, h1, h2, _⟩ => ⟨2000, true, coversL h2.1 ⟨u64_of h0.1.2.1, u64_of h0.1.2.2⟩ ⟨u64_of h1.1.2.1, u64_of h1.1.2.2⟩, rfl⟩) vs h
theorem prefixCovers_om {W : World} (hs : W.ShapedOpen Tryz.prog) (hL : laidMetH Tryz.prog Rows.prefixCoversRow.laid W) : Ow W :=
 om_of_laid hs (by kernel_rfl) hL (fun _ => ⟨by kernel_rfl, by kernel_rfl⟩) (fun _ => ⟨by kernel_rfl, by kernel_rfl, by kernel_rfl⟩) (fun z hz => by cases hz; exact ⟨by kernel_rfl, by kernel_rfl⟩)
set_option maxRecDepth 100000 in
theorem prefixCovers_lifted (os : Os) (started : os.Started) (H : Type) (enc : TypeId × Value → H) :
  ReturnsInHanded {} Tryz.checked os 6 .any (fun w args => (Rows.prefixCoversSpec.pre enc Tryz.prog Tryz.f6 Rows.prefixCoversRow.domain false w args ∧ laidMetH Tryz.prog Rows.prefixCoversRow.laid w) ∧ sizedMet enc Tryz.prog Tryz.f6 (OpenSpec.ofChange Rows.prefixCoversSpec) false w args) (Rows.prefixCoversSpec.post enc Tryz.prog Tryz.f6 false true false false) := by
 refine aGw (C := Tryz.checked) (X := fun w _ => laidMetH Tryz.prog Rows.prefixCoversRow.laid w) (fun _ _ _ hh h => h.of_heap hh) prefixCovers_own started (by kernel_rfl) Tryz.func6
  (ChangeSpec.witness_shaped (enc := enc) (C := Tryz.checked) (os := os) (X := fun w _ => laidMetH Tryz.prog Rows.prefixCoversRow.laid w) false (World.laidAll Tryz.prog os Rows.prefixCoversRow.laid) #[.agg #[.bool false, .int .u64 0, .int .u64 0, .int .i64 0], .agg #[.bool false, .int .u64 0, .int .u64 0, .int .i64 0], .slice none 0 0] 8 (World.laidAll_os _ _ _)
   (World.shaped_of_ZipB (by kernel_rfl) (by kernel_rfl)) (by kernel_rfl) (by kernel_rfl) (by kernel_rfl)
   (by rw [MakeChecks.laidMetH_plain _ _ _ (by kernel_rfl)]; exact laidMet_laidAll _ (by kernel_rfl) (by kernel_rfl))) ?_
 intro W base args ds gs before hval hW hsh hX
 exact aF5 (P := Tryz.prog) tableOk (f := 6) (tb := 4) (vf := vf6) rfl prefixCovers_laidOut (by kernel_rfl) (by kernel_rfl) (by kernel_rfl) Tryz.underlying4 rfl (fun ds hl => by
  match ds, hl with
  | [_, _, _], _ => rfl) prefixCovers_true (aJN (prefixCovers_om hsh hX)) hval hW
theorem prefixCovers_row_holds : Rows.PrefixCoversSaid :=
 OpenClaim.holds_of_wide 6 Tryz.f6 rfl rfl rfl rfl rfl rfl rfl ⟨rfl, rfl, rfl, rfl, rfl⟩ rfl rfl rfl rfl rfl (by kernel_rfl) Tryz.func6 (by kernel_rfl)
  (of_decide_eq_true (by kernel_rfl)) (by unfold Func.isWrapper; first | (rw [if_pos (by decide +kernel)]; kernel_rfl) | (rw [if_neg (by decide +kernel)]; exact ⟨rfl, rfl⟩))
  (fun os started H enc _ => prefixCovers_lifted os started H enc)
theorem prefixCovers_holds : Rows.PrefixCoversCardSaid :=
 Claim7.holds_tied_plain_at .later [] [.data, .data, .data, .data, .sentinel, .sentinel, .pinned] true (true, "abb61db42a00441c8a113be25c2c579e48c9b5a12e9703417fe5941908f62ad9") true
  prefixCovers_row_holds (fun _ h => by cases h) (by kernel_rfl) (fun _ h => by cases h) prefixCovers_row_tie rfl ⟨rfl, rfl⟩ (by kernel_rfl) rfl
  (fun f fn hf hfn => by
   obtain rfl : f = 6 := Option.some.inj ((show Tryz.prog.funcNamed "exchangepoint/exchangepointlaw02.PrefixCovers" = some 6 by kernel_rfl).symm.trans hf) |>.symm
   obtain rfl : fn = Tryz.f6 := (Option.some.inj (Tryz.func6.symm.trans hfn)).symm
   exact ⟨by kernel_rfl, fun j t ht => by
    have hm : t ∈ Tryz.f6.params.toList := Array.mem_toList_iff.2 (Array.mem_of_getElem? ht)
    have hall : (Tryz.f6.params.toList.all fun u => !Tryz.prog.wantsStandIn u) = true := by kernel_rfl
    exact (show Tryz.prog.wantsStandIn t = false by simpa using List.all_eq_true.1 hall t hm)⟩)
  (by kernel_rfl)
#print axioms prefixCovers_holds
end Go.Proofs.YtlgnmgbnbomckaaGreatDoor
