/- PrefixBack: the law returns true for every input, and its arguments read behind the call as they read before: the row, and its tied card. Conditions: none beyond the given statement's. -/
import Derived.Test.YtlgnmgbnbomckaaGreatDoorNO
import Derived.Test.YtlgnmgbnbomckaaGreatDoorT30
import Derived.Test.YtlgnmgbnbomckaaGreatDoorPJ
import Derived.Test.YtlgnmgbnbomckaaGreatDoorRows
import Derived.Test.YtlgnmgbnbomckaaGreatDoorCards
import Derived.Test.YtlgnmgbnbomckaaGreatDoorTie
import Derived.ProofKit
import Derived.OpenShut
import Derived.LaidMore
import Derived.Lay
import Derived.SevenTiedAt
import Derived.Stop.Joined
namespace Go.Proofs.YtlgnmgbnbomckaaGreatDoor
open Go.ChangeShapes Go.WideShapes Go.ChangeAt Go.RowKit
open Go.VM
theorem prefixBack_own : ownKnob Tryz.prog.godebug = none := by kernel_rfl
theorem prefixBack_laidOut : laidOutB Tryz.prog = true := by kernel_rfl
theorem prefixBack_typed (N : Nat) : wZ ⟨[.d (.sl (.int .i64))], [(.bool, [])], none⟩ [] (call FT N 3) (nfN TN N 3) := by
 have h := typed N 3
 unfold aF7 at h
 rw [sigOk 3] at h
 exact h
theorem prefixBack_true (vs : List V) (h : aIX Tryz.prog Tryz.f3.params.toList vs) : ∃ n, call FT n 3 vs [] = some (.bool true, []) :=
 aJx (P := Tryz.prog) (ps := [.d (.sl (.int .i64))]) (c := fun N => call FT N 3) (g := fun N => nfN TN N 3) prefixBack_typed (by kernel_rfl)
  (fun _ ⟨h0, _⟩ => ⟨2000, true, backP h0.1, rfl⟩) vs h
theorem prefixBack_om {W : World} (hs : W.ShapedOpen Tryz.prog) (hL : laidMetH Tryz.prog Rows.prefixBackRow.laid W) : Ow W :=
 om_of_laid hs (by kernel_rfl) hL (fun _ => ⟨by kernel_rfl, by kernel_rfl⟩) (fun _ => ⟨by kernel_rfl, by kernel_rfl, by kernel_rfl⟩) (fun z hz => by cases hz; exact ⟨by kernel_rfl, by kernel_rfl⟩)
set_option maxRecDepth 100000 in
theorem prefixBack_lifted (os : Os) (started : os.Started) (H : Type) (enc : TypeId × Value → H) :
  ReturnsInHanded {} Tryz.checked os 3 .any (fun w args => (Rows.prefixBackSpec.pre enc Tryz.prog Tryz.f3 Rows.prefixBackRow.domain false w args ∧ laidMetH Tryz.prog Rows.prefixBackRow.laid w) ∧ sizedMet enc Tryz.prog Tryz.f3 (OpenSpec.ofChange Rows.prefixBackSpec) false w args) (Rows.prefixBackSpec.post enc Tryz.prog Tryz.f3 false true false false) := by
 refine aGw (C := Tryz.checked) (X := fun w _ => laidMetH Tryz.prog Rows.prefixBackRow.laid w) (fun _ _ _ hh h => h.of_heap hh) prefixBack_own started (by kernel_rfl) Tryz.func3
  (ChangeSpec.witness_shaped (enc := enc) (C := Tryz.checked) (os := os) (X := fun w _ => laidMetH Tryz.prog Rows.prefixBackRow.laid w) false (World.laidAll Tryz.prog os Rows.prefixBackRow.laid) #[.slice none 0 0] 8 (World.laidAll_os _ _ _)
   (World.shaped_of_ZipB (by kernel_rfl) (by kernel_rfl)) (by kernel_rfl) (by kernel_rfl) (by kernel_rfl)
   (by rw [MakeChecks.laidMetH_plain _ _ _ (by kernel_rfl)]; exact laidMet_laidAll _ (by kernel_rfl) (by kernel_rfl))) ?_
 intro W base args ds gs before hval hW hsh hX
 exact aF5 (P := Tryz.prog) tableOk (f := 3) (tb := 4) (vf := vf3) rfl prefixBack_laidOut (by kernel_rfl) (by kernel_rfl) (by kernel_rfl) Tryz.underlying4 rfl (fun ds hl => by
  match ds, hl with
  | [_], _ => rfl) prefixBack_true (aJN (prefixBack_om hsh hX)) hval hW
theorem prefixBack_row_holds : Rows.PrefixBackSaid :=
 OpenClaim.holds_of_wide 3 Tryz.f3 rfl rfl rfl rfl rfl rfl rfl ⟨rfl, rfl, rfl, rfl, rfl⟩ rfl rfl rfl rfl rfl (by kernel_rfl) Tryz.func3 (by kernel_rfl)
  (of_decide_eq_true (by kernel_rfl)) (by unfold Func.isWrapper; first | (rw [if_pos (by decide +kernel)]; kernel_rfl) | (rw [if_neg (by decide +kernel)]; exact ⟨rfl, rfl⟩))
  (fun os started H enc _ => prefixBack_lifted os started H enc)
theorem prefixBack_holds : Rows.PrefixBackCardSaid :=
 Claim7.holds_tied_plain_at .later [] [.data, .data, .data, .data, .sentinel, .sentinel, .pinned] true (true, "abb61db42a00441c8a113be25c2c579e48c9b5a12e9703417fe5941908f62ad9") true
  prefixBack_row_holds (fun _ h => by cases h) (by kernel_rfl) (fun _ h => by cases h) prefixBack_row_tie rfl ⟨rfl, rfl⟩ (by kernel_rfl) rfl
  (fun f fn hf hfn => by
   obtain rfl : f = 3 := Option.some.inj ((show Tryz.prog.funcNamed "exchangepoint/exchangepointlaw02.PrefixBack" = some 3 by kernel_rfl).symm.trans hf) |>.symm
   obtain rfl : fn = Tryz.f3 := (Option.some.inj (Tryz.func3.symm.trans hfn)).symm
   exact ⟨by kernel_rfl, fun j t ht => by
    have hm : t ∈ Tryz.f3.params.toList := Array.mem_toList_iff.2 (Array.mem_of_getElem? ht)
    have hall : (Tryz.f3.params.toList.all fun u => !Tryz.prog.wantsStandIn u) = true := by kernel_rfl
    exact (show Tryz.prog.wantsStandIn t = false by simpa using List.all_eq_true.1 hall t hm)⟩)
  (by kernel_rfl)
#print axioms prefixBack_holds
end Go.Proofs.YtlgnmgbnbomckaaGreatDoor
