/- AddrOrders: the law returns true for every input, and its arguments read behind the call as they read before: the row, and its tied card. Conditions: none beyond the given statement's. -/
import Derived.Test.YtfglhfbnbdmhfaaDoorNO
import Derived.Test.YtfglhfbnbdmhfaaDoorT30
import Derived.Test.YtfglhfbnbdmhfaaDoorQR
import Derived.Test.YtfglhfbnbdmhfaaDoorRows
import Derived.Test.YtfglhfbnbdmhfaaDoorCards
import Derived.Test.YtfglhfbnbdmhfaaDoorTie
import Derived.ProofKit
import Derived.OpenShut
import Derived.LaidMore
import Derived.Lay
import Derived.SevenTiedAt
import Derived.Stop.Joined
namespace Go.Proofs.YtfglhfbnbdmhfaaDoor
open Go.ChangeShapes Go.WideShapes Go.ChangeAt Go.RowKit
open Go.VM
theorem addrOrders_own : ownKnob Tryd.prog.godebug = none := by kernel_rfl
theorem addrOrders_laidOut : laidOutB Tryd.prog = true := by kernel_rfl
theorem addrOrders_typed (N : Nat) : FnOk1 ⟨[.d t1, .d (.sl (.int .u8)), .d (.sl (.int .i64))], [(.bool, [])], none⟩ [] (call FT N 6) (nfN TN N 6) := by
  have h := typed N 6
  unfold FnOk at h
  rw [sigOk 6] at h
  exact h
theorem addrOrders_true (vs : List V) (h : TyVs Tryd.prog Tryd.f6.params.toList vs) : ∃ n, call FT n 6 vs [] = some (.bool true, []) :=
  law_of (P := Tryd.prog) (ps := [.d t1, .d (.sl (.int .u8)), .d (.sl (.int .i64))]) (c := fun N => call FT N 6) (g := fun N => nfN TN N 6) addrOrders_typed (by kernel_rfl)
    (fun ⟨a0, a1, a2⟩ ⟨h0, h1, h2, _⟩ => ⟨200, true, orders ⟨u64_of h0.2.1, u64_of h0.2.2⟩ (u8_of h1.2) h2.1, rfl⟩) vs h
theorem addrOrders_om {W : World} (hs : W.ShapedOpen Tryd.prog) (hL : laidMetH Tryd.prog Rows.addrOrdersRow.laid W) : Ow W :=
  om_of_laid hs (by kernel_rfl) hL (fun _ => ⟨by kernel_rfl, by kernel_rfl⟩) (fun _ => ⟨by kernel_rfl, by kernel_rfl, by kernel_rfl⟩) (fun z hz => by cases hz; exact ⟨by kernel_rfl, by kernel_rfl⟩)

set_option maxRecDepth 100000 in
theorem addrOrders_lifted (os : Os) (started : os.Started) (H : Type) (enc : TypeId × Value → H) :
    ReturnsInHanded {} Tryd.checked os 6 .any (fun w args => (Rows.addrOrdersSpec.pre enc Tryd.prog Tryd.f6 Rows.addrOrdersRow.domain false w args ∧ laidMetH Tryd.prog Rows.addrOrdersRow.laid w) ∧ sizedMet enc Tryd.prog Tryd.f6 (OpenSpec.ofChange Rows.addrOrdersSpec) false w args) (Rows.addrOrdersSpec.post enc Tryd.prog Tryd.f6 false true false false) := by
  refine returns_laid (C := Tryd.checked) (X := fun w _ => laidMetH Tryd.prog Rows.addrOrdersRow.laid w) (fun _ _ _ hh h => h.of_heap hh) addrOrders_own started (by kernel_rfl) Tryd.func6
    (ChangeSpec.witness_shaped (enc := enc) (C := Tryd.checked) (os := os) (X := fun w _ => laidMetH Tryd.prog Rows.addrOrdersRow.laid w) false (World.laidAll Tryd.prog os Rows.addrOrdersRow.laid) #[.agg #[.bool false, .int .u64 0, .int .u64 0], .slice none 0 0, .slice none 0 0] 8 (World.laidAll_os _ _ _)
      (World.shaped_of_ZipB (by kernel_rfl) (by kernel_rfl)) (by kernel_rfl) (by kernel_rfl) (by kernel_rfl)
      (by rw [MakeChecks.laidMetH_plain _ _ _ (by kernel_rfl)]; exact laidMet_laidAll _ (by kernel_rfl) (by kernel_rfl))) ?_
  intro W base args ds gs before hval hW hsh hX
  exact contract_of_vm (P := Tryd.prog) tableOk (f := 6) (tb := 4) (vf := vf6) rfl addrOrders_laidOut (by kernel_rfl) (by kernel_rfl) (by kernel_rfl) Tryd.underlying4 rfl (fun ds hl => by
    match ds, hl with
    | [_, _, _], _ => rfl) addrOrders_true (om_stays (addrOrders_om hsh hX)) hval hW

theorem addrOrders_row_holds : Rows.AddrOrdersSaid :=
  OpenClaim.holds_of_wide 6 Tryd.f6 rfl rfl rfl rfl rfl rfl rfl ⟨rfl, rfl, rfl, rfl, rfl⟩ rfl rfl rfl rfl rfl (by kernel_rfl) Tryd.func6 (by kernel_rfl)
    (of_decide_eq_true (by kernel_rfl)) (by unfold Func.isWrapper; first | (rw [if_pos (by decide +kernel)]; kernel_rfl) | (rw [if_neg (by decide +kernel)]; exact ⟨rfl, rfl⟩))
    (fun os started H enc _ => addrOrders_lifted os started H enc)
theorem addrOrders_holds : Rows.AddrOrdersCardSaid :=
  Claim7.holds_tied_plain_at .later [] [.data, .data, .data, .data, .sentinel, .sentinel, .pinned] true (true, "d6a0c9d08dcdea2ccc6c4722ecc28a77a71efb226c9249fda31a98191e6da971") true
    addrOrders_row_holds (fun _ h => by cases h) (by kernel_rfl) (fun _ h => by cases h) addrOrders_row_tie rfl ⟨rfl, rfl⟩ (by kernel_rfl) rfl
    (fun f fn hf hfn => by
      obtain rfl : f = 6 := Option.some.inj ((show Tryd.prog.funcNamed "exchangepoint/exchangepointlaw01.AddrOrders" = some 6 by kernel_rfl).symm.trans hf) |>.symm
      obtain rfl : fn = Tryd.f6 := (Option.some.inj (Tryd.func6.symm.trans hfn)).symm
      exact ⟨by kernel_rfl, fun j t ht => by
        have hm : t ∈ Tryd.f6.params.toList := Array.mem_toList_iff.2 (Array.mem_of_getElem? ht)
        have hall : (Tryd.f6.params.toList.all fun u => !Tryd.prog.wantsStandIn u) = true := by kernel_rfl
        exact (show Tryd.prog.wantsStandIn t = false by simpa using List.all_eq_true.1 hall t hm)⟩)
    (by kernel_rfl)
#print axioms addrOrders_holds
end Go.Proofs.YtfglhfbnbdmhfaaDoor
