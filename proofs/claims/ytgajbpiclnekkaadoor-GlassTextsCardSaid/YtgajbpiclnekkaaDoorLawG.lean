/- GlassTexts: the law returns true for every input, and its arguments read behind the call as they read before: the row, and its tied card. Conditions: none beyond the given statement's. -/
import Derived.Test.YtgajbpiclnekkaaDoorNO
import Derived.Test.YtgajbpiclnekkaaDoorT30
import Derived.Test.YtgajbpiclnekkaaDoorGE
import Derived.Test.YtgajbpiclnekkaaDoorRows
import Derived.Test.YtgajbpiclnekkaaDoorCards
import Derived.Test.YtgajbpiclnekkaaDoorTie
import Derived.ProofKit
import Derived.OpenShut
import Derived.LaidMore
import Derived.Lay
import Derived.SevenTiedAt
import Derived.Stop.Joined
namespace Go.Proofs.YtgajbpiclnekkaaDoor
open Go.ChangeShapes Go.WideShapes Go.ChangeAt Go.RowKit
open Go.VM
theorem glassTexts_own : ownKnob Tryd.prog.godebug = none := by kernel_rfl
theorem glassTexts_laidOut : laidOutB Tryd.prog = true := by kernel_rfl
theorem glassTexts_typed (N : Nat) : FnOk1 ⟨[.d (.st t2), .d .str, .d (.int .i64), .d (.int .i64)], [(.bool, [])], none⟩ [] (call FT N 3) (nfN TN N 3) := by
  have h := typed N 3
  unfold FnOk at h
  rw [sigOk 3] at h
  exact h
theorem glassTexts_true (vs : List V) (h : TyVs Tryd.prog Tryd.f3.params.toList vs) : ∃ n, call FT n 3 vs [] = some (.bool true, []) :=
  law_of (P := Tryd.prog) (ps := [.d (.st t2), .d .str, .d (.int .i64), .d (.int .i64)]) (c := fun N => call FT N 3) (g := fun N => nfN TN N 3) glassTexts_typed (by kernel_rfl)
    (fun ⟨_, _, _, _⟩ ⟨h0, _⟩ => ⟨2000, true, glass ⟨i64_of h0.1, i64_of h0.2.1, i64_of h0.2.2.1, i64_of h0.2.2.2⟩, rfl⟩) vs h
theorem glassTexts_om {W : World} (hs : W.ShapedOpen Tryd.prog) (hL : laidMetH Tryd.prog Rows.glassTextsRow.laid W) : Ow W :=
  om_of_laid hs (by kernel_rfl) hL (fun _ => ⟨by kernel_rfl, by kernel_rfl⟩) (fun _ => ⟨by kernel_rfl, by kernel_rfl, by kernel_rfl⟩) (fun z hz => by cases hz)

set_option maxRecDepth 100000 in
theorem glassTexts_lifted (os : Os) (started : os.Started) (H : Type) (enc : TypeId × Value → H) :
    ReturnsInHanded {} Tryd.checked os 3 .any (fun w args => (Rows.glassTextsSpec.pre enc Tryd.prog Tryd.f3 Rows.glassTextsRow.domain false w args ∧ laidMetH Tryd.prog Rows.glassTextsRow.laid w) ∧ sizedMet enc Tryd.prog Tryd.f3 (OpenSpec.ofChange Rows.glassTextsSpec) false w args) (Rows.glassTextsSpec.post enc Tryd.prog Tryd.f3 false true false false) := by
  refine returns_laid (C := Tryd.checked) (X := fun w _ => laidMetH Tryd.prog Rows.glassTextsRow.laid w) (fun _ _ _ hh h => h.of_heap hh) glassTexts_own started (by kernel_rfl) Tryd.func3
    (ChangeSpec.witness_shaped (enc := enc) (C := Tryd.checked) (os := os) (X := fun w _ => laidMetH Tryd.prog Rows.glassTextsRow.laid w) false (World.laidAll Tryd.prog os Rows.glassTextsRow.laid) #[.agg #[.int .i64 0, .int .i64 0, .int .i64 0, .int .i64 0], .string ⟨#[]⟩, .int .i64 0, .int .i64 0] 8 (World.laidAll_os _ _ _)
      (World.shaped_of_ZipB (by kernel_rfl) (by kernel_rfl)) (by kernel_rfl) (by kernel_rfl) (by kernel_rfl)
      (by rw [MakeChecks.laidMetH_plain _ _ _ (by kernel_rfl)]; exact laidMet_laidAll _ (by kernel_rfl) (by kernel_rfl))) ?_
  intro W base args ds gs before hval hW hsh hX
  exact contract_of_vm (P := Tryd.prog) tableOk (f := 3) (tb := 4) (vf := vf3) rfl glassTexts_laidOut (by kernel_rfl) (by kernel_rfl) (by kernel_rfl) Tryd.underlying4 rfl (fun ds hl => by
    match ds, hl with
    | [_, _, _, _], _ => rfl) glassTexts_true (om_stays (glassTexts_om hsh hX)) hval hW

theorem glassTexts_row_holds : Rows.GlassTextsSaid :=
  OpenClaim.holds_of_wide 3 Tryd.f3 rfl rfl rfl rfl rfl rfl rfl ⟨rfl, rfl, rfl, rfl, rfl⟩ rfl rfl rfl rfl rfl (by kernel_rfl) Tryd.func3 (by kernel_rfl)
    (of_decide_eq_true (by kernel_rfl)) (by unfold Func.isWrapper; first | (rw [if_pos (by decide +kernel)]; kernel_rfl) | (rw [if_neg (by decide +kernel)]; exact ⟨rfl, rfl⟩))
    (fun os started H enc _ => glassTexts_lifted os started H enc)
theorem glassTexts_holds : Rows.GlassTextsCardSaid :=
  Claim7.holds_tied_plain_at .later [] [.data, .data, .data, .data, .sentinel, .sentinel, .pinned] true (true, "4e80f31eadf2004f4bb81a94ca456f0d8a07f27e27d3598ab0aab5886a18a619") true
    glassTexts_row_holds (fun _ h => by cases h) (by kernel_rfl) (fun _ h => by cases h) glassTexts_row_tie rfl ⟨rfl, rfl⟩ (by kernel_rfl) rfl
    (fun f fn hf hfn => by
      obtain rfl : f = 3 := Option.some.inj ((show Tryd.prog.funcNamed "exchangepoint/exchangepointlaw36.GlassTexts" = some 3 by kernel_rfl).symm.trans hf) |>.symm
      obtain rfl : fn = Tryd.f3 := (Option.some.inj (Tryd.func3.symm.trans hfn)).symm
      exact ⟨by kernel_rfl, fun j t ht => by
        have hm : t ∈ Tryd.f3.params.toList := Array.mem_toList_iff.2 (Array.mem_of_getElem? ht)
        have hall : (Tryd.f3.params.toList.all fun u => !Tryd.prog.wantsStandIn u) = true := by kernel_rfl
        exact (show Tryd.prog.wantsStandIn t = false by simpa using List.all_eq_true.1 hall t hm)⟩)
    (by kernel_rfl)
#print axioms glassTexts_holds
end Go.Proofs.YtgajbpiclnekkaaDoor
