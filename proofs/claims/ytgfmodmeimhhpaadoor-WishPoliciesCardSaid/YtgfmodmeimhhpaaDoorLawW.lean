/- WishPolicies: the law returns true for every input, and its arguments read behind the call as they read before: the row, and its tied card. Conditions: none beyond the given statement's. -/
import Derived.Test.YtgfmodmeimhhpaaDoorNO
import Derived.Test.YtgfmodmeimhhpaaDoorT30
import Derived.Test.YtgfmodmeimhhpaaDoorCB
import Derived.Test.YtgfmodmeimhhpaaDoorRows
import Derived.Test.YtgfmodmeimhhpaaDoorCards
import Derived.Test.YtgfmodmeimhhpaaDoorTie
import Derived.ProofKit
import Derived.OpenShut
import Derived.LaidMore
import Derived.Lay
import Derived.SevenTiedAt
import Derived.Stop.Joined
namespace Go.Proofs.YtgfmodmeimhhpaaDoor
open Go.ChangeShapes Go.WideShapes Go.ChangeAt Go.RowKit
open Go.VM
theorem wishPolicies_own:ownKnob Tryd.prog.godebug=none:=by kernel_rfl
theorem wishPolicies_laidOut:laidOutB Tryd.prog=true:=by kernel_rfl
theorem wishPolicies_typed (N:Nat):wZ ⟨[.d (.st t19),.d (.sl (.int .i64)),.d (.int .i64),.d (.int .i64)],[(.bool,[])],none⟩ [] (call FT N 3) (nfN TN N 3):=by
 have h:=typed N 3
 unfold aF7 at h
 rw [sigOk 3] at h
 exact h
theorem wishPolicies_true (vs:List V) (h:aIX Tryd.prog Tryd.f3.params.toList vs):∃ n,call FT n 3 vs []=some (.bool true,[]) :=
 aJx (P:=Tryd.prog) (ps:=[.d (.st t19),.d (.sl (.int .i64)),.d (.int .i64),.d (.int .i64)]) (c:=fun N=>call FT N 3) (g:=fun N=>nfN TN N 3) wishPolicies_typed (by kernel_rfl)
  (fun ⟨_,_,_,_⟩ ⟨_,h1,_⟩=>⟨1006,true,policiesE 1001 (by decide) _ h1.1 _ _,rfl⟩) vs h
theorem wishPolicies_om {W:World} (hs:W.ShapedOpen Tryd.prog) (hL:laidMetH Tryd.prog Rows.wishPoliciesRow.laid W):Ow W :=
 om_of_laid hs (by kernel_rfl) hL (fun h=>by cases h) (fun h=>by cases h) (fun z hz=>by cases hz)
set_option maxRecDepth 100000 in
theorem wishPolicies_lifted (os : Os) (started : os.Started) (H : Type) (enc : TypeId × Value → H) :
  ReturnsInHanded {} Tryd.checked os 3 .any (fun w args=>(Rows.wishPoliciesSpec.pre enc Tryd.prog Tryd.f3 Rows.wishPoliciesRow.domain false w args∧laidMetH Tryd.prog Rows.wishPoliciesRow.laid w)∧sizedMet enc Tryd.prog Tryd.f3 (OpenSpec.ofChange Rows.wishPoliciesSpec) false w args) (Rows.wishPoliciesSpec.post enc Tryd.prog Tryd.f3 false true false false):=by
 refine aGw (C:=Tryd.checked) (X:=fun w _=>laidMetH Tryd.prog Rows.wishPoliciesRow.laid w) (fun _ _ _ hh h=>h.of_heap hh) wishPolicies_own started (by kernel_rfl) Tryd.func3
  (ChangeSpec.witness_shaped (enc:=enc) (C:=Tryd.checked) (os:=os) (X:=fun w _=>laidMetH Tryd.prog Rows.wishPoliciesRow.laid w) false (World.doorLaid Tryd.prog 54 os) #[.agg #[.int .i64 0,.bool false,.bool false,.bool false,.int .i64 0,.slice none 0 0,.slice none 0 0],.slice none 0 0,.int .i64 0,.int .i64 0] 8 rfl
   (World.shaped_of_RefB (by kernel_rfl) (by kernel_rfl)) (by kernel_rfl) (by kernel_rfl) (by kernel_rfl)
   (laidMetH_of_parts3 (fuel:=8) (laidMet_of_run' 8 (by kernel_rfl) (by kernel_rfl)) (by kernel_rfl) (by kernel_rfl))) ?_
 intro W base args ds gs before hval hW hsh hX
 exact aF5 (P:=Tryd.prog) tableOk (f:=3) (tb:=4) (vf:=vf3) rfl wishPolicies_laidOut (by kernel_rfl) (by kernel_rfl) (by kernel_rfl) Tryd.underlying4 rfl (fun ds hl=>by
  match ds,hl with
  | [_,_,_,_],_=>rfl) wishPolicies_true (aJN (wishPolicies_om hsh hX)) hval hW
theorem wishPolicies_row_holds:Rows.WishPoliciesSaid :=
 OpenClaim.holds_of_wide 3 Tryd.f3 rfl rfl rfl rfl rfl rfl rfl ⟨rfl,rfl,rfl,rfl,rfl⟩ rfl rfl rfl rfl rfl (by kernel_rfl) Tryd.func3 (by kernel_rfl)
  (of_decide_eq_true (by kernel_rfl)) (by unfold Func.isWrapper; first | (rw [if_pos (by decide +kernel)]; kernel_rfl) | (rw [if_neg (by decide +kernel)]; exact ⟨rfl,rfl⟩))
  (fun os started H enc _=>wishPolicies_lifted os started H enc)
theorem wishPolicies_holds:Rows.WishPoliciesCardSaid :=
 Claim7.holds_tied_plain_at .later [] [.mapped] true (true, "c09c30ffc5729387764dd64315ea05e7d5448b1191cd1dfdb9e8b4aad7ea829f") false
  wishPolicies_row_holds (fun _ h=>by cases h) (by kernel_rfl) (fun _ h=>by cases h) wishPolicies_row_tie rfl ⟨rfl,rfl⟩ (by kernel_rfl) rfl
  (fun f fn hf hfn=>by
   obtain rfl:f=3:=Option.some.inj ((show Tryd.prog.funcNamed "exchangepoint/exchangepointlaw26.WishPolicies" = some 3 by kernel_rfl).symm.trans hf) |>.symm
   obtain rfl:fn=Tryd.f3:=(Option.some.inj (Tryd.func3.symm.trans hfn)).symm
   exact ⟨by kernel_rfl,fun j t ht=>by
    have hm:t∈Tryd.f3.params.toList:=Array.mem_toList_iff.2 (Array.mem_of_getElem? ht)
    have hall:(Tryd.f3.params.toList.all fun u=>!Tryd.prog.wantsStandIn u)=true:=by kernel_rfl
    exact (show Tryd.prog.wantsStandIn t=false by simpa using List.all_eq_true.1 hall t hm)⟩)
  (by kernel_rfl)
#print axioms wishPolicies_holds
end Go.Proofs.YtgfmodmeimhhpaaDoor
