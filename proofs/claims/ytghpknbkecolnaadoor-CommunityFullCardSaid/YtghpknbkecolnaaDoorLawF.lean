/- CommunityFull: the law returns true for every input, and its arguments read behind the call as they read before: the row, and its tied card. Conditions: none beyond the given statement's. -/
import Derived.Test.YtghpknbkecolnaaDoorNO
import Derived.Test.YtghpknbkecolnaaDoorT30
import Derived.Test.YtghpknbkecolnaaDoorDE
import Derived.Test.YtghpknbkecolnaaDoorT35
import Derived.Test.YtghpknbkecolnaaDoorRows
import Derived.Test.YtghpknbkecolnaaDoorCards
import Derived.Test.YtghpknbkecolnaaDoorTie
import Derived.ProofKit
import Derived.OpenShut
import Derived.LaidMore
import Derived.Lay
import Derived.SevenTiedAt
import Derived.Stop.Joined
namespace Go.Proofs.YtghpknbkecolnaaDoor
open Go.ChangeShapes Go.WideShapes Go.ChangeAt Go.RowKit
open Go.VM
theorem communityFull_own:ownKnob Tryd.prog.godebug=none:=by kernel_rfl
theorem communityFull_laidOut:laidOutB Tryd.prog=true:=by kernel_rfl
theorem communityFull_typed (N:Nat):wZ ⟨[.d (.sl (.int .i64)),.d (.int .i64)],[(.bool,[])],none⟩ [] (call FT N 3) (nfN TN N 3):=by
 have h:=typed N 3
 unfold aF7 at h
 rw [sigOk 3] at h
 exact h
theorem communityFull_true (vs:List V) (h:aIX Tryd.prog Tryd.f3.params.toList vs):∃ n,call FT n 3 vs []=some (.bool true,[]) :=
 aJx (P:=Tryd.prog) (ps:=[.d (.sl (.int .i64)),.d (.int .i64)]) (c:=fun N=>call FT N 3) (g:=fun N=>nfN TN N 3) communityFull_typed (by kernel_rfl)
  (fun ⟨_,_⟩ _=>⟨1202,true,full 1001 (by decide) _,rfl⟩) vs h
theorem communityFull_om {W:World} (hs:W.ShapedOpen Tryd.prog) (hL:laidMetH Tryd.prog Rows.communityFullRow.laid W):Ow W :=
 omW_of_laid (om_of_laid hs (by kernel_rfl) hL (fun _=>⟨by kernel_rfl,by kernel_rfl⟩) (fun _=>⟨by kernel_rfl,by kernel_rfl,by kernel_rfl⟩) (fun z hz=>by cases hz)) (by kernel_rfl) hL (by kernel_rfl) (by kernel_rfl) Tryd.lays199 { n6:=by kernel_rfl,y6:=by kernel_rfl,c3:=by kernel_rfl,c49:=by kernel_rfl,c193:=by kernel_rfl,c194:=by kernel_rfl,c196:=by kernel_rfl,c198:=by kernel_rfl } (by kernel_rfl)
set_option maxRecDepth 100000 in
theorem communityFull_lifted (os : Os) (started : os.Started) (H : Type) (enc : TypeId × Value → H) :
  ReturnsInHanded {} Tryd.checked os 3 .any (fun w args=>(Rows.communityFullSpec.pre enc Tryd.prog Tryd.f3 Rows.communityFullRow.domain false w args∧laidMetH Tryd.prog Rows.communityFullRow.laid w)∧sizedMet enc Tryd.prog Tryd.f3 (OpenSpec.ofChange Rows.communityFullSpec) false w args) (Rows.communityFullSpec.post enc Tryd.prog Tryd.f3 false true false false):=by
 refine aGw (C:=Tryd.checked) (X:=fun w _=>laidMetH Tryd.prog Rows.communityFullRow.laid w) (fun _ _ _ hh h=>h.of_heap hh) communityFull_own started (by kernel_rfl) Tryd.func3
  (ChangeSpec.witness_shaped (enc:=enc) (C:=Tryd.checked) (os:=os) (X:=fun w _=>laidMetH Tryd.prog Rows.communityFullRow.laid w) false (World.laidAll Tryd.prog os Rows.communityFullRow.laid) #[.slice none 0 0,.int .i64 0] 8 (World.laidAll_os _ _ _)
   (World.shaped_of_ZipB (by kernel_rfl) (by kernel_rfl)) (by kernel_rfl) (by kernel_rfl) (by kernel_rfl)
   (by rw [MakeChecks.laidMetH_plain _ _ _ (by kernel_rfl)]; exact laidMet_laidAll _ (by kernel_rfl) (by kernel_rfl))) ?_
 intro W base args ds gs before hval hW hsh hX
 exact aF5 (P:=Tryd.prog) tableOk (f:=3) (tb:=4) (vf:=vf3) rfl communityFull_laidOut (by kernel_rfl) (by kernel_rfl) (by kernel_rfl) Tryd.underlying4 rfl (fun ds hl=>by
  match ds,hl with
  | [_,_],_=>rfl) communityFull_true (omW_stays (communityFull_om hsh hX)) hval hW
theorem communityFull_row_holds:Rows.CommunityFullSaid :=
 OpenClaim.holds_of_wide 3 Tryd.f3 rfl rfl rfl rfl rfl rfl rfl ⟨rfl,rfl,rfl,rfl,rfl⟩ rfl rfl rfl rfl rfl (by kernel_rfl) Tryd.func3 (by kernel_rfl)
  (of_decide_eq_true (by kernel_rfl)) (by unfold Func.isWrapper; first | (rw [if_pos (by decide +kernel)]; kernel_rfl) | (rw [if_neg (by decide +kernel)]; exact ⟨rfl,rfl⟩))
  (fun os started H enc _=>communityFull_lifted os started H enc)
theorem communityFull_holds:Rows.CommunityFullCardSaid :=
 Claim7.holds_tied_plain_at .later [] [.data,.data,.data,.data,.sentinel,.sentinel,.listed,.data,.pinned] true (true, "24ccfbfae738b66a0271f08a8c926f82c1d8c772abb8488dfed6b391886a42f7") true
  communityFull_row_holds (fun _ h=>by cases h) (by kernel_rfl) (fun _ h=>by cases h) communityFull_row_tie rfl ⟨rfl,rfl⟩ (by kernel_rfl) rfl
  (fun f fn hf hfn=>by
   obtain rfl:f=3:=Option.some.inj ((show Tryd.prog.funcNamed "exchangepoint/exchangepointlaw17.CommunityFull" = some 3 by kernel_rfl).symm.trans hf) |>.symm
   obtain rfl:fn=Tryd.f3:=(Option.some.inj (Tryd.func3.symm.trans hfn)).symm
   exact ⟨by kernel_rfl,fun j t ht=>by
    have hm:t∈Tryd.f3.params.toList:=Array.mem_toList_iff.2 (Array.mem_of_getElem? ht)
    have hall:(Tryd.f3.params.toList.all fun u=>!Tryd.prog.wantsStandIn u)=true:=by kernel_rfl
    exact (show Tryd.prog.wantsStandIn t=false by simpa using List.all_eq_true.1 hall t hm)⟩)
  (by kernel_rfl)
#print axioms communityFull_holds
end Go.Proofs.YtghpknbkecolnaaDoor
