/- WishOffered: the law returns true for every input, and its arguments read behind the call as they read before: the row, and its tied card. Conditions: none beyond the given statement's. -/
import Derived.Test.YtgfmodmeimhhpaaGreatDoorNO
import Derived.Test.YtgfmodmeimhhpaaGreatDoorJG
import Derived.Test.YtgfmodmeimhhpaaGreatDoorCards
import Derived.Test.YtgfmodmeimhhpaaGreatDoorTie
import Derived.ProofKit
import Derived.OpenShut
import Derived.LaidMore
import Derived.Lay
import Derived.SevenTiedAt
import Derived.Stop.Joined
namespace Go.Proofs.YtgfmodmeimhhpaaGreatDoor
open Go.ChangeShapes Go.WideShapes Go.ChangeAt Go.RowKit
open Go.VM
theorem wishOffered_own:ownKnob Tryz.prog.godebug=none:=by kernel_rfl
theorem wishOffered_laidOut:laidOutB Tryz.prog=true:=by kernel_rfl
theorem wishOffered_typed(N:Nat):wZ ⟨[.d (.sl (.int .i64))],[(.bool,[])],none⟩ [] (call FT N 5) (nfN TN N 5):=by have h:=typed N 5;unfold aF7 at h;rw[sigOk 5]at h;exact h
theorem wishOffered_true(vs:List V)(h:aIX Tryz.prog Tryz.f5.params.toList vs):∃n,call FT n 5 vs []=some (.bool true,[]):=
 aJx (P:=Tryz.prog) (ps:=[.d (.sl (.int .i64))]) (c:=fun N=>call FT N 5) (g:=fun N=>nfN TN N 5) wishOffered_typed (by kernel_rfl)
  (fun _ h1=>⟨5000061,true,a7H 5000001 (by decide) h1.1.1,rfl⟩) vs h
theorem wishOffered_om{W:World}(hs:W.ShapedOpen Tryz.prog)(hL:laidMetH Tryz.prog Rows.wishOfferedRow.laid W):Ow W:=
 ⟨a5G hs (by kernel_rfl) hL (fun h=>by cases h) (fun h=>by cases h) (fun z hz=>by cases hz),a4t hL⟩
set_option maxRecDepth 100000 in
theorem wishOffered_lifted(os:Os)(started:os.Started)(H:Type)(enc:TypeId×Value->H) :
  ReturnsInHanded {} Tryz.checked os 5 .any (fun w args=>(Rows.wishOfferedSpec.pre enc Tryz.prog Tryz.f5 Rows.wishOfferedRow.domain false w args/\laidMetH Tryz.prog Rows.wishOfferedRow.laid w)/\sizedMet enc Tryz.prog Tryz.f5 (OpenSpec.ofChange Rows.wishOfferedSpec) false w args) (Rows.wishOfferedSpec.post enc Tryz.prog Tryz.f5 false true false false):=by
 refine aGw (C:=Tryz.checked) (X:=fun w _=>laidMetH Tryz.prog Rows.wishOfferedRow.laid w) (fun _ _ _ hh h=>h.of_heap hh) wishOffered_own started (by kernel_rfl) Tryz.func5
  (ChangeSpec.witness_shaped (enc:=enc) (C:=Tryz.checked) (os:=os) (X:=fun w _=>laidMetH Tryz.prog Rows.wishOfferedRow.laid w) false (World.doorLaid Tryz.prog 54 os) #[.slice none 0 0] 8 rfl
   (World.shaped_of_RefB (by kernel_rfl) (by kernel_rfl)) (by kernel_rfl) (by kernel_rfl) (by kernel_rfl)
   (laidMetH_of_parts3 (fuel:=8) (laidMet_of_run' 8 (by kernel_rfl) (by kernel_rfl)) (by kernel_rfl) (by kernel_rfl))) ?_
 intro W base args ds gs before hval hW hsh hX;exact aF5 (P:=Tryz.prog) tableOk (f:=5) (tb:=4) (vf:=vf5) rfl wishOffered_laidOut (by kernel_rfl) (by kernel_rfl) (by kernel_rfl) Tryz.underlying4 rfl (fun ds hl=>by
  match ds,hl with
  |[_],_=>rfl) wishOffered_true (a6C (wishOffered_om hsh hX)) hval hW
theorem wishOffered_row_holds:Rows.WishOfferedSaid:=
 OpenClaim.holds_of_wide 5 Tryz.f5 rfl rfl rfl rfl rfl rfl rfl ⟨rfl,rfl,rfl,rfl,rfl⟩ rfl rfl rfl rfl rfl (by kernel_rfl) Tryz.func5 (by kernel_rfl)
  (of_decide_eq_true (by kernel_rfl)) (by unfold Func.isWrapper;first|(rw[if_pos (by decide +kernel)];kernel_rfl)|(rw[if_neg (by decide +kernel)];exact⟨rfl,rfl⟩))
  (fun os started H enc _=>wishOffered_lifted os started H enc)
theorem wishOffered_holds:Rows.WishOfferedCardSaid:=
 Claim7.holds_tied_plain_at .later [] [.mapped] true (true, "f55a6ff11437248a96f026ded9781ac2b58881a40602555f78b241fb2862df11") false
  wishOffered_row_holds (fun _ h=>by cases h) (by kernel_rfl) (fun _ h=>by cases h) wishOffered_row_tie rfl ⟨rfl,rfl⟩ (by kernel_rfl) rfl
  (fun f fn hf hfn=>by
   obtain rfl:f=5:=Option.some.inj ((show Tryz.prog.funcNamed "exchangepoint/exchangepointlaw26.WishOffered" = some 5 by kernel_rfl).symm.trans hf) |>.symm;obtain rfl:fn=Tryz.f5:=(Option.some.inj (Tryz.func5.symm.trans hfn)).symm;exact⟨by kernel_rfl,fun j t ht=>by
    have hm:t∈Tryz.f5.params.toList:=Array.mem_toList_iff.2 (Array.mem_of_getElem? ht);have hall:(Tryz.f5.params.toList.all fun u=>!Tryz.prog.wantsStandIn u)=true:=by kernel_rfl
    exact(show Tryz.prog.wantsStandIn t=false by simpa using List.all_eq_true.1 hall t hm)⟩)
  (by kernel_rfl)
#print axioms wishOffered_holds
end Go.Proofs.YtgfmodmeimhhpaaGreatDoor
