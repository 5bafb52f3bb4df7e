/- WishVerdicts: the law returns true for every input, and its arguments read behind the call as they read before: the row, and its tied card. Conditions: none beyond the given statement's. -/
import Derived.Test.YtgfmodmeimhhpaaGreatDoorNO
import Derived.Test.YtgfmodmeimhhpaaGreatDoorT30
import Derived.Test.YtgfmodmeimhhpaaGreatDoorJF
import Derived.Test.YtgfmodmeimhhpaaGreatDoorRows
import Derived.Test.YtgfmodmeimhhpaaGreatDoorCards
import Derived.Test.YtgfmodmeimhhpaaGreatDoorTie
import Derived.ProofKit
import Derived.OpenShut
import Derived.LaidMore
import Derived.Lay
import Derived.SevenTiedAt
import Derived.Stop.Joined
namespace Go.Proofs.YtgfmodmeimhhpaaGreatDoor
open Go.ChangeShapes Go.WideShapes Go.ChangeAt Go.RowKit
open Go.VM
theorem wishVerdicts_own:ownKnob Tryz.prog.godebug=none:=by kernel_rfl
theorem wishVerdicts_laidOut:laidOutB Tryz.prog=true:=by kernel_rfl
theorem wishVerdicts_typed(N:Nat):wZ ⟨[.d (.sl (.int .i64)),.d (.int .i64)],[(.bool,[])],none⟩ [] (call FT N 3) (nfN TN N 3):=by
 have h:=typed N 3;unfold aF7 at h;rw[sigOk 3]at h;exact h
theorem wishVerdicts_true(vs:List V)(h:aIX Tryz.prog Tryz.f3.params.toList vs):∃n,call FT n 3 vs []=some (.bool true,[]):=
 aJx (P:=Tryz.prog) (ps:=[.d (.sl (.int .i64)),.d (.int .i64)]) (c:=fun N=>call FT N 3) (g:=fun N=>nfN TN N 3) wishVerdicts_typed (by kernel_rfl)
  (fun⟨_,_⟩ ⟨h1,_⟩=>⟨5000011,true,verdictsE 5000001 (by decide) h1.1 _,rfl⟩) vs h
theorem wishVerdicts_om{W:World}(hs:W.ShapedOpen Tryz.prog)(hL:laidMetH Tryz.prog Rows.wishVerdictsRow.laid W):Ow W:=
 om_of_laid hs (by kernel_rfl) hL (fun h=>by cases h) (fun h=>by cases h) (fun z hz=>by cases hz)
set_option maxRecDepth 100000 in
theorem wishVerdicts_lifted(os:Os)(started:os.Started)(H:Type)(enc:TypeId×Value->H) :
  ReturnsInHanded {} Tryz.checked os 3 .any (fun w args=>(Rows.wishVerdictsSpec.pre enc Tryz.prog Tryz.f3 Rows.wishVerdictsRow.domain false w args/\laidMetH Tryz.prog Rows.wishVerdictsRow.laid w)/\sizedMet enc Tryz.prog Tryz.f3 (OpenSpec.ofChange Rows.wishVerdictsSpec) false w args) (Rows.wishVerdictsSpec.post enc Tryz.prog Tryz.f3 false true false false):=by
 refine aGw (C:=Tryz.checked) (X:=fun w _=>laidMetH Tryz.prog Rows.wishVerdictsRow.laid w) (fun _ _ _ hh h=>h.of_heap hh) wishVerdicts_own started (by kernel_rfl) Tryz.func3
  (ChangeSpec.witness_shaped (enc:=enc) (C:=Tryz.checked) (os:=os) (X:=fun w _=>laidMetH Tryz.prog Rows.wishVerdictsRow.laid w) false (World.doorLaid Tryz.prog 54 os) #[.slice none 0 0,.int .i64 0] 8 rfl
   (World.shaped_of_RefB (by kernel_rfl) (by kernel_rfl)) (by kernel_rfl) (by kernel_rfl) (by kernel_rfl)
   (laidMetH_of_parts3 (fuel:=8) (laidMet_of_run' 8 (by kernel_rfl) (by kernel_rfl)) (by kernel_rfl) (by kernel_rfl))) ?_
 intro W base args ds gs before hval hW hsh hX;exact aF5 (P:=Tryz.prog) tableOk (f:=3) (tb:=4) (vf:=vf3) rfl wishVerdicts_laidOut (by kernel_rfl) (by kernel_rfl) (by kernel_rfl) Tryz.underlying4 rfl (fun ds hl=>by
  match ds,hl with
  |[_,_],_=>rfl) wishVerdicts_true (aJN (wishVerdicts_om hsh hX)) hval hW
theorem wishVerdicts_row_holds:Rows.WishVerdictsSaid:=
 OpenClaim.holds_of_wide 3 Tryz.f3 rfl rfl rfl rfl rfl rfl rfl ⟨rfl,rfl,rfl,rfl,rfl⟩ rfl rfl rfl rfl rfl (by kernel_rfl) Tryz.func3 (by kernel_rfl)
  (of_decide_eq_true (by kernel_rfl)) (by unfold Func.isWrapper;first|(rw[if_pos (by decide +kernel)];kernel_rfl)|(rw[if_neg (by decide +kernel)];exact⟨rfl,rfl⟩))
  (fun os started H enc _=>wishVerdicts_lifted os started H enc)
theorem wishVerdicts_holds:Rows.WishVerdictsCardSaid:=
 Claim7.holds_tied_plain_at .later [] [.mapped] true (true, "f55a6ff11437248a96f026ded9781ac2b58881a40602555f78b241fb2862df11") false
  wishVerdicts_row_holds (fun _ h=>by cases h) (by kernel_rfl) (fun _ h=>by cases h) wishVerdicts_row_tie rfl ⟨rfl,rfl⟩ (by kernel_rfl) rfl
  (fun f fn hf hfn=>by
   obtain rfl:f=3:=Option.some.inj ((show Tryz.prog.funcNamed "exchangepoint/exchangepointlaw26.WishVerdicts" = some 3 by kernel_rfl).symm.trans hf) |>.symm;obtain rfl:fn=Tryz.f3:=(Option.some.inj (Tryz.func3.symm.trans hfn)).symm;exact⟨by kernel_rfl,fun j t ht=>by
    have hm:t∈Tryz.f3.params.toList:=Array.mem_toList_iff.2 (Array.mem_of_getElem? ht);have hall:(Tryz.f3.params.toList.all fun u=>!Tryz.prog.wantsStandIn u)=true:=by kernel_rfl
    exact(show Tryz.prog.wantsStandIn t=false by simpa using List.all_eq_true.1 hall t hm)⟩)
  (by kernel_rfl)
#print axioms wishVerdicts_holds
end Go.Proofs.YtgfmodmeimhhpaaGreatDoor
