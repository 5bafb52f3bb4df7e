/- WishOthers: the law returns true for every input, and its arguments read behind the call as they read before: the row, and its tied card. Conditions: none beyond the given statement's. -/
import Derived.Test.YtgfmodmeimhhpaaDoorNO
import Derived.Test.YtgfmodmeimhhpaaDoorT30
import Derived.Test.YtgfmodmeimhhpaaDoorJG
import Derived.Test.YtgfmodmeimhhpaaDoorRows
import Derived.Test.YtgfmodmeimhhpaaDoorCards
import Derived.Test.YtgfmodmeimhhpaaDoorTie
import Derived.ProofKit
import Derived.OpenShut
import Derived.LaidMore
import Derived.Lay
import Derived.SevenTiedAt
import Derived.Stop.Joined
namespace Go.Proofs.YtgfmodmeimhhpaaDoor
open Go.ChangeShapes Go.WideShapes Go.ChangeAt Go.RowKit
open Go.VM
theorem wishOthers_own:ownKnob Tryd.prog.godebug=none:=by kernel_rfl
theorem wishOthers_laidOut:laidOutB Tryd.prog=true:=by kernel_rfl
theorem wishOthers_typed(N:Nat):wZ ⟨[.d (.sl (.int .i64)),.d (.int .i64),.d (.int .i64)],[(.bool,[])],none⟩ [] (call FT N 4) (nfN TN N 4):=by have h:=typed N 4;unfold aF7 at h;rw[sigOk 4]at h;exact h
theorem wishOthers_true(vs:List V)(h:aIX Tryd.prog Tryd.f4.params.toList vs):∃n,call FT n 4 vs []=some (.bool true,[]):=
 aJx (P:=Tryd.prog) (ps:=[.d (.sl (.int .i64)),.d (.int .i64),.d (.int .i64)]) (c:=fun N=>call FT N 4) (g:=fun N=>nfN TN N 4) wishOthers_typed (by kernel_rfl)
  (fun⟨_,_,_⟩ ⟨h1,_⟩=>⟨5000013,true,othersE 5000001 (by decide) h1.1 _ _,rfl⟩) vs h
theorem wishOthers_om{W:World}(hs:W.ShapedOpen Tryd.prog)(hL:laidMetH Tryd.prog Rows.wishOthersRow.laid W):Ow W:=
 ⟨om_of_laid hs (by kernel_rfl) hL (fun h=>by cases h) (fun h=>by cases h) (fun z hz=>by cases hz),mapW_of_laid hL⟩
set_option maxRecDepth 100000 in
theorem wishOthers_lifted(os:Os)(started:os.Started)(H:Type)(enc:TypeId×Value->H) :
  ReturnsInHanded {} Tryd.checked os 4 .any (fun w args=>(Rows.wishOthersSpec.pre enc Tryd.prog Tryd.f4 Rows.wishOthersRow.domain false w args/\laidMetH Tryd.prog Rows.wishOthersRow.laid w)/\sizedMet enc Tryd.prog Tryd.f4 (OpenSpec.ofChange Rows.wishOthersSpec) false w args) (Rows.wishOthersSpec.post enc Tryd.prog Tryd.f4 false true false false):=by
 refine aGw (C:=Tryd.checked) (X:=fun w _=>laidMetH Tryd.prog Rows.wishOthersRow.laid w) (fun _ _ _ hh h=>h.of_heap hh) wishOthers_own started (by kernel_rfl) Tryd.func4
  (ChangeSpec.witness_shaped (enc:=enc) (C:=Tryd.checked) (os:=os) (X:=fun w _=>laidMetH Tryd.prog Rows.wishOthersRow.laid w) false (World.doorLaid Tryd.prog 54 os) #[.slice none 0 0,.int .i64 0,.int .i64 0] 8 rfl
   (World.shaped_of_RefB (by kernel_rfl) (by kernel_rfl)) (by kernel_rfl) (by kernel_rfl) (by kernel_rfl)
   (laidMetH_of_parts3 (fuel:=8) (laidMet_of_run' 8 (by kernel_rfl) (by kernel_rfl)) (by kernel_rfl) (by kernel_rfl))) ?_
 intro W base args ds gs before hval hW hsh hX;exact aF5 (P:=Tryd.prog) tableOk (f:=4) (tb:=4) (vf:=vf4) rfl wishOthers_laidOut (by kernel_rfl) (by kernel_rfl) (by kernel_rfl) Tryd.underlying4 rfl (fun ds hl=>by
  match ds,hl with
  |[_,_,_],_=>rfl) wishOthers_true (omM_stays (wishOthers_om hsh hX)) hval hW
theorem wishOthers_row_holds:Rows.WishOthersSaid:=
 OpenClaim.holds_of_wide 4 Tryd.f4 rfl rfl rfl rfl rfl rfl rfl ⟨rfl,rfl,rfl,rfl,rfl⟩ rfl rfl rfl rfl rfl (by kernel_rfl) Tryd.func4 (by kernel_rfl)
  (of_decide_eq_true (by kernel_rfl)) (by unfold Func.isWrapper;first|(rw[if_pos (by decide +kernel)];kernel_rfl)|(rw[if_neg (by decide +kernel)];exact⟨rfl,rfl⟩))
  (fun os started H enc _=>wishOthers_lifted os started H enc)
theorem wishOthers_holds:Rows.WishOthersCardSaid:=
 Claim7.holds_tied_plain_at .later [] [.mapped] true (true, "c09c30ffc5729387764dd64315ea05e7d5448b1191cd1dfdb9e8b4aad7ea829f") false
  wishOthers_row_holds (fun _ h=>by cases h) (by kernel_rfl) (fun _ h=>by cases h) wishOthers_row_tie rfl ⟨rfl,rfl⟩ (by kernel_rfl) rfl
  (fun f fn hf hfn=>by
   obtain rfl:f=4:=Option.some.inj ((show Tryd.prog.funcNamed "exchangepoint/exchangepointlaw26.WishOthers" = some 4 by kernel_rfl).symm.trans hf) |>.symm;obtain rfl:fn=Tryd.f4:=(Option.some.inj (Tryd.func4.symm.trans hfn)).symm;exact⟨by kernel_rfl,fun j t ht=>by
    have hm:t∈Tryd.f4.params.toList:=Array.mem_toList_iff.2 (Array.mem_of_getElem? ht);have hall:(Tryd.f4.params.toList.all fun u=>!Tryd.prog.wantsStandIn u)=true:=by kernel_rfl
    exact(show Tryd.prog.wantsStandIn t=false by simpa using List.all_eq_true.1 hall t hm)⟩)
  (by kernel_rfl)
#print axioms wishOthers_holds
end Go.Proofs.YtgfmodmeimhhpaaDoor
