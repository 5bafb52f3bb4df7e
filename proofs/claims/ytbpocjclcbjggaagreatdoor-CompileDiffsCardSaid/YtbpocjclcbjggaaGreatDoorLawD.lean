/- CompileDiffs: the law returns true for every input, and its arguments read behind the call as they read before: the row, and its tied card. Conditions: none beyond the given statement's. -/
import Derived.Test.YtbpocjclcbjggaaGreatDoorNO
import Derived.Test.YtbpocjclcbjggaaGreatDoorT30
import Derived.Test.YtbpocjclcbjggaaGreatDoorDC
import Derived.Test.YtbpocjclcbjggaaGreatDoorRows
import Derived.Test.YtbpocjclcbjggaaGreatDoorCards
import Derived.Test.YtbpocjclcbjggaaGreatDoorTie
import Derived.ProofKit
import Derived.OpenShut
import Derived.LaidMore
import Derived.Lay
import Derived.SevenTiedAt
import Derived.Stop.Joined
namespace Go.Proofs.YtbpocjclcbjggaaGreatDoor
open Go.ChangeShapes Go.WideShapes Go.ChangeAt Go.RowKit
open Go.VM
theorem compileDiffs_own:ownKnob Tryz.prog.godebug=none:=by kernel_rfl
theorem compileDiffs_laidOut:laidOutB Tryz.prog=true:=by kernel_rfl
theorem compileDiffs_typed(N:Nat):wZ ⟨[.d (.sl (.int .i64)),.d (.sl (.int .i64)),.d (.int .i64)],[(.bool,[])],none⟩ [] (call FT N 6) (nfN TN N 6):=by
 have h:=typed N 6;unfold aF7 at h;rw[sigOk 6]at h;exact h
theorem compileDiffs_true(vs:List V)(h:aIX Tryz.prog Tryz.f6.params.toList vs):∃n,call FT n 6 vs []=some (.bool true,[]):=
 aJx (P:=Tryz.prog) (ps:=[.d (.sl (.int .i64)),.d (.sl (.int .i64)),.d (.int .i64)]) (c:=fun N=>call FT N 6) (g:=fun N=>nfN TN N 6) compileDiffs_typed (by kernel_rfl)
  (fun⟨_,_,_⟩ ⟨h1,h2,_⟩=>⟨100014,true,diffsE 100002 (by decide) h1.1 h2.1 _,rfl⟩) vs h
theorem compileDiffs_om{W:World}(hs:W.ShapedOpen Tryz.prog)(hL:laidMetH Tryz.prog Rows.compileDiffsRow.laid W):Ow W:=
 om_of_laid hs (by kernel_rfl) hL (fun h=>by cases h) (fun h=>by cases h) (fun z hz=>by cases hz)
set_option maxRecDepth 100000 in
theorem compileDiffs_lifted(os:Os)(started:os.Started)(H:Type)(enc:TypeId×Value->H) :
  ReturnsInHanded {} Tryz.checked os 6 .any (fun w args=>(Rows.compileDiffsSpec.pre enc Tryz.prog Tryz.f6 Rows.compileDiffsRow.domain false w args/\laidMetH Tryz.prog Rows.compileDiffsRow.laid w)/\sizedMet enc Tryz.prog Tryz.f6 (OpenSpec.ofChange Rows.compileDiffsSpec) false w args) (Rows.compileDiffsSpec.post enc Tryz.prog Tryz.f6 false true false false):=by
 refine aGw (C:=Tryz.checked) (X:=fun w _=>laidMetH Tryz.prog Rows.compileDiffsRow.laid w) (fun _ _ _ hh h=>h.of_heap hh) compileDiffs_own started (by kernel_rfl) Tryz.func6
  (ChangeSpec.witness_shaped (enc:=enc) (C:=Tryz.checked) (os:=os) (X:=fun w _=>laidMetH Tryz.prog Rows.compileDiffsRow.laid w) false (World.laidAll Tryz.prog os Rows.compileDiffsRow.laid) #[.slice none 0 0,.slice none 0 0,.int .i64 0] 8 (World.laidAll_os _ _ _)
   (World.shaped_of_ZipB (by kernel_rfl) (by kernel_rfl)) (by kernel_rfl) (by kernel_rfl) (by kernel_rfl)
   (by rw[MakeChecks.laidMetH_plain _ _ _ (by kernel_rfl)];exact laidMet_laidAll _ (by kernel_rfl) (by kernel_rfl))) ?_
 intro W base args ds gs before hval hW hsh hX;exact aF5 (P:=Tryz.prog) tableOk (f:=6) (tb:=4) (vf:=vf6) rfl compileDiffs_laidOut (by kernel_rfl) (by kernel_rfl) (by kernel_rfl) Tryz.underlying4 rfl (fun ds hl=>by
  match ds,hl with
  |[_,_,_],_=>rfl) compileDiffs_true (aJN (compileDiffs_om hsh hX)) hval hW
theorem compileDiffs_row_holds:Rows.CompileDiffsSaid:=
 OpenClaim.holds_of_wide 6 Tryz.f6 rfl rfl rfl rfl rfl rfl rfl ⟨rfl,rfl,rfl,rfl,rfl⟩ rfl rfl rfl rfl rfl (by kernel_rfl) Tryz.func6 (by kernel_rfl)
  (of_decide_eq_true (by kernel_rfl)) (by unfold Func.isWrapper;first|(rw[if_pos (by decide +kernel)];kernel_rfl)|(rw[if_neg (by decide +kernel)];exact⟨rfl,rfl⟩))
  (fun os started H enc _=>compileDiffs_lifted os started H enc)
theorem compileDiffs_holds:Rows.CompileDiffsCardSaid:=
 Claim7.holds_tied_plain_at .later [] [.data,.pinned] true (true, "1cb1ee46644cf72de8463c16b9477c9b0632e15a903bca095dd2d2356243a270") false
  compileDiffs_row_holds (fun _ h=>by cases h) (by kernel_rfl) (fun _ h=>by cases h) compileDiffs_row_tie rfl ⟨rfl,rfl⟩ (by kernel_rfl) rfl
  (fun f fn hf hfn=>by
   obtain rfl:f=6:=Option.some.inj ((show Tryz.prog.funcNamed "exchangepoint/exchangepointlaw09.CompileDiffs" = some 6 by kernel_rfl).symm.trans hf) |>.symm;obtain rfl:fn=Tryz.f6:=(Option.some.inj (Tryz.func6.symm.trans hfn)).symm;exact⟨by kernel_rfl,fun j t ht=>by
    have hm:t∈Tryz.f6.params.toList:=Array.mem_toList_iff.2 (Array.mem_of_getElem? ht);have hall:(Tryz.f6.params.toList.all fun u=>!Tryz.prog.wantsStandIn u)=true:=by kernel_rfl
    exact(show Tryz.prog.wantsStandIn t=false by simpa using List.all_eq_true.1 hall t hm)⟩)
  (by kernel_rfl)
#print axioms compileDiffs_holds
end Go.Proofs.YtbpocjclcbjggaaGreatDoor
