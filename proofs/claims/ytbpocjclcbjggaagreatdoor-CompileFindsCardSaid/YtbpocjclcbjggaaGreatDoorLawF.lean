/- CompileFinds: the law returns true for every input, and its arguments read behind the call as they read before: the row, and its tied card. Conditions: none beyond the given statement's. -/
import Derived.Test.YtbpocjclcbjggaaGreatDoorNO
import Derived.Test.YtbpocjclcbjggaaGreatDoorT30
import Derived.Test.YtbpocjclcbjggaaGreatDoorCK
import Derived.Test.YtbpocjclcbjggaaGreatDoorRows
import Derived.Test.YtbpocjclcbjggaaGreatDoorCards
import Derived.Test.YtbpocjclcbjggaaGreatDoorTie
import Derived.ProofKit
import Derived.OpenShut
import Derived.LaidMore
import Derived.Lay
import Derived.SevenTiedAt
import Derived.Stop.Joined
namespace Go.Proofs.YtbpocjclcbjggaaGreatDoor
open Go.ChangeShapes Go.WideShapes Go.ChangeAt Go.RowKit
open Go.VM
theorem compileFinds_own:ownKnob Tryz.prog.godebug=none:=by kernel_rfl
theorem compileFinds_laidOut:laidOutB Tryz.prog=true:=by kernel_rfl
theorem compileFinds_typed(N:Nat):wZ ⟨[.d (.sl (.int .i64)),.d (.int .i64),.d (.st t4),.d t6,.d (.int .i64)],[(.bool,[])],none⟩ [] (call FT N 4) (nfN TN N 4):=by
 have h:=typed N 4;unfold aF7 at h;rw[sigOk 4]at h;exact h
theorem compileFinds_true(vs:List V)(h:aIX Tryz.prog Tryz.f4.params.toList vs):∃n,call FT n 4 vs []=some (.bool true,[]):=
 aJx (P:=Tryz.prog) (ps:=[.d (.sl (.int .i64)),.d (.int .i64),.d (.st t4),.d t6,.d (.int .i64)]) (c:=fun N=>call FT N 4) (g:=fun N=>nfN TN N 4) compileFinds_typed (by kernel_rfl)
  (fun⟨_,_,_,_,_⟩ ⟨h1,_⟩=>⟨100012,true,findsE 100002 (by decide) h1.1 _ _ _ _,rfl⟩) vs h
theorem compileFinds_om{W:World}(hs:W.ShapedOpen Tryz.prog)(hL:laidMetH Tryz.prog Rows.compileFindsRow.laid W):Ow W:=
 om_of_laid hs (by kernel_rfl) hL (fun h=>by cases h) (fun h=>by cases h) (fun z hz=>by cases hz)
set_option maxRecDepth 100000 in
theorem compileFinds_lifted(os:Os)(started:os.Started)(H:Type)(enc:TypeId×Value->H) :
  ReturnsInHanded {} Tryz.checked os 4 .any (fun w args=>(Rows.compileFindsSpec.pre enc Tryz.prog Tryz.f4 Rows.compileFindsRow.domain false w args/\laidMetH Tryz.prog Rows.compileFindsRow.laid w)/\sizedMet enc Tryz.prog Tryz.f4 (OpenSpec.ofChange Rows.compileFindsSpec) false w args) (Rows.compileFindsSpec.post enc Tryz.prog Tryz.f4 false true false false):=by
 refine aGw (C:=Tryz.checked) (X:=fun w _=>laidMetH Tryz.prog Rows.compileFindsRow.laid w) (fun _ _ _ hh h=>h.of_heap hh) compileFinds_own started (by kernel_rfl) Tryz.func4
  (ChangeSpec.witness_shaped (enc:=enc) (C:=Tryz.checked) (os:=os) (X:=fun w _=>laidMetH Tryz.prog Rows.compileFindsRow.laid w) false (World.laidAll Tryz.prog os Rows.compileFindsRow.laid) #[.slice none 0 0,.int .i64 0,.agg #[.int .u8 0,.int .u8 0,.int .u8 0,.int .u8 0,.int .u8 0,.int .u8 0],.agg #[.bool false,.int .u64 0,.int .u64 0],.int .i64 0] 8 (World.laidAll_os _ _ _)
   (World.shaped_of_ZipB (by kernel_rfl) (by kernel_rfl)) (by kernel_rfl) (by kernel_rfl) (by kernel_rfl)
   (by rw[MakeChecks.laidMetH_plain _ _ _ (by kernel_rfl)];exact laidMet_laidAll _ (by kernel_rfl) (by kernel_rfl))) ?_
 intro W base args ds gs before hval hW hsh hX;exact aF5 (P:=Tryz.prog) tableOk (f:=4) (tb:=4) (vf:=vf4) rfl compileFinds_laidOut (by kernel_rfl) (by kernel_rfl) (by kernel_rfl) Tryz.underlying4 rfl (fun ds hl=>by
  match ds,hl with
  |[_,_,_,_,_],_=>rfl) compileFinds_true (aJN (compileFinds_om hsh hX)) hval hW
theorem compileFinds_row_holds:Rows.CompileFindsSaid:=
 OpenClaim.holds_of_wide 4 Tryz.f4 rfl rfl rfl rfl rfl rfl rfl ⟨rfl,rfl,rfl,rfl,rfl⟩ rfl rfl rfl rfl rfl (by kernel_rfl) Tryz.func4 (by kernel_rfl)
  (of_decide_eq_true (by kernel_rfl)) (by unfold Func.isWrapper;first|(rw[if_pos (by decide +kernel)];kernel_rfl)|(rw[if_neg (by decide +kernel)];exact⟨rfl,rfl⟩))
  (fun os started H enc _=>compileFinds_lifted os started H enc)
theorem compileFinds_holds:Rows.CompileFindsCardSaid:=
 Claim7.holds_tied_plain_at .later [] [.data,.pinned] true (true, "1cb1ee46644cf72de8463c16b9477c9b0632e15a903bca095dd2d2356243a270") false
  compileFinds_row_holds (fun _ h=>by cases h) (by kernel_rfl) (fun _ h=>by cases h) compileFinds_row_tie rfl ⟨rfl,rfl⟩ (by kernel_rfl) rfl
  (fun f fn hf hfn=>by
   obtain rfl:f=4:=Option.some.inj ((show Tryz.prog.funcNamed "exchangepoint/exchangepointlaw09.CompileFinds" = some 4 by kernel_rfl).symm.trans hf) |>.symm;obtain rfl:fn=Tryz.f4:=(Option.some.inj (Tryz.func4.symm.trans hfn)).symm;exact⟨by kernel_rfl,fun j t ht=>by
    have hm:t∈Tryz.f4.params.toList:=Array.mem_toList_iff.2 (Array.mem_of_getElem? ht);have hall:(Tryz.f4.params.toList.all fun u=>!Tryz.prog.wantsStandIn u)=true:=by kernel_rfl
    exact(show Tryz.prog.wantsStandIn t=false by simpa using List.all_eq_true.1 hall t hm)⟩)
  (by kernel_rfl)
#print axioms compileFinds_holds
end Go.Proofs.YtbpocjclcbjggaaGreatDoor
