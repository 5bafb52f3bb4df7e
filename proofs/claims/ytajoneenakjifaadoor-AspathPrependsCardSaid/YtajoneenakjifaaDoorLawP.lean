/- AspathPrepends: the law returns true for every input, and its arguments read behind the call as they read before: the row, and its tied card. Conditions: none beyond the given statement's. -/
import Derived.Test.YtajoneenakjifaaDoorNO
import Derived.Test.YtajoneenakjifaaDoorT30
import Derived.Test.YtajoneenakjifaaDoorFC
import Derived.Test.YtajoneenakjifaaDoorT35
import Derived.Test.YtajoneenakjifaaDoorRows
import Derived.Test.YtajoneenakjifaaDoorCards
import Derived.Test.YtajoneenakjifaaDoorTie
import Derived.ProofKit
import Derived.OpenShut
import Derived.LaidMore
import Derived.Lay
import Derived.SevenTiedAt
import Derived.Stop.Joined
namespace Go.Proofs.YtajoneenakjifaaDoor
open Go.ChangeShapes Go.WideShapes Go.ChangeAt Go.RowKit
open Go.VM
theorem aspathPrepends_own:ownKnob Tryd.prog.godebug=none:=by kernel_rfl
theorem aspathPrepends_laidOut:laidOutB Tryd.prog=true:=by kernel_rfl
theorem aspathPrepends_typed (N:Nat):wZ ⟨[.d (.sl tyS),.d (.sl (.int .i64)),.d (.int .i64),.d (.int .i64),.d (.int .i64),.d (.int .i64)],[(.bool,[])],none⟩ [] (call FT N 6) (nfN TN N 6):=by
 have h:=typed N 6
 unfold aF7 at h
 rw [sigOk 6] at h
 exact h
theorem aspathPrepends_true (vs:List V) (h:aIX Tryd.prog Tryd.f6.params.toList vs):∃ n,call FT n 6 vs []=some (.bool true,[]) :=
 aJx (P:=Tryd.prog) (ps:=[.d (.sl tyS),.d (.sl (.int .i64)),.d (.int .i64),.d (.int .i64),.d (.int .i64),.d (.int .i64)]) (c:=fun N=>call FT N 6) (g:=fun N=>nfN TN N 6) aspathPrepends_typed (by kernel_rfl)
  (fun ⟨a0,_,_,_,_,_⟩ ⟨h0,h1,_⟩=>⟨a0.length+300000001+21,true,prependsT _ _ _ _ _ _ h0.1 h1.1,rfl⟩) vs h
theorem aspathPrepends_om {W:World} (hs:W.ShapedOpen Tryd.prog) (hL:laidMetH Tryd.prog Rows.aspathPrependsRow.laid W):Ow W :=
 omW_of_laid (om_of_laid hs (by kernel_rfl) hL (fun _=>⟨by kernel_rfl,by kernel_rfl⟩) (fun _=>⟨by kernel_rfl,by kernel_rfl,by kernel_rfl⟩) (fun z hz=>by cases hz)) (by kernel_rfl) hL (by kernel_rfl) (by kernel_rfl) Tryd.lays199 { n6:=by kernel_rfl,y6:=by kernel_rfl,c3:=by kernel_rfl,c49:=by kernel_rfl,c193:=by kernel_rfl,c194:=by kernel_rfl,c196:=by kernel_rfl,c198:=by kernel_rfl } (by kernel_rfl)
set_option maxRecDepth 100000 in
theorem aspathPrepends_lifted (os : Os) (started : os.Started) (H : Type) (enc : TypeId × Value → H) :
  ReturnsInHanded {} Tryd.checked os 6 .any (fun w args=>(Rows.aspathPrependsSpec.pre enc Tryd.prog Tryd.f6 Rows.aspathPrependsRow.domain false w args∧laidMetH Tryd.prog Rows.aspathPrependsRow.laid w)∧sizedMet enc Tryd.prog Tryd.f6 (OpenSpec.ofChange Rows.aspathPrependsSpec) false w args) (Rows.aspathPrependsSpec.post enc Tryd.prog Tryd.f6 false true false false):=by
 refine aGw (C:=Tryd.checked) (X:=fun w _=>laidMetH Tryd.prog Rows.aspathPrependsRow.laid w) (fun _ _ _ hh h=>h.of_heap hh) aspathPrepends_own started (by kernel_rfl) Tryd.func6
  (ChangeSpec.witness_shaped (enc:=enc) (C:=Tryd.checked) (os:=os) (X:=fun w _=>laidMetH Tryd.prog Rows.aspathPrependsRow.laid w) false (World.laidAll Tryd.prog os Rows.aspathPrependsRow.laid) #[.slice none 0 0,.slice none 0 0,.int .i64 0,.int .i64 0,.int .i64 0,.int .i64 0] 8 (World.laidAll_os _ _ _)
   (World.shaped_of_ZipB (by kernel_rfl) (by kernel_rfl)) (by kernel_rfl) (by kernel_rfl) (by kernel_rfl)
   (by rw [MakeChecks.laidMetH_plain _ _ _ (by kernel_rfl)]; exact laidMet_laidAll _ (by kernel_rfl) (by kernel_rfl))) ?_
 intro W base args ds gs before hval hW hsh hX
 exact aF5 (P:=Tryd.prog) tableOk (f:=6) (tb:=4) (vf:=vf6) rfl aspathPrepends_laidOut (by kernel_rfl) (by kernel_rfl) (by kernel_rfl) Tryd.underlying4 rfl (fun ds hl=>by
  match ds,hl with
  | [_,_,_,_,_,_],_=>rfl) aspathPrepends_true (omW_stays (aspathPrepends_om hsh hX)) hval hW
theorem aspathPrepends_row_holds:Rows.AspathPrependsSaid :=
 OpenClaim.holds_of_wide 6 Tryd.f6 rfl rfl rfl rfl rfl rfl rfl ⟨rfl,rfl,rfl,rfl,rfl⟩ rfl rfl rfl rfl rfl (by kernel_rfl) Tryd.func6 (by kernel_rfl)
  (of_decide_eq_true (by kernel_rfl)) (by unfold Func.isWrapper; first | (rw [if_pos (by decide +kernel)]; kernel_rfl) | (rw [if_neg (by decide +kernel)]; exact ⟨rfl,rfl⟩))
  (fun os started H enc _=>aspathPrepends_lifted os started H enc)
theorem aspathPrepends_holds:Rows.AspathPrependsCardSaid :=
 Claim7.holds_tied_plain_at .later [] [.data,.data,.data,.data,.sentinel,.sentinel,.listed,.data,.pinned] true (true, "a2d7ecfa8dbf082c705068bf50f063d45bf1e39e4ecd4ae3fefb9b6d868561dd") true
  aspathPrepends_row_holds (fun _ h=>by cases h) (by kernel_rfl) (fun _ h=>by cases h) aspathPrepends_row_tie rfl ⟨rfl,rfl⟩ (by kernel_rfl) rfl
  (fun f fn hf hfn=>by
   obtain rfl:f=6:=Option.some.inj ((show Tryd.prog.funcNamed "exchangepoint/exchangepointlaw15.AspathPrepends" = some 6 by kernel_rfl).symm.trans hf) |>.symm
   obtain rfl:fn=Tryd.f6:=(Option.some.inj (Tryd.func6.symm.trans hfn)).symm
   exact ⟨by kernel_rfl,fun j t ht=>by
    have hm:t∈Tryd.f6.params.toList:=Array.mem_toList_iff.2 (Array.mem_of_getElem? ht)
    have hall:(Tryd.f6.params.toList.all fun u=>!Tryd.prog.wantsStandIn u)=true:=by kernel_rfl
    exact (show Tryd.prog.wantsStandIn t=false by simpa using List.all_eq_true.1 hall t hm)⟩)
  (by kernel_rfl)
#print axioms aspathPrepends_holds
end Go.Proofs.YtajoneenakjifaaDoor
