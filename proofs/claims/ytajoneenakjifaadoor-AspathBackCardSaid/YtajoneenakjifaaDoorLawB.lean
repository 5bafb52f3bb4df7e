/- AspathBack: the law returns true for every input, and its arguments read behind the call as they read before: the row, and its tied card. Conditions: none beyond the given statement's. -/
import Derived.Test.YtajoneenakjifaaDoorNO
import Derived.Test.YtajoneenakjifaaDoorT30
import Derived.Test.YtajoneenakjifaaDoorFC
import Derived.Test.YtajoneenakjifaaDoorT35
import Derived.Test.YtajoneenakjifaaDoorRows
import Derived.Test.YtajoneenakjifaaDoorCards
import Derived.Test.YtajoneenakjifaaDoorTie
import Derived.ProofKit
import Derived.OpenShut
import Derived.LaidMore
import Derived.Lay
import Derived.SevenTiedAt
import Derived.Stop.Joined
namespace Go.Proofs.YtajoneenakjifaaDoor
open Go.ChangeShapes Go.WideShapes Go.ChangeAt Go.RowKit
open Go.VM
theorem aspathBack_own:ownKnob Tryd.prog.godebug=none:=by kernel_rfl
theorem aspathBack_laidOut:laidOutB Tryd.prog=true:=by kernel_rfl
theorem aspathBack_typed (N:Nat):wZ ⟨[.d (.sl (.int .i64)),.d (.sl (.int .i64))],[(.bool,[])],none⟩ [] (call FT N 3) (nfN TN N 3):=by
 have h:=typed N 3
 unfold aF7 at h
 rw [sigOk 3] at h
 exact h
theorem aspathBack_true (vs:List V) (h:aIX Tryd.prog Tryd.f3.params.toList vs):∃ n,call FT n 3 vs []=some (.bool true,[]) :=
 aJx (P:=Tryd.prog) (ps:=[.d (.sl (.int .i64)),.d (.sl (.int .i64))]) (c:=fun N=>call FT N 3) (g:=fun N=>nfN TN N 3) aspathBack_typed (by kernel_rfl)
  (fun ⟨_,_⟩ ⟨h0,h1,_⟩=>⟨200000023,true,oL 200000002 (by decide) h0.1 h1.1,rfl⟩) vs h
theorem aspathBack_om {W:World} (hs:W.ShapedOpen Tryd.prog) (hL:laidMetH Tryd.prog Rows.aspathBackRow.laid W):Ow W :=
 omW_of_laid (om_of_laid hs (by kernel_rfl) hL (fun _=>⟨by kernel_rfl,by kernel_rfl⟩) (fun _=>⟨by kernel_rfl,by kernel_rfl,by kernel_rfl⟩) (fun z hz=>by cases hz)) (by kernel_rfl) hL (by kernel_rfl) (by kernel_rfl) Tryd.lays199 { n6:=by kernel_rfl,y6:=by kernel_rfl,c3:=by kernel_rfl,c49:=by kernel_rfl,c193:=by kernel_rfl,c194:=by kernel_rfl,c196:=by kernel_rfl,c198:=by kernel_rfl } (by kernel_rfl)
set_option maxRecDepth 100000 in
theorem aspathBack_lifted (os : Os) (started : os.Started) (H : Type) (enc : TypeId × Value → H) :
  ReturnsInHanded {} Tryd.checked os 3 .any (fun w args=>(Rows.aspathBackSpec.pre enc Tryd.prog Tryd.f3 Rows.aspathBackRow.domain false w args∧laidMetH Tryd.prog Rows.aspathBackRow.laid w)∧sizedMet enc Tryd.prog Tryd.f3 (OpenSpec.ofChange Rows.aspathBackSpec) false w args) (Rows.aspathBackSpec.post enc Tryd.prog Tryd.f3 false true false false):=by
 refine aGw (C:=Tryd.checked) (X:=fun w _=>laidMetH Tryd.prog Rows.aspathBackRow.laid w) (fun _ _ _ hh h=>h.of_heap hh) aspathBack_own started (by kernel_rfl) Tryd.func3
  (ChangeSpec.witness_shaped (enc:=enc) (C:=Tryd.checked) (os:=os) (X:=fun w _=>laidMetH Tryd.prog Rows.aspathBackRow.laid w) false (World.laidAll Tryd.prog os Rows.aspathBackRow.laid) #[.slice none 0 0,.slice none 0 0] 8 (World.laidAll_os _ _ _)
   (World.shaped_of_ZipB (by kernel_rfl) (by kernel_rfl)) (by kernel_rfl) (by kernel_rfl) (by kernel_rfl)
   (by rw [MakeChecks.laidMetH_plain _ _ _ (by kernel_rfl)]; exact laidMet_laidAll _ (by kernel_rfl) (by kernel_rfl))) ?_
 intro W base args ds gs before hval hW hsh hX
 exact aF5 (P:=Tryd.prog) tableOk (f:=3) (tb:=4) (vf:=vf3) rfl aspathBack_laidOut (by kernel_rfl) (by kernel_rfl) (by kernel_rfl) Tryd.underlying4 rfl (fun ds hl=>by
  match ds,hl with
  | [_,_],_=>rfl) aspathBack_true (omW_stays (aspathBack_om hsh hX)) hval hW
theorem aspathBack_row_holds:Rows.AspathBackSaid :=
 OpenClaim.holds_of_wide 3 Tryd.f3 rfl rfl rfl rfl rfl rfl rfl ⟨rfl,rfl,rfl,rfl,rfl⟩ rfl rfl rfl rfl rfl (by kernel_rfl) Tryd.func3 (by kernel_rfl)
  (of_decide_eq_true (by kernel_rfl)) (by unfold Func.isWrapper; first | (rw [if_pos (by decide +kernel)]; kernel_rfl) | (rw [if_neg (by decide +kernel)]; exact ⟨rfl,rfl⟩))
  (fun os started H enc _=>aspathBack_lifted os started H enc)
theorem aspathBack_holds:Rows.AspathBackCardSaid :=
 Claim7.holds_tied_plain_at .later [] [.data,.data,.data,.data,.sentinel,.sentinel,.listed,.data,.pinned] true (true, "a2d7ecfa8dbf082c705068bf50f063d45bf1e39e4ecd4ae3fefb9b6d868561dd") true
  aspathBack_row_holds (fun _ h=>by cases h) (by kernel_rfl) (fun _ h=>by cases h) aspathBack_row_tie rfl ⟨rfl,rfl⟩ (by kernel_rfl) rfl
  (fun f fn hf hfn=>by
   obtain rfl:f=3:=Option.some.inj ((show Tryd.prog.funcNamed "exchangepoint/exchangepointlaw15.AspathBack" = some 3 by kernel_rfl).symm.trans hf) |>.symm
   obtain rfl:fn=Tryd.f3:=(Option.some.inj (Tryd.func3.symm.trans hfn)).symm
   exact ⟨by kernel_rfl,fun j t ht=>by
    have hm:t∈Tryd.f3.params.toList:=Array.mem_toList_iff.2 (Array.mem_of_getElem? ht)
    have hall:(Tryd.f3.params.toList.all fun u=>!Tryd.prog.wantsStandIn u)=true:=by kernel_rfl
    exact (show Tryd.prog.wantsStandIn t=false by simpa using List.all_eq_true.1 hall t hm)⟩)
  (by kernel_rfl)
#print axioms aspathBack_holds
end Go.Proofs.YtajoneenakjifaaDoor
