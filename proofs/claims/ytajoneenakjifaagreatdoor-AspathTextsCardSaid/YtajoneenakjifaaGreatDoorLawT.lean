/- AspathTexts: the law returns true for every input, and its arguments read behind the call as they read before: the row, and its tied card. Conditions: none beyond the given statement's. -/
import Derived.Test.YtajoneenakjifaaGreatDoorNO
import Derived.Test.YtajoneenakjifaaGreatDoorT30
import Derived.Test.YtajoneenakjifaaGreatDoorFU
import Derived.Test.YtajoneenakjifaaGreatDoorT35
import Derived.Test.YtajoneenakjifaaGreatDoorRows
import Derived.Test.YtajoneenakjifaaGreatDoorCards
import Derived.Test.YtajoneenakjifaaGreatDoorTie
import Derived.ProofKit
import Derived.OpenShut
import Derived.LaidMore
import Derived.Lay
import Derived.SevenTiedAt
import Derived.Stop.Joined
namespace Go.Proofs.YtajoneenakjifaaGreatDoor
open Go.ChangeShapes Go.WideShapes Go.ChangeAt Go.RowKit
open Go.VM
theorem aspathTexts_own:ownKnob Tryz.prog.godebug=none:=by kernel_rfl
theorem aspathTexts_laidOut:laidOutB Tryz.prog=true:=by kernel_rfl
theorem aspathTexts_typed (N:Nat):wZ ⟨[.d .str,.d (.sl tyS),.d (.sl (.int .i64)),.d (.int .i64),.d (.int .i64)],[(.bool,[])],none⟩ [] (call FT N 3) (nfN TN N 3):=by
 have h:=typed N 3
 unfold aF7 at h
 rw [sigOk 3] at h
 exact h
theorem aspathTexts_true (vs:List V) (h:aIX Tryz.prog Tryz.f3.params.toList vs):∃ n,call FT n 3 vs []=some (.bool true,[]) :=
 aJx (P:=Tryz.prog) (ps:=[.d .str,.d (.sl tyS),.d (.sl (.int .i64)),.d (.int .i64),.d (.int .i64)]) (c:=fun N=>call FT N 3) (g:=fun N=>nfN TN N 3) aspathTexts_typed (by kernel_rfl)
  (fun ⟨_,a1,_,_,_⟩ ⟨_,h1,h2,_⟩=>⟨a1.length+300001+40,true,textsU _ _ _ _ _ h1.1 h2.1,rfl⟩) vs h
theorem aspathTexts_om {W:World} (hs:W.ShapedOpen Tryz.prog) (hL:laidMetH Tryz.prog Rows.aspathTextsRow.laid W):Ow W :=
 omW_of_laid (om_of_laid hs (by kernel_rfl) hL (fun _=>⟨by kernel_rfl,by kernel_rfl⟩) (fun _=>⟨by kernel_rfl,by kernel_rfl,by kernel_rfl⟩) (fun z hz=>by cases hz)) (by kernel_rfl) hL (by kernel_rfl) (by kernel_rfl) Tryz.lays199 { n6:=by kernel_rfl,y6:=by kernel_rfl,c3:=by kernel_rfl,c49:=by kernel_rfl,c193:=by kernel_rfl,c194:=by kernel_rfl,c196:=by kernel_rfl,c198:=by kernel_rfl } (by kernel_rfl)
set_option maxRecDepth 100000 in
theorem aspathTexts_lifted (os : Os) (started : os.Started) (H : Type) (enc : TypeId × Value → H) :
  ReturnsInHanded {} Tryz.checked os 3 .any (fun w args=>(Rows.aspathTextsSpec.pre enc Tryz.prog Tryz.f3 Rows.aspathTextsRow.domain false w args∧laidMetH Tryz.prog Rows.aspathTextsRow.laid w)∧sizedMet enc Tryz.prog Tryz.f3 (OpenSpec.ofChange Rows.aspathTextsSpec) false w args) (Rows.aspathTextsSpec.post enc Tryz.prog Tryz.f3 false true false false):=by
 refine aGw (C:=Tryz.checked) (X:=fun w _=>laidMetH Tryz.prog Rows.aspathTextsRow.laid w) (fun _ _ _ hh h=>h.of_heap hh) aspathTexts_own started (by kernel_rfl) Tryz.func3
  (ChangeSpec.witness_shaped (enc:=enc) (C:=Tryz.checked) (os:=os) (X:=fun w _=>laidMetH Tryz.prog Rows.aspathTextsRow.laid w) false (World.laidAll Tryz.prog os Rows.aspathTextsRow.laid) #[.string ⟨#[]⟩,.slice none 0 0,.slice none 0 0,.int .i64 0,.int .i64 0] 8 (World.laidAll_os _ _ _)
   (World.shaped_of_ZipB (by kernel_rfl) (by kernel_rfl)) (by kernel_rfl) (by kernel_rfl) (by kernel_rfl)
   (by rw [MakeChecks.laidMetH_plain _ _ _ (by kernel_rfl)]; exact laidMet_laidAll _ (by kernel_rfl) (by kernel_rfl))) ?_
 intro W base args ds gs before hval hW hsh hX
 exact aF5 (P:=Tryz.prog) tableOk (f:=3) (tb:=4) (vf:=vf3) rfl aspathTexts_laidOut (by kernel_rfl) (by kernel_rfl) (by kernel_rfl) Tryz.underlying4 rfl (fun ds hl=>by
  match ds,hl with
  | [_,_,_,_,_],_=>rfl) aspathTexts_true (omW_stays (aspathTexts_om hsh hX)) hval hW
theorem aspathTexts_row_holds:Rows.AspathTextsSaid :=
 OpenClaim.holds_of_wide 3 Tryz.f3 rfl rfl rfl rfl rfl rfl rfl ⟨rfl,rfl,rfl,rfl,rfl⟩ rfl rfl rfl rfl rfl (by kernel_rfl) Tryz.func3 (by kernel_rfl)
  (of_decide_eq_true (by kernel_rfl)) (by unfold Func.isWrapper; first | (rw [if_pos (by decide +kernel)]; kernel_rfl) | (rw [if_neg (by decide +kernel)]; exact ⟨rfl,rfl⟩))
  (fun os started H enc _=>aspathTexts_lifted os started H enc)
theorem aspathTexts_holds:Rows.AspathTextsCardSaid :=
 Claim7.holds_tied_plain_at .later [] [.data,.data,.data,.data,.sentinel,.sentinel,.listed,.data,.pinned] true (true, "540c4358b0a10ed4055485702af82a506a864e188b8f494b8395dca022cc3f7a") true
  aspathTexts_row_holds (fun _ h=>by cases h) (by kernel_rfl) (fun _ h=>by cases h) aspathTexts_row_tie rfl ⟨rfl,rfl⟩ (by kernel_rfl) rfl
  (fun f fn hf hfn=>by
   obtain rfl:f=3:=Option.some.inj ((show Tryz.prog.funcNamed "exchangepoint/exchangepointlaw15.AspathTexts" = some 3 by kernel_rfl).symm.trans hf) |>.symm
   obtain rfl:fn=Tryz.f3:=(Option.some.inj (Tryz.func3.symm.trans hfn)).symm
   exact ⟨by kernel_rfl,fun j t ht=>by
    have hm:t∈Tryz.f3.params.toList:=Array.mem_toList_iff.2 (Array.mem_of_getElem? ht)
    have hall:(Tryz.f3.params.toList.all fun u=>!Tryz.prog.wantsStandIn u)=true:=by kernel_rfl
    exact (show Tryz.prog.wantsStandIn t=false by simpa using List.all_eq_true.1 hall t hm)⟩)
  (by kernel_rfl)
#print axioms aspathTexts_holds
end Go.Proofs.YtajoneenakjifaaGreatDoor
