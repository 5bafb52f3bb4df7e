/- strings.Fields as it is read; from what a row lists to the tables of white space. -/
import Derived.Test.YtajoneenakjifaaGreatDoorTC
import Derived.Test.YtajoneenakjifaaGreatDoorT30
import Derived.Test.YtajoneenakjifaaGreatDoorMC
import Derived.Lib.LaidU8
namespace Go.VM
theorem laid_plain {P:Program} {W:World} {l:List (String×DataW Unit)} (hh:(l.all fun x=>x.2.handleName?.isNone)=true) (hL:laidMetH P l W):laidMet P l W:=by
 have h:=(laidMetH_iff.1 hL).1
 rw [List.filter_eq_self.2 fun x hx=>List.all_eq_true.1 hh x hx] at h
 exact h
theorem omW_of_laid {P : Program} {W : World} {l : List (String × DataW Unit)} {pw er : Bool} {tz : Option (List Int)} {ρ : Go.Shelf.Ren} (hO : Om P pw er tz W) (hh : (l.all fun x => x.2.handleName?.isNone) = true) (hL : laidMetH P l W)
  (ht:tabTyB P "strings.asciiSpace" .u8=true) (he:l.filter (fun x=>x.1 == "strings.asciiSpace")=[("strings.asciiSpace",Lib.tabData .u8 Lib.asciiSpaceTab)])
  (L:Go.Proofs.Lays.n199 P ρ) (X:Go.Proofs.WhiteExtra P ρ) (hw:l.filter (fun x=>x.1 == "unicode.White_Space")=[("unicode.White_Space",Lib.whiteData)]):OmW P pw er tz (some (ρ.g 6)) W:=by
 have hL':=laid_plain hh hL
 refine ⟨hO,fun g hg=>?_⟩
 cases hg
 have hm:("unicode.White_Space",Lib.whiteData)∈l:=by
  have:("unicode.White_Space",Lib.whiteData)∈l.filter (fun x=>x.1 == "unicode.White_Space"):=by rw [hw]; exact List.mem_cons_self
  exact (List.mem_filter.1 this).1
 exact ⟨tab_of_laid hL' ht he,Go.Proofs.whiteTab_of_reads L X (Lib.laidMet.reads hL' hm)⟩
end Go.VM
