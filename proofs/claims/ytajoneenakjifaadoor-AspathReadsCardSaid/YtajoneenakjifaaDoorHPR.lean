/- Prepend as an entry of the table. -/
import Derived.Test.YtajoneenakjifaaDoorHPQ
namespace Go.Proofs.YtajoneenakjifaaDoor
open Go.RowKit Go.Lib Go.VM
theorem hv_slice {w:World} {Q:Nat→Prop} {t:Ty} {l:List t.den} {c:Value} (h:HV w Q (.sl t) l c):∃ a n cap,c=.slice a n cap:=by
 rcases hc_slice (hv_one h rfl) with ⟨_,h2⟩ | ⟨ad,cap',rows,h2,_⟩ <;> exact ⟨_,_,_,h2⟩
end Go.Proofs.YtajoneenakjifaaDoor
