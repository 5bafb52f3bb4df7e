/- Chapter 09, plainly: the document's Ports of a drawn database, and their owners. -/
import Derived.Test.YtbpocjclcbjggaaGreatDoorCF
namespace Go.Proofs.YtbpocjclcbjggaaGreatDoor
open Go.VM
set_option maxRecDepth 10000
theorem copy50{N:Nat}{p:PortT}(h:(maL p).length<=2):n50 (N+1) p=some p:=by
 rw[e50];exact bindB (aJm (l:=[]) (m:=maL p) (by simp only[List.length_nil];omega) (by simp only[List.length_nil];omega)) rfl
theorem PIn.ma{p:PortT}(h:PIn p):1<=(maL p).length/\(maL p).length<=2:=by
 obtain⟨k,_,_,r,kd,cp,ma,ad,_,_,_,_,_,rfl⟩:=h;exact macs_len
end Go.Proofs.YtbpocjclcbjggaaGreatDoor
