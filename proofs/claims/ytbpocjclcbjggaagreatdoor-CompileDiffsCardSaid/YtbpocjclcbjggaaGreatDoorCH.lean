/- Chapter 09, plainly: owners, and the document's Rules of a drawn database. -/
import Derived.Test.YtbpocjclcbjggaaGreatDoorCG
namespace Go.Proofs.YtbpocjclcbjggaaGreatDoor
open Go.VM
set_option maxRecDepth 10000
theorem owner27{N:Nat}(hN:2000<=N){d:DbT}(h:DbAt d)(x:Int):Ok (n27 (N+3) (d,x)) fun _=>True:=by
 have h7:=h.le;have hok:=h.ok;have h49:=all49 (N:=N+1) h;rw[e27];refine ok_bind h49 ?_;generalize allM d=L at *;refine ok_join (fun _=>True) (fun _ _=>ok_some trivial) fun g hg=>?_
 refine ok_loop (fun i q=>q=(x,L,(L.length:Int),(i:Int))/\i<=L.length) L.length (fun i q ⟨e1,hi⟩=>?_) ⟨rfl,Nat.zero_le _⟩ (by omega);subst e1;refine ok_let (ok_if (fun hc=>?_) fun hc=>ok_leave (hg _ trivial));have hlt:i<L.length:=by simpa using hc
 have hm:=hok _ (List.getElem_mem hlt);refine ok_join (fun q=>q=(x,L,(L.length:Int),(i:Int))) (fun q hq=>by subst hq;exact ok_letE (w:=((i+1:Nat):Int)) (wv _ rfl (by omega) (by omega)) (ok_again hlt ⟨rfl,hlt⟩)) fun g2 hg2=>?_
 refine ok_bind (aJo hlt) ?_;generalize L[i]=m at hm;have hml:=hm.len;refine ok_join (fun q=>q=(x,L,(L.length:Int),(i:Int))) (fun q hq=>hg2 _ hq) fun g3 hg3=>?_
 show Ok (eG _ _ (x,m,L,(L.length:Int),(i:Int),poL m,((poL m).length:Int),0)) _;generalize poL m=P at *;refine ok_loop (fun j q=>q=(x,m,L,(L.length:Int),(i:Int),P,(P.length:Int),(j:Int))/\j<=P.length) P.length (fun j q ⟨e1,hj⟩=>?_) ⟨rfl,Nat.zero_le _⟩ (by omega);subst e1;refine ok_let (ok_if (fun hc=>?_) fun hc=>ok_leave (hg3 _ rfl));have hjt:j<P.length:=by simpa using hc
 refine ok_bind (aJo hjt) (ok_if (fun _=>ok_leave (ok_leave (ok_some trivial))) fun _=>ok_letE (w:=((j+1:Nat):Int)) (wv _ rfl (by omega) (by omega)) (ok_again hjt ⟨rfl,hjt⟩))
abbrev RuT:=Int×Int×Int×List MacT×List AddrT×List AddrT×Int×Int
structure RuOk(r:RuT):Prop where
 ma:r.2.2.2.1.length<=2
 l4:r.2.2.2.2.1.length<=1
 l6:r.2.2.2.2.2.1.length<=1
end Go.Proofs.YtbpocjclcbjggaaGreatDoor
