/- Chapter 09, plainly: the document's Ports of a drawn database, and their owners. -/
import Derived.Test.YtbpocjclcbjggaaGreatDoorCF
namespace Go.Proofs.YtbpocjclcbjggaaGreatDoor
open Go.VM
set_option maxRecDepth 10000
theorem copy50{N:Nat}{p:PortT}(h:(maL p).length<=2):n50 (N+1) p=some p:=by
 rw[e50];exact bindB (aJm (l:=[]) (m:=maL p) (by simp only[List.length_nil];omega) (by simp only[List.length_nil];omega)) rfl
theorem PIn.ma{p:PortT}(h:PIn p):1<=(maL p).length/\(maL p).length<=2:=by
 obtain⟨k,_,_,r,kd,cp,ma,ad,_,_,_,_,_,rfl⟩:=h;exact macs_len
theorem ports26{N:Nat}(hN:2000<=N){d:DbT}(h:DbAt d):Ok (n26 (N+3) d) fun l=>(∀p∈l,PIn p)/\l.length<=14000/\l≠[]:=by
 have h7:=h.le;have hok:=h.ok;have hn:=h.nm;have h2:2<=(allM d).length:=by simp only[allM,List.length_append];omega
 have h49:=all49 (N:=N+1) h;obtain⟨x0,x1,hx0,hx1⟩:∃x0:Nat,x0<=999/\∃(h0:0<(allM d).length) (h1:0<(poL (allM d)[0]).length),((poL (allM d)[0])[0]).1=(x0:Int):=by
  have h0:0<(allM d).length:=by omega
  have hm:=hok _ (List.getElem_mem h0);have h1:0<(poL (allM d)[0]).length:=by have:=hm.len;omega
  obtain⟨k,a1,a2,r,kd,cp,ma,ad,b1,_,_,_,_,hp⟩:=hm.ps _ (List.getElem_mem h1);refine⟨3*k+r,by omega,h0,h1,?_⟩;rw[hp];show 3*(k:Int)+(r:Int)=((3*k+r:Nat):Int);omega
 obtain⟨hx1,hx2⟩:=hx1;rw[e26];refine ok_join (fun l=>(∀p∈l,PIn p)/\l.length<=14000/\l≠[]) (fun l hl=>ok_some hl) fun g hg=>?_
 refine ok_loop (fun i q=>∃l,q=(d,l,(i:Int))/\i<=1000/\(∀p∈l,PIn p)/\l.length<=14*i/\(x0<i->l≠[])) 1000 (fun i q ⟨l,e1,hi,hl,hll,hx⟩=>?_) ⟨[],rfl,Nat.zero_le _,fun p hp=>(by cases hp),Nat.zero_le _,fun h=>(by omega)⟩ (by omega);subst e1;refine ok_let (ok_if (fun hc=>?_) fun hc=>?_)
 · have hlt : i < 1000 := by
     have:(i:Int)<=999:=of_decide_eq_true hc;omega
   refine ok_join (fun q=>∃l,q=(d,l,(i:Int))/\(∀p∈l,PIn p)/\l.length<=14*(i+1)/\(x0<i+1->l≠[])) ?_ fun g2 hg2=>?_
   .rintro q ⟨l,e1,a1,a2,a3⟩;subst e1;exact ok_letE (w:=((i+1:Nat):Int)) (wv _ rfl (by omega) (by omega)) (ok_again hlt ⟨l,rfl,hlt,a1,a2,a3⟩)
   refine ok_bind h49 (ok_join (fun q=>∃l,q=(d,l,(i:Int))/\(∀p∈l,PIn p)/\l.length<=14*(i+1)/\(x0<i+1->l≠[])) (fun q hq=>?_) fun g3 hg3=>?_)
   .obtain⟨l,e1,a⟩:=hq;subst e1;exact hg2 _ ⟨l,rfl,a⟩
   generalize allM d=L at *;refine ok_loop (fun j q=>∃l,q=(d,l,(i:Int),L,(L.length:Int),(j:Int))/\j<=L.length/\(∀p∈l,PIn p)/\l.length<=14*i+2*j/\(x0<i\/(x0=i/\0<j)->l≠[])) L.length (fun j q ⟨l,e1,hj,hl,hll,hx⟩=>?_) ⟨l,rfl,Nat.zero_le _,hl,by omega,fun h=>hx (by omega)⟩ (by omega);subst e1;refine ok_let (ok_if (fun hc=>?_) fun hc=>?_)
   .have hjt:j<L.length:=by simpa using hc
    refine ok_join (fun q=>∃l,q=(d,l,(i:Int),L,(L.length:Int),(j:Int))/\(∀p∈l,PIn p)/\l.length<=14*i+2*(j+1)/\(x0<i\/(x0=i/\0<j+1)->l≠[])) ?_ fun g4 hg4=>?_
    .rintro q ⟨l,e1,a1,a2,a3⟩;subst e1;exact ok_letE (w:=((j+1:Nat):Int)) (wv _ rfl (by omega) (by omega)) (ok_again hjt ⟨l,rfl,hjt,a1,a2,a3⟩)
    refine ok_bind (aJo hjt) ?_;have hm:=hok _ (List.getElem_mem hjt);have hx0j:j=0->∃(h1:0<(poL L[j]).length),((poL L[j])[0]).1=(x0:Int):=fun e=>by subst e;exact⟨hx1,hx2⟩
    generalize L[j]=m at hm hx0j;have hml:=hm.len;have hmp:=hm.ps;refine ok_join (fun q=>∃l,q=(d,l,(i:Int),L,(L.length:Int),(j:Int))/\(∀p∈l,PIn p)/\l.length<=14*i+2*(j+1)/\(x0<i\/(x0=i/\0<j+1)->l≠[])) (fun q hq=>?_) fun g5 hg5=>?_
    .obtain⟨l,e1,a⟩:=hq;subst e1;exact hg4 _ ⟨l,rfl,a⟩
    show Ok (eG _ _ (d,l,(i:Int),L,(L.length:Int),(j:Int),poL m,((poL m).length:Int),0)) _;generalize poL m=P at *;refine ok_loop (fun n q=>∃l,q=(d,l,(i:Int),L,(L.length:Int),(j:Int),P,(P.length:Int),(n:Int))/\n<=P.length/\(∀p∈l,PIn p)/\l.length<=14*i+2*j+n/\(x0<i\/(x0=i/\(0<j\/0<n))->l≠[])) P.length (fun n q ⟨l,e1,hn,hl,hll,hx⟩=>?_) ⟨l,rfl,Nat.zero_le _,hl,by omega,fun h=>hx (by omega)⟩ (by omega);subst e1;refine ok_let (ok_if (fun hc=>?_) fun hc=>?_)
    .have hnt:n<P.length:=by simpa using hc
     refine ok_join (fun q=>∃l,q=(d,l,(i:Int),L,(L.length:Int),(j:Int),P,(P.length:Int),(n:Int))/\(∀p∈l,PIn p)/\l.length<=14*i+2*j+(n+1)/\(x0<i\/(x0=i/\(0<j\/0<n+1))->l≠[])) ?_ fun g6 hg6=>?_
     .rintro q ⟨l,e1,a1,a2,a3⟩;subst e1;exact ok_letE (w:=((n+1:Nat):Int)) (wv _ rfl (by omega) (by omega)) (ok_again hnt ⟨l,rfl,hnt,a1,a2,a3⟩)
     refine ok_bind (aJo hnt) (ok_join (fun q=>∃l,q=(d,l,(i:Int),L,(L.length:Int),(j:Int),P,(P.length:Int),(n:Int))/\(∀p∈l,PIn p)/\l.length<=14*i+2*j+(n+1)/\(x0<i\/(x0=i/\(0<j\/0<n+1))->l≠[])) (fun q hq=>?_) fun g7 hg7=>?_)
     .obtain⟨l,e1,a⟩:=hq;subst e1;exact hg6 _ ⟨l,rfl,a⟩
     have hp:=hmp _ (List.getElem_mem hnt);refine ok_if (fun hq=>ok_bind (copy50 hp.ma.2) (ok_let (ok_bind (aJm (by simp only[List.length_singleton];omega) (by simp only[List.length_singleton];omega)) (hg7 _ ⟨l++[P[n]],rfl,fun p hp2=>?_,by simp only[List.length_append,List.length_singleton];omega,fun _ h=>by simp at h⟩)))) fun hq=>hg7 _ ⟨l,rfl,hl,by omega,fun h=>?_⟩
     .rcases List.mem_append.1 hp2 with h|h
      .exact hl p h
      .rw[List.mem_singleton.1 h];exact hp
     .refine hx ?_;by_cases hj0:j=0
      .by_cases hn0:n=0
       .obtain⟨_,hy⟩:=hx0j hj0;subst hn0;have hq':((P[0]).1==(i:Int))=false:=hq;rw[hy]at hq';have:(x0:Int)≠(i:Int):=by simpa using hq'
        omega
       .omega
      .omega
    · have : n = P.length := by
        have h1:P.length<=n:=by simpa using hc
        omega
      exact ok_leave (hg5 _ ⟨l,rfl,hl,by omega,fun h=>hx (by omega)⟩)
   · have : j = L.length := by
       have h1:L.length<=j:=by simpa using hc
       omega
     exact ok_leave (hg3 _ ⟨l,rfl,hl,by omega,fun h=>hx (by omega)⟩)
 · have hge : i = 1000 := by
     have:¬(i:Int)<=999:=of_decide_eq_false hc;omega
   exact ok_leave (hg _ ⟨hl,(by show l.length<=14000;omega),hx (by omega)⟩)
end Go.Proofs.YtbpocjclcbjggaaGreatDoor
