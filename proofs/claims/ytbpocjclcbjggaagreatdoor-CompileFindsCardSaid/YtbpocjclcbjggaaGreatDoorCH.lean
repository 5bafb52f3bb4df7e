/- Chapter 09, plainly: owners, and the document's Rules of a drawn database. -/
import Derived.Test.YtbpocjclcbjggaaGreatDoorCG
namespace Go.Proofs.YtbpocjclcbjggaaGreatDoor
open Go.VM
set_option maxRecDepth 10000
theorem owner27{N:Nat}(hN:2000<=N){d:DbT}(h:DbAt d)(x:Int):Ok (n27 (N+3) (d,x)) fun _=>True:=by
 have h7:=h.le;have hok:=h.ok;have h49:=all49 (N:=N+1) h;rw[e27];refine ok_bind h49 ?_;generalize allM d=L at *;refine ok_join (fun _=>True) (fun _ _=>ok_some trivial) fun g hg=>?_
 refine ok_loop (fun i q=>q=(x,L,(L.length:Int),(i:Int))/\i<=L.length) L.length (fun i q ⟨e1,hi⟩=>?_) ⟨rfl,Nat.zero_le _⟩ (by omega);subst e1;refine ok_let (ok_if (fun hc=>?_) fun hc=>ok_leave (hg _ trivial));have hlt:i<L.length:=by simpa using hc
 have hm:=hok _ (List.getElem_mem hlt);refine ok_join (fun q=>q=(x,L,(L.length:Int),(i:Int))) (fun q hq=>by subst hq;exact ok_letE (w:=((i+1:Nat):Int)) (wv _ rfl (by omega) (by omega)) (ok_again hlt ⟨rfl,hlt⟩)) fun g2 hg2=>?_
 refine ok_bind (aJo hlt) ?_;generalize L[i]=m at hm;have hml:=hm.len;refine ok_join (fun q=>q=(x,L,(L.length:Int),(i:Int))) (fun q hq=>hg2 _ hq) fun g3 hg3=>?_
 show Ok (eG _ _ (x,m,L,(L.length:Int),(i:Int),poL m,((poL m).length:Int),0)) _;generalize poL m=P at *;refine ok_loop (fun j q=>q=(x,m,L,(L.length:Int),(i:Int),P,(P.length:Int),(j:Int))/\j<=P.length) P.length (fun j q ⟨e1,hj⟩=>?_) ⟨rfl,Nat.zero_le _⟩ (by omega);subst e1;refine ok_let (ok_if (fun hc=>?_) fun hc=>ok_leave (hg3 _ rfl));have hjt:j<P.length:=by simpa using hc
 refine ok_bind (aJo hjt) (ok_if (fun _=>ok_leave (ok_leave (ok_some trivial))) fun _=>ok_letE (w:=((j+1:Nat):Int)) (wv _ rfl (by omega) (by omega)) (ok_again hjt ⟨rfl,hjt⟩))
abbrev RuT:=Int×Int×Int×List MacT×List AddrT×List AddrT×Int×Int
structure RuOk(r:RuT):Prop where
 ma:r.2.2.2.1.length<=2
 l4:r.2.2.2.2.1.length<=1
 l6:r.2.2.2.2.2.1.length<=1
theorem rules15{N:Nat}(hN:20000<=N){d:DbT}(h:DbAt d):Ok (n15 (N+5) (d,1,2)) fun r=>r.2=0/\r.1.length<=14000/\∀u∈r.1,RuOk u:=by
 rw[e15];refine ok_bind (check44 (N:=N) (by omega) h) (ok_if (fun h=>by cases h) fun _=>ok_letE (w:=false) rfl (ok_letE (w:=false) rfl (ok_letE (w:=false) rfl (ok_letE (w:=false) rfl (ok_if (fun h=>by cases h) fun _=>ok_bind' (ports26 (N:=N+1) (by omega) h) fun Q ⟨hQ,hQl,_⟩=>?_)))));refine ok_join (fun l=>l.length<=14000/\∀u∈l,RuOk u) (fun l hl=>ok_some ⟨rfl,hl⟩) fun g hg=>?_
 refine ok_loop (fun i q=>∃l,q=(1,2,d,l,Q,(Q.length:Int),(i:Int))/\i<=Q.length/\l.length=i/\∀u∈l,RuOk u) Q.length (fun i q ⟨l,e1,hi,hl,hu⟩=>?_) ⟨[],rfl,Nat.zero_le _,rfl,fun u hu=>(by cases hu)⟩ (by omega);subst e1;refine ok_let (ok_if (fun hc=>?_) fun hc=>ok_leave (hg _ ⟨(by show l.length<=14000;omega),hu⟩));have hlt:i<Q.length:=by simpa using hc
 have hp:=(hQ _ (List.getElem_mem hlt)).ma.2;refine ok_bind (aJo hlt) ?_;generalize Q[i]=p at hp;refine ok_bind' (owner27 (N:=N+1) (by omega) h _) fun v11 _=>ok_let (ok_let (ok_let ?_))
 refine ok_join (fun q=>∃u,q=(1,2,d,l,p,u,Q,(Q.length:Int),(i:Int))/\u.2.2.2.1.length<=2/\u.2.2.2.2.1.length<=1/\u.2.2.2.2.2.1=[]) ?_ fun g2 hg2=>?_
 .rintro q ⟨u,e1,a1,a2,a3⟩;subst e1;refine ok_let (ok_join (fun q=>∃u,q=(1,2,d,l,u,Q,(Q.length:Int),(i:Int))/\RuOk u) ?_ fun g3 hg3=>?_)
  .rintro q ⟨u,e1,a⟩;subst e1;refine ok_let (ok_bind (aJm (by simp only[List.length_singleton];omega) (by simp only[List.length_singleton];omega)) (ok_letE (w:=((i+1:Nat):Int)) (wv _ rfl (by omega) (by omega)) (ok_again hlt ⟨l++[u],rfl,hlt,by rw[List.length_append,hl];rfl,fun v hv=>?_⟩)));rcases List.mem_append.1 hv with h|h
   .exact hu v h
   .rw[List.mem_singleton.1 h];exact a
  .refine ok_if (fun _=>ok_let (hg3 _ ⟨_,rfl,a1,a2,by simp⟩)) fun _=>hg3 _ ⟨u,rfl,a1,a2,by rw[a3];simp⟩
 .exact ok_if (fun _=>ok_let (hg2 _ ⟨_,rfl,hp,by simp,rfl⟩)) fun _=>hg2 _ ⟨_,rfl,hp,by simp,rfl⟩
end Go.Proofs.YtbpocjclcbjggaaGreatDoor
