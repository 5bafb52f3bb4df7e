/- Chapter 09, plainly: the look-ups; program and document answer alike. -/
import Derived.Test.YtbpocjclcbjggaaGreatDoorCI
namespace Go.Proofs.YtbpocjclcbjggaaGreatDoor
open Go.VM
set_option maxRecDepth 10000
theorem find_step{α:Type}{l:List α}{p:α->Bool}{i:Nat}(hi:i<l.length)(h:(l.take i).find? p=none)(h2:p l[i]=false):(l.take (i+1)).find? p=none:=by
 rw[List.take_succ_eq_append_getElem hi,List.find?_append,h];simp[h2]
theorem find_hit{α:Type}{l:List α}{p:α->Bool}{i:Nat}(hi:i<l.length)(h:(l.take i).find? p=none)(h2:p l[i]=true):l.find? p=some l[i]:=by
 have e:l=l.take i++l[i]::l.drop (i+1):=by rw[<-List.drop_eq_getElem_cons hi,List.take_append_drop]
 have e2:(l.take i++l[i]::l.drop (i+1)).find? p=some l[i]:=by rw[List.find?_append,h,List.find?_cons_of_pos h2];rfl
 rwa [<-e]at e2
theorem find_end{α:Type}{l:List α}{p:α->Bool}{i:Nat}(hi:l.length<=i)(h:(l.take i).find? p=none):l.find? p=none:=by rwa [List.take_of_length_le hi]at h
def resD{α β:Type}(f:α->β)(z:β):Option α->β×Bool
 |some u=>(f u,true)
 |none=>(z,false)
def z8:RuT:=(0,0,0,[],[],[],0,0)
theorem cp45(N:Nat){u:RuT}(h:RuOk u):n45 (N+2) u=some u:=by
 have h1:=h.ma;have h2:=h.l4;have h3:=h.l6;rw[e45];exact bindB ((e76 _ _).trans (if_pos (by omega))) (bindB ((e77 _ _).trans (if_pos (by omega))) (bindB ((e77 _ _).trans (if_pos (by omega))) rfl))
theorem cp46(N:Nat){u:RuT}(h:RuOk u):n46 (N+1) u=some u:=by
 have h1:=h.ma;have h2:=h.l4;have h3:=h.l6;rw[e46];exact bindB (aJm (l:=[]) (by simp only[List.length_nil];omega) (by simp only[List.length_nil];omega)) (bindB (aJm (l:=[]) (by simp only[List.length_nil];omega) (by simp only[List.length_nil];omega)) (bindB (aJm (l:=[]) (by simp only[List.length_nil];omega) (by simp only[List.length_nil];omega)) rfl))
def ruleD(l:List RuT)(x:Int):RuT×Bool:=resD id z8 (l.find? fun u=>u.1==x)
theorem rule18{N:Nat}{l:List RuT}(hN:20000<=N)(hl:l.length<=14000)(hu:∀u∈l,RuOk u)(x:Int):n18 (N+3) (l,x)=some (ruleD l x):=by
 refine ok_get ?_;rw[e18];refine ok_join (fun _=>(l.find? fun u=>u.1==x)=none) (fun q h=>ok_let (ok_let (ok_let (ok_some (by unfold ruleD;rw[h];rfl))))) fun g hg=>?_
 refine ok_loop (fun i q=>q=(x,z8,l,(l.length:Int),(i:Int))/\i<=l.length/\((l.take i).find? fun u=>u.1==x)=none) l.length (fun i q ⟨e1,hi,h⟩=>?_) ⟨rfl,Nat.zero_le _,rfl⟩ (by omega);subst e1;refine ok_let (ok_if (fun hc=>?_) fun hc=>ok_leave (hg _ (find_end (by simpa using hc) h)));have hlt:i<l.length:=by simpa using hc
 refine ok_bind (aJo hlt) (ok_if (fun h1=>ok_bind (cp45 N (hu _ (List.getElem_mem hlt))) (ok_leave (ok_some ?_))) fun h1=>ok_letE (w:=((i+1:Nat):Int)) (wv _ rfl (by omega) (by omega)) (ok_again hlt ⟨rfl,hlt,find_step hlt h h1⟩));unfold ruleD;rw[find_hit hlt h h1];rfl
theorem rule19{N:Nat}{l:List RuT}(hN:20000<=N)(hl:l.length<=14000)(hu:∀u∈l,RuOk u)(x:Int):n19 (N+3) (l,x)=some (ruleD l x):=by
 refine ok_get ?_;rw[e19];refine ok_join (fun _=>(l.find? fun u=>u.1==x)=none) (fun q h=>ok_let (ok_let (ok_let (ok_some (by unfold ruleD;rw[h];rfl))))) fun g hg=>?_
 refine ok_loop (fun i q=>q=(x,z8,l,(l.length:Int),(i:Int))/\i<=l.length/\((l.take i).find? fun u=>u.1==x)=none) l.length (fun i q ⟨e1,hi,h⟩=>?_) ⟨rfl,Nat.zero_le _,rfl⟩ (by omega);subst e1;refine ok_let (ok_if (fun hc=>?_) fun hc=>ok_leave (hg _ (find_end (by simpa using hc) h)));have hlt:i<l.length:=by simpa using hc
 refine ok_bind (aJo hlt) (ok_if (fun h1=>ok_bind (cp46 (N+1) (hu _ (List.getElem_mem hlt))) (ok_leave (ok_some ?_))) fun h1=>ok_letE (w:=((i+1:Nat):Int)) (wv _ rfl (by omega) (by omega)) (ok_again hlt ⟨rfl,hlt,find_step hlt h h1⟩));unfold ruleD;rw[find_hit hlt h h1];rfl
theorem ruleD_ok{l:List RuT}(hu:∀u∈l,RuOk u)(x:Int):RuOk (ruleD l x).1:=by
 unfold ruleD;cases h:l.find? fun u=>u.1==x with
 |none=>exact⟨by decide,by decide,by decide⟩
 |some u=>exact hu u (List.mem_of_find?_eq_some h)
def boundD(l:List BiT)(a:AddrT):BiT×Bool:=resD id ((false,0,0),(0,0,0,0,0,0),0) (l.find? fun b=>eqA b.1 a)
theorem bound24{N:Nat}{l:List BiT}(hN:30000<=N)(hl:l.length<=28000)(a:AddrT):n24 (N+3) (l,a)=some (boundD l a):=by
 refine ok_get ?_;rw[e24];refine ok_join (fun _=>(l.find? fun b=>eqA b.1 a)=none) (fun q h=>ok_some (by unfold boundD;rw[h];rfl)) fun g hg=>?_
 refine ok_loop (fun(i:Nat) (q:AddrT×BiT×List BiT×Int×Int)=>q=(a,((false,0,0),(0,0,0,0,0,0),0),l,(l.length:Int),(i:Int))/\i<=l.length/\((l.take i).find? fun b=>eqA b.1 a)=none) l.length (fun i q hq=>?_) ⟨rfl,Nat.zero_le _,rfl⟩ (show l.length<N+2 by omega);obtain⟨e1,hi,h⟩:=hq;subst e1;refine ok_let (ok_if (fun hc=>?_) fun hc=>ok_leave (hg _ (find_end (by simpa using hc) h)));have hlt:i<l.length:=by simpa using hc
 refine ok_bind (aJo hlt) (ok_letE (w:=eqA l[i].1 a) rfl (ok_if (fun h1=>ok_leave (ok_some ?_)) fun h1=>ok_letE (w:=((i+1:Nat):Int)) (wv _ rfl (by omega) (by omega)) (ok_again hlt ⟨rfl,hlt,find_step hlt h h1⟩)));unfold boundD;rw[find_hit hlt h h1];rfl
theorem bound25{N:Nat}{l:List BiT}(hN:30000<=N)(hl:l.length<=28000)(a:AddrT):n25 (N+3) (l,a)=some (boundD l a):=by
 refine ok_get ?_;rw[e25];refine ok_join (fun _=>(l.find? fun b=>eqA b.1 a)=none) (fun q h=>ok_some (by unfold boundD;rw[h];rfl)) fun g hg=>?_
 refine ok_loop (fun(i:Nat) (q:AddrT×BiT×List BiT×Int×Int)=>q=(a,((false,0,0),(0,0,0,0,0,0),0),l,(l.length:Int),(i:Int))/\i<=l.length/\((l.take i).find? fun b=>eqA b.1 a)=none) l.length (fun i q hq=>?_) ⟨rfl,Nat.zero_le _,rfl⟩ (show l.length<N+2 by omega);obtain⟨e1,hi,h⟩:=hq;subst e1;refine ok_let (ok_if (fun hc=>?_) fun hc=>ok_leave (hg _ (find_end (by simpa using hc) h)));have hlt:i<l.length:=by simpa using hc
 refine ok_bind (aJo hlt) (ok_letE (w:=eqA l[i].1 a) rfl (ok_if (fun h1=>ok_leave (ok_some ?_)) fun h1=>ok_letE (w:=((i+1:Nat):Int)) (wv _ rfl (by omega) (by omega)) (ok_again hlt ⟨rfl,hlt,find_step hlt h h1⟩)));unfold boundD;rw[find_hit hlt h h1];rfl
def eqM(x y:MacT):Bool:=false != ((x.1==y.1)&&((x.2.1==y.2.1)&&((x.2.2.1==y.2.2.1)&&((x.2.2.2.1==y.2.2.2.1)&&((x.2.2.2.2.1==y.2.2.2.2.1)&&(x.2.2.2.2.2==y.2.2.2.2.2))))))
theorem bcomm(a b:Int):(a==b)=(b==a):=by
 rw[Bool.eq_iff_iff,beq_iff_eq,beq_iff_eq];exact eq_comm
theorem eqM_comm(x y:MacT):eqM x y=eqM y x:=by
 unfold eqM;rw[bcomm x.1,bcomm x.2.1,bcomm x.2.2.1,bcomm x.2.2.2.1,bcomm x.2.2.2.2.1,bcomm x.2.2.2.2.2]
def whereD(l:List RuT)(m:MacT):Int×Bool:=resD (fun u:RuT=>u.1) 0 (l.find? fun u=>(u.2.2.2.1.find? fun v=>eqM v m).isSome)
theorem has48{N:Nat}(hN:10<=N){l:List MacT}(hl:l.length<=2)(m:MacT):n48 (N+2) (l,m)=some (l.find? fun v=>eqM v m).isSome:=by
 refine ok_get ?_;rw[e48];refine ok_bind' (P:=fun r=>decide (r>=(0:Int))=(l.find? fun v=>eqM v m).isSome) ?_ fun r h=>ok_some h
 rw[e78];refine ok_join (fun _=>(l.find? fun v=>eqM v m)=none) (fun q h=>ok_some (by rw[h];rfl)) fun g hg=>?_
 refine ok_loop (fun i q=>q=(l,m,(l.length:Int),(i:Int))/\i<=l.length/\((l.take i).find? fun v=>eqM v m)=none) l.length (fun i q ⟨e1,hi,h⟩=>?_) ⟨rfl,Nat.zero_le _,rfl⟩ (by omega);subst e1;refine ok_let (ok_if (fun hc=>?_) fun hc=>ok_leave (hg _ (find_end (by simpa using hc) h)));have hlt:i<l.length:=by simpa using hc
 refine ok_bind (aJo hlt) (ok_letE (w:=eqM l[i] m) (eqM_comm m l[i]) (ok_if (fun h1=>ok_leave (ok_some ?_)) fun h1=>ok_letE (w:=((i+1:Nat):Int)) (wv _ rfl (by omega) (by omega)) (ok_again hlt ⟨rfl,hlt,find_step hlt h h1⟩)));rw[find_hit hlt h h1];exact decide_eq_true (Int.natCast_nonneg i)
theorem where22{N:Nat}{l:List RuT}(hN:20000<=N)(hl:l.length<=14000)(hu:∀u∈l,RuOk u)(m:MacT):n22 (N+3) (l,m)=some (whereD l m):=by
 refine ok_get ?_;rw[e22];refine ok_join (fun _=>(l.find? fun u=>(u.2.2.2.1.find? fun v=>eqM v m).isSome)=none) (fun q h=>ok_some (by unfold whereD;rw[h];rfl)) fun g hg=>?_
 refine ok_loop (fun i q=>q=(m,l,(l.length:Int),(i:Int))/\i<=l.length/\((l.take i).find? fun u=>(u.2.2.2.1.find? fun v=>eqM v m).isSome)=none) l.length (fun i q ⟨e1,hi,h⟩=>?_) ⟨rfl,Nat.zero_le _,rfl⟩ (by omega);subst e1;refine ok_let (ok_if (fun hc=>?_) fun hc=>ok_leave (hg _ (find_end (by simpa using hc) h)));have hlt:i<l.length:=by simpa using hc
 refine ok_bind (aJo hlt) (ok_bind (has48 (N:=N) (by omega) (hu _ (List.getElem_mem hlt)).ma m) (ok_if (fun h1=>ok_leave (ok_some ?_)) fun h1=>ok_letE (w:=((i+1:Nat):Int)) (wv _ rfl (by omega) (by omega)) (ok_again hlt ⟨rfl,hlt,find_step (p:=fun u:RuT=>(u.2.2.2.1.find? fun v=>eqM v m).isSome) hlt h h1⟩)));unfold whereD;rw[find_hit (p:=fun u:RuT=>(u.2.2.2.1.find? fun v=>eqM v m).isSome) hlt h h1];rfl
theorem where23{N:Nat}{l:List RuT}(hN:20000<=N)(hl:l.length<=14000)(hu:∀u∈l,RuOk u)(m:MacT):n23 (N+3) (l,m)=some (whereD l m):=by
 refine ok_get ?_;rw[e23];refine ok_join (fun _=>(l.find? fun u=>(u.2.2.2.1.find? fun v=>eqM v m).isSome)=none) (fun q h=>ok_some (by unfold whereD;rw[h];rfl)) fun g hg=>?_
 refine ok_loop (fun i q=>q=(m,l,(l.length:Int),(i:Int))/\i<=l.length/\((l.take i).find? fun u=>(u.2.2.2.1.find? fun v=>eqM v m).isSome)=none) l.length (fun i q ⟨e1,hi,h⟩=>?_) ⟨rfl,Nat.zero_le _,rfl⟩ (by omega);subst e1;refine ok_let (ok_if (fun hc=>?_) fun hc=>ok_leave (hg _ (find_end (by simpa using hc) h)));have hlt:i<l.length:=by simpa using hc
 have hma:=(hu _ (List.getElem_mem hlt)).ma;refine ok_join (fun q=>q=(m,l,(l.length:Int),(i:Int))/\(l[i].2.2.2.1.find? fun v=>eqM v m).isSome=false) (fun q hq=>?_) fun g2 hg2=>?_
 .obtain⟨e1,h1⟩:=hq;subst e1;exact ok_letE (w:=((i+1:Nat):Int)) (wv _ rfl (by omega) (by omega)) (ok_again hlt ⟨rfl,hlt,find_step (p:=fun u:RuT=>(u.2.2.2.1.find? fun v=>eqM v m).isSome) hlt h h1⟩)
 refine ok_bind (aJo hlt) (ok_join (fun q=>q=(m,l,(l.length:Int),(i:Int))/\(l[i].2.2.2.1.find? fun v=>eqM v m).isSome=false) (fun q hq=>?_) fun g3 hg3=>?_)
 .obtain⟨e1,h1⟩:=hq;subst e1;exact hg2 _ ⟨rfl,h1⟩
 have hit:(l[i].2.2.2.1.find? fun v=>eqM v m).isSome=true->(l[i].1,true)=whereD l m:=fun h1=>by
  unfold whereD;rw[find_hit (p:=fun u:RuT=>(u.2.2.2.1.find? fun v=>eqM v m).isSome) hlt h h1];rfl
 generalize l[i]=u at *;show Ok (eG _ _ (m,u,l,(l.length:Int),(i:Int),u.2.2.2.1,(u.2.2.2.1.length:Int),((0:Nat):Int))) _;refine ok_loop (fun(j:Nat) (q:MacT×RuT×List RuT×Int×Int×List MacT×Int×Int)=>q=(m,u,l,(l.length:Int),(i:Int),u.2.2.2.1,(u.2.2.2.1.length:Int),(j:Int))/\j<=u.2.2.2.1.length/\((u.2.2.2.1.take j).find? fun v=>eqM v m)=none) u.2.2.2.1.length (fun j q hq=>?_) ⟨rfl,Nat.zero_le _,rfl⟩ (by omega);obtain⟨e1,hj,k1⟩:=hq;subst e1;refine ok_let (ok_if (fun hc=>?_) fun hc=>ok_leave (hg3 _ ⟨rfl,by rw[find_end (by simpa using hc) k1];rfl⟩));have hjt:j<u.2.2.2.1.length:=by simpa using hc
 refine ok_bind (aJo hjt) (ok_letE (w:=eqM u.2.2.2.1[j] m) rfl (ok_if (fun h1=>ok_leave (ok_leave (ok_some (hit (by rw[find_hit hjt k1 h1];rfl))))) fun h1=>ok_letE (w:=((j+1:Nat):Int)) (wv _ rfl (by omega) (by omega)) (ok_again hjt ⟨rfl,hjt,find_step hjt k1 h1⟩)))
end Go.Proofs.YtbpocjclcbjggaaGreatDoor
