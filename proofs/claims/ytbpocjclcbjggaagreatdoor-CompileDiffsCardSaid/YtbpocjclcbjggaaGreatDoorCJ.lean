/- Chapter 09, plainly: the look-ups; program and document answer alike. -/
import Derived.Test.YtbpocjclcbjggaaGreatDoorCH
namespace Go.Proofs.YtbpocjclcbjggaaGreatDoor
open Go.VM
set_option maxRecDepth 10000
theorem find_step{α:Type}{l:List α}{p:α->Bool}{i:Nat}(hi:i<l.length)(h:(l.take i).find? p=none)(h2:p l[i]=false):(l.take (i+1)).find? p=none:=by
 rw[List.take_succ_eq_append_getElem hi,List.find?_append,h];simp[h2]
theorem find_hit{α:Type}{l:List α}{p:α->Bool}{i:Nat}(hi:i<l.length)(h:(l.take i).find? p=none)(h2:p l[i]=true):l.find? p=some l[i]:=by
 have e:l=l.take i++l[i]::l.drop (i+1):=by rw[<-List.drop_eq_getElem_cons hi,List.take_append_drop]
 have e2:(l.take i++l[i]::l.drop (i+1)).find? p=some l[i]:=by rw[List.find?_append,h,List.find?_cons_of_pos h2];rfl
 rwa [<-e]at e2
theorem find_end{α:Type}{l:List α}{p:α->Bool}{i:Nat}(hi:l.length<=i)(h:(l.take i).find? p=none):l.find? p=none:=by rwa [List.take_of_length_le hi]at h
def resD{α β:Type}(f:α->β)(z:β):Option α->β×Bool
 |some u=>(f u,true)
 |none=>(z,false)
def z8:RuT:=(0,0,0,[],[],[],0,0)
theorem cp45(N:Nat){u:RuT}(h:RuOk u):n45 (N+2) u=some u:=by
 have h1:=h.ma;have h2:=h.l4;have h3:=h.l6;rw[e45];exact bindB ((e76 _ _).trans (if_pos (by omega))) (bindB ((e77 _ _).trans (if_pos (by omega))) (bindB ((e77 _ _).trans (if_pos (by omega))) rfl))
theorem cp46(N:Nat){u:RuT}(h:RuOk u):n46 (N+1) u=some u:=by
 have h1:=h.ma;have h2:=h.l4;have h3:=h.l6;rw[e46];exact bindB (aJm (l:=[]) (by simp only[List.length_nil];omega) (by simp only[List.length_nil];omega)) (bindB (aJm (l:=[]) (by simp only[List.length_nil];omega) (by simp only[List.length_nil];omega)) (bindB (aJm (l:=[]) (by simp only[List.length_nil];omega) (by simp only[List.length_nil];omega)) rfl))
def ruleD(l:List RuT)(x:Int):RuT×Bool:=resD id z8 (l.find? fun u=>u.1==x)
theorem rule18{N:Nat}{l:List RuT}(hN:20000<=N)(hl:l.length<=14000)(hu:∀u∈l,RuOk u)(x:Int):n18 (N+3) (l,x)=some (ruleD l x):=by
 refine ok_get ?_;rw[e18];refine ok_join (fun _=>(l.find? fun u=>u.1==x)=none) (fun q h=>ok_let (ok_let (ok_let (ok_some (by unfold ruleD;rw[h];rfl))))) fun g hg=>?_
 refine ok_loop (fun i q=>q=(x,z8,l,(l.length:Int),(i:Int))/\i<=l.length/\((l.take i).find? fun u=>u.1==x)=none) l.length (fun i q ⟨e1,hi,h⟩=>?_) ⟨rfl,Nat.zero_le _,rfl⟩ (by omega);subst e1;refine ok_let (ok_if (fun hc=>?_) fun hc=>ok_leave (hg _ (find_end (by simpa using hc) h)));have hlt:i<l.length:=by simpa using hc
 refine ok_bind (aJo hlt) (ok_if (fun h1=>ok_bind (cp45 N (hu _ (List.getElem_mem hlt))) (ok_leave (ok_some ?_))) fun h1=>ok_letE (w:=((i+1:Nat):Int)) (wv _ rfl (by omega) (by omega)) (ok_again hlt ⟨rfl,hlt,find_step hlt h h1⟩));unfold ruleD;rw[find_hit hlt h h1];rfl
theorem rule19{N:Nat}{l:List RuT}(hN:20000<=N)(hl:l.length<=14000)(hu:∀u∈l,RuOk u)(x:Int):n19 (N+3) (l,x)=some (ruleD l x):=by
 refine ok_get ?_;rw[e19];refine ok_join (fun _=>(l.find? fun u=>u.1==x)=none) (fun q h=>ok_let (ok_let (ok_let (ok_some (by unfold ruleD;rw[h];rfl))))) fun g hg=>?_
 refine ok_loop (fun i q=>q=(x,z8,l,(l.length:Int),(i:Int))/\i<=l.length/\((l.take i).find? fun u=>u.1==x)=none) l.length (fun i q ⟨e1,hi,h⟩=>?_) ⟨rfl,Nat.zero_le _,rfl⟩ (by omega);subst e1;refine ok_let (ok_if (fun hc=>?_) fun hc=>ok_leave (hg _ (find_end (by simpa using hc) h)));have hlt:i<l.length:=by simpa using hc
 refine ok_bind (aJo hlt) (ok_if (fun h1=>ok_bind (cp46 (N+1) (hu _ (List.getElem_mem hlt))) (ok_leave (ok_some ?_))) fun h1=>ok_letE (w:=((i+1:Nat):Int)) (wv _ rfl (by omega) (by omega)) (ok_again hlt ⟨rfl,hlt,find_step hlt h h1⟩));unfold ruleD;rw[find_hit hlt h h1];rfl
theorem ruleD_ok{l:List RuT}(hu:∀u∈l,RuOk u)(x:Int):RuOk (ruleD l x).1:=by
 unfold ruleD;cases h:l.find? fun u=>u.1==x with
 |none=>exact⟨by decide,by decide,by decide⟩
 |some u=>exact hu u (List.mem_of_find?_eq_some h)
abbrev BiT:=AddrT×MacT×Int
def eqM(x y:MacT):Bool:=false != ((x.1==y.1)&&((x.2.1==y.2.1)&&((x.2.2.1==y.2.2.1)&&((x.2.2.2.1==y.2.2.2.1)&&((x.2.2.2.2.1==y.2.2.2.2.1)&&(x.2.2.2.2.2==y.2.2.2.2.2))))))
end Go.Proofs.YtbpocjclcbjggaaGreatDoor
