/- Chapter 09, plainly: the database drawn from a deck. -/
import Derived.Test.YtbpocjclcbjggaaGreatDoorCA
namespace Go.Proofs.YtbpocjclcbjggaaGreatDoor
open Go.VM
set_option maxRecDepth 10000
/-- Members one aT the other,their ports numbered on from k. -/
def MsAt(f:Nat->Int×List UInt8)(k:Nat)(l:List MemT):Prop:=∀(i:Nat) (h:i<l.length),MAt (k+((l.take i).flatMap poL).length) (f i).1 (f i).2 l[i]
theorem MsAt.nil(f:Nat->Int×List UInt8)(k:Nat):MsAt f k []:=fun _ h=>by cases h
theorem MsAt.snoc{f:Nat->Int×List UInt8}{k:Nat}{l:List MemT}{m:MemT}(h:MsAt f k l)(hm:MAt (k+(l.flatMap poL).length) (f l.length).1 (f l.length).2 m):MsAt f k (l++[m]):=fun i hi=>by
 by_cases h1:i<l.length
 .rw[List.getElem_append_left h1,List.take_append_of_le_length (Nat.le_of_lt h1)];exact h i h1
 .have h2:i=l.length:=by rw[List.length_append,List.length_singleton]at hi;omega
  subst h2;simpa using hm
theorem MsAt.ps{f:Nat->Int×List UInt8}{k:Nat}{l:List MemT}(h:MsAt f k l)(j:Nat)(hj:j<=l.length):PsAt k ((l.take j).flatMap poL)/\((l.take j).flatMap poL).length<=2*j:=by
 induction j with
 |zero=>exact⟨by rw[List.take_zero];exact PsAt.nil k,by simp⟩
 |succ j ih=>
  obtain⟨h1,h2⟩:=ih (by omega);have hm:=h j hj;rw[List.take_succ_eq_append_getElem hj,List.flatMap_append,List.flatMap_cons,List.flatMap_nil,List.append_nil];exact⟨h1.append hm.ps,by have:=hm.len;rw[List.length_append];omega⟩
theorem MsAt.all{f:Nat->Int×List UInt8}{k:Nat}{l:List MemT}(h:MsAt f k l):PsAt k (l.flatMap poL)/\(l.flatMap poL).length<=2*l.length:=by
 have:=h.ps l.length (Nat.le_refl _)
 rwa [List.take_length]at this
theorem MsAt.append{f g:Nat->Int×List UInt8}{k:Nat}{l m:List MemT}(h:MsAt f k l)(hm:MsAt g (k+(l.flatMap poL).length) m):∀(i:Nat) (hi:i<(l++m).length),∃(a:Int) (nm:List UInt8),MAt (k+(((l++m).take i).flatMap poL).length) a nm (l++m)[i]:=fun i hi=>by
 by_cases h1:i<l.length
 .rw[List.getElem_append_left h1,List.take_append_of_le_length (Nat.le_of_lt h1)];exact⟨_,_,h i h1⟩
 .rw[List.getElem_append_right (by omega)];have:=hm (i-l.length) (by rw[List.length_append]at hi;omega);refine⟨(g (i-l.length)).1,(g (i-l.length)).2,?_⟩;rw[List.take_append,List.take_of_length_le (by omega),List.flatMap_append,List.length_append,<-Nat.add_assoc];exact this
def fS(i:Nat):Int×List UInt8:=(65000,[[114,115,45,49],[114,115,45,50]].getD i [])
def fM(i:Nat):Int×List UInt8:=(1+7*(i:Int),[[97],[98,45,50],[67,58,51],[100,101,108,116,97],[101]].getD i [])
def lan4:AddrT×Int:=((false,0,3221225984),24)
def lan6:AddrT×Int:=((true,2306139568115548160,0),64)
structure DbAt(d:DbT):Prop where
 l4:d.1=lan4
 l6:d.2.1=lan6
 ns:(srv d).length<=2
 nm:2<=(mem d).length/\(mem d).length<=5
 sv:MsAt fS 0 (srv d)
 me:MsAt fM ((srv d).flatMap poL).length (mem d)
theorem database_ok(N:Nat)(hN:10<N){d:Dk}(hd:DK d):Ok (n9 (N+4) d) fun r=>DbAt r.1/\DK r.2:=by
 rw[e9];refine ok_bind (e32 _) (ok_bind (e33 _) (ok_let (ok_let (ok_bind' (next_nat (N+1) hd 3 (by decide) (by decide)) fun v4 ⟨ns,h4,l4,d4⟩=>?_))));rw[h4];refine ok_join (fun q=>∃S:List MemT,q.2.1=(lan4,lan6,S,[])/\S.length<=2/\MsAt fS 0 S/\q.2.2.1=(((S.flatMap poL).length:Nat):Int)/\DK q.2.2.2) ?_ ?_
 .rintro⟨y0,y1,y2,y3⟩ ⟨S,f1,lS,hS,f2,f3⟩;simp only at f1 f2 f3;subst f1;subst f2;refine ok_bind' (next_nat (N+1) f3 4 (by decide) (by decide)) fun v7 ⟨nm,h7,l7,d7⟩=>?_
  rw[h7];refine ok_letE (w:=((2+nm:Nat):Int)) (wv _ (by omega) (by omega) (by omega)) (ok_join (fun q=>DbAt q.2.1/\DK q.2.2) (fun q hq=>ok_some hq) fun g hg=>?_);have hS2:=hS.all.2;refine ok_loop (fun i q=>∃M:List MemT,q.2.1=(lan4,lan6,S,M)/\M.length=i/\MsAt fM (S.flatMap poL).length M/\q.2.2.1=((2+nm:Nat):Int)/\q.2.2.2.1=(i:Int)/\q.2.2.2.2.1=(((S.flatMap poL).length+(M.flatMap poL).length:Nat):Int)/\DK q.2.2.2.2.2/\i<=2+nm) (2+nm) (fun i q ⟨M,e1,eM,hM,e2,e3,e4,hdk,hi⟩=>?_) ⟨[],rfl,rfl,MsAt.nil _ _,rfl,rfl,rfl,d7,Nat.zero_le _⟩ (by omega);obtain⟨q0,q1,q2,q3,q4,q5⟩:=q;simp only at e1 e2 e3 e4 hdk;subst e1;subst e2;subst e3;subst e4;have hM2:=hM.all.2;refine ok_let (ok_if (fun hc=>?_) fun hc=>?_)
  · have hlt : i < 2 + nm := by
      have:=of_decide_eq_true hc;simp only at this;omega
    refine ok_letE (w:=7*(i:Int)) (wv _ rfl (by omega) (by omega)) (ok_letE (w:=1+7*(i:Int)) (wv _ rfl (by omega) (by omega)) (ok_let (ok_bind (idx_nat (l:=[([97]:List UInt8),[98,45,50],[67,58,51],[100,101,108,116,97],[101]]) (by show i<5;omega) []) (ok_bind' (member_ok N (by omega) hdk _ _ _ (by omega)) fun r ⟨hm,hd2,hk⟩=>ok_let (ok_bind (aJm (by simp only[List.length_singleton];omega) (by simp only[List.length_singleton];omega)) (ok_letE (w:=((i+1:Nat):Int)) (wv _ rfl (by omega) (by omega)) (ok_again hlt ⟨M++[r.1],rfl,by rw[List.length_append,eM];rfl,hM.snoc ?_,rfl,rfl,?_,hd2,hlt⟩)))))))
    .rw[eM];exact hm
    .show r.2.2=_;rw[hk,List.flatMap_append,List.length_append,List.flatMap_cons,List.flatMap_nil,List.append_nil,Nat.add_assoc]
  · have hle : i = 2 + nm := by
      have:=of_decide_eq_false hc;simp only at this;omega
    exact ok_leave (hg _ ⟨⟨rfl,rfl,lS,(show 2<=M.length/\M.length<=5 by omega),hS,hM⟩,hdk⟩)
 .intro g hg;refine ok_loop (fun i q=>∃S:List MemT,q.2.1=(lan4,lan6,S,[])/\S.length=i/\MsAt fS 0 S/\q.2.2.1=(ns:Int)/\q.2.2.2.1=(i:Int)/\q.2.2.2.2.1=(((S.flatMap poL).length:Nat):Int)/\DK q.2.2.2.2.2/\i<=ns) ns (fun i q ⟨S,e1,eS,hS,e2,e3,e4,hdk,hi⟩=>?_) ⟨[],rfl,rfl,MsAt.nil _ _,rfl,rfl,rfl,d4,Nat.zero_le _⟩ (by omega);obtain⟨q0,q1,q2,q3,q4,q5⟩:=q;simp only at e1 e2 e3 e4 hdk;subst e1;subst e2;subst e3;subst e4;have hS2:=hS.all.2;refine ok_let (ok_if (fun hc=>?_) fun hc=>?_)
  · have hlt : i < ns := by
      have:=of_decide_eq_true hc;simp only at this;omega
    refine ok_let (ok_bind (idx_nat (l:=[([114,115,45,49]:List UInt8),[114,115,45,50]]) (by show i<2;omega) []) (ok_bind' (member_ok N (by omega) hdk _ _ _ (by omega)) fun r ⟨hm,hd2,hk⟩=>ok_let (ok_bind (aJm (by simp only[List.length_singleton];omega) (by simp only[List.length_singleton];omega)) (ok_letE (w:=((i+1:Nat):Int)) (wv _ rfl (by omega) (by omega)) (ok_again hlt ⟨S++[r.1],rfl,by rw[List.length_append,eS];rfl,hS.snoc ?_,rfl,rfl,?_,hd2,hlt⟩)))))
    .rw[eS,Nat.zero_add];exact hm
    .show r.2.2=_;rw[hk,List.flatMap_append,List.length_append,List.flatMap_cons,List.flatMap_nil,List.append_nil]
  .exact ok_leave (hg _ ⟨S,rfl,by omega,hS,rfl,hdk⟩)
end Go.Proofs.YtbpocjclcbjggaaGreatDoor
