/- aspath.Prepend with no number to put in front: its entry of the table. -/
import Derived.Test.YtgfmodmeimhhpaaGreatDoorHPR
namespace Go.Proofs.YtgfmodmeimhhpaaGreatDoor
open Go.VM
set_option maxRecDepth 10000
def zeroB(x:List Seg×Int×Int):Bool:=midB x.1&&(pvd x.1&&(num x.2.1&&(decide (x.2.2=0)&&!x.1.isEmpty)))
def gPrep0(x:List Seg×Int×Int):Option (List Seg×Int):=if zeroB x=true then some (x.1,0)else none
def enPrep0(_:List V)(r:List Seg×Int):List V:=[if false=true then .nils else pathV r.1,.int .i64 r.2]
theorem primPrep0{Ω:World->Prop}:PrimOk Ω Tryz.prog 49 [] (pH [.sl tyS,.int .i64,.int .i64] gPrep0 enPrep0):=by
 obtain⟨c,hb⟩:∃c,Tryz.f49.body=some c:=⟨_,rfl⟩;refine pH_ok Tryz.func49 hb (by kernel_rfl) (fun vs x r _ _=>plain_en nilOr) fun x r hx vs ht w A B cs hΩ hr=>?_
 obtain⟨L,asn,n⟩:=x;unfold gPrep0 at hx;split at hx
 .rename_i hl;cases hx;unfold zeroB at hl;simp only[Bool.and_eq_true,decide_eq_true_eq,Bool.not_eq_true']at hl;obtain⟨hl,pv,pn,h0,hne⟩:=hl;subst h0;have hm:=midB_iff.1 hl;obtain⟨s,_,rfl,h1,ca,_,rfl,h2,cf,_,rfl,h3,rfl⟩:=trel_hvs ht hr;have h2:[ca]=[.int .i64 asn]:=hv_one h2 rfl;have h3:[cf]=[.int .i64 0]:=hv_one h3 rfl;cases h2;cases h3;obtain⟨a,m,cap,rfl⟩:=hv_slice h1;have t64:tot L<=64:=by
   have:=pv;unfold pvd at this;rw[Bool.and_eq_true]at this;exact of_decide_eq_true this.2
  have ha:a≠none:=by
   rcases hc_slice (hv_one h1 rfl)with⟨q,_⟩|⟨_,_,_,q,_⟩
   .have q:L=[]:=q;rw[q]at hne;cases hne
   .cases q;exact fun h=>by cases h
  refine(prep_zero L asn a m cap w (callsOk w) hm h1 pv pn t64).mono fun e w' ⟨v',vs,e1,e2,e3,e4⟩=>⟨[v',.int .i64 0],e1,e4,?_⟩
  unfold enPrep0;rw[if_neg (by simp)];refine .cons _ _ _ _ (e2.rel (Nat.le_refl _) (fun i hi hi' h=>?_) fun q=>ha ?_) (.cons _ _ _ _ (.int _ _) .nil)
  .have:=pvd_ne pv _ (List.getElem_mem hi);rw[h]at this;simp at this
  .exact(e3.1 q).1
 .cases hx
theorem hPrep0:∀x r,gPrep0 x=some r->∀vs,iQ [.sl tyS,.int .i64,.int .i64] x vs->iQ [.sl tyS,.int .i64] r (enPrep0 vs r)/\∀c∈(enPrep0 vs r).flatMap V.cells,c.bare0:=fun x r _ vs _=>
 path_trel fun h=>by cases h
end Go.Proofs.YtgfmodmeimhhpaaGreatDoor
