/- Which paths are valid, and their numbers: out of the table Z. -/
import Derived.Test.YtgfmodmeimhhpaaDoorJE
import Derived.Test.YtgfmodmeimhhpaaDoorZE1
import Derived.Test.YtgfmodmeimhhpaaDoorHD
namespace Go.Proofs.YtgfmodmeimhhpaaDoor.Z
open Go.VM
set_option maxRecDepth 10000
theorem num_n(N:Nat)(a:Int):n39 (N+1) a=some (num a):=by rw[e39];refine letB rfl (letB rfl ?_);congr 1;unfold num;by_cases h1:1<=a<;>by_cases h2:a<=4294967295<;>simp[h1,h2]
theorem run_allS{F:Nat->Bool}:∀(m i:Nat),runF (fun i (_:Unit)=>if F i=true then some ()else none) m i ()=if(List.range' i m).all F=true then some ()else none
 |0,i=>rfl|m+1,i=>by
  rw[runF,List.range'_succ,List.all_cons];cases h:F i with
  |false=>rfl|true=>exact run_allS m (i+1)
theorem getD_lt{T:Type}(z:T){l:List T}{i:Nat}(h:i<l.length):l.getD i z=l[i]:=by rw[List.getD,List.getElem?_eq_getElem h];rfl
theorem nIdx_gD{T:Type}{ws:List T}{i:Nat}(z:T)(h:i<ws.length):aEU ws (i:Int)=some (ws.getD i z):=by rw[aJo h,getD_lt z h]
theorem tot_take{p:List Seg}{i:Nat}(h:i<p.length):tot (p.take (i+1))=tot (p.take i)+(p.getD i zS).2.length:=by unfold tot;rw[List.take_succ_eq_append_getElem h,List.map_append,List.sum_append,getD_lt zS h];simp
theorem tot_le{p:List Seg}(hs:∀s∈p,s.2.length<=100000):tot p<=p.length*100000:=by
 unfold tot
 induction p with|nil=>simp|cons s p ih=>
  have h1:=hs s (by simp);have h2:=ih fun s h=>hs s (List.mem_cons_of_mem _ h)
  simp only[List.map_cons,List.sum_cons,List.length_cons];omega
theorem runT{p:List Seg}:∀(m i:Nat),i+m=p.length->runF (fun i (t:Nat)=>if segOk p i=true then some (t+(p.getD i zS).2.length)else none) m i (tot (p.take i))=if(List.range' i m).all (segOk p)=true then some (tot p)else none
 |0,i,h=>by rw[runF,List.take_of_length_le (by omega)];rfl|m+1,i,h=>by
  rw[runF,List.range'_succ,List.all_cons];cases hq:segOk p i with
  |false=>rfl|true=>rw[Bool.true_and];have:=runT (p:=p) m (i+1) (by omega);rw[tot_take (by omega)]at this;exact this
theorem valid_of{B:(List Seg×(Int×(List Seg×(Int×Int))))->Option ((List Seg×(Int×(List Seg×(Int×Int)))) ⊕ Bool)}{p:List Seg}{M:Nat}(hM:p.length<M)(hp:p.length<=1000)(hs:∀s∈p,s.2.length<=100000)
  (hB:∀(i t:Nat),i<p.length->t<=200000000->B (p,(t:Int),p,aJO p,(i:Int))=if segOk p i=true then some (.inl (p,((t+(p.getD i zS).2.length:Nat):Int),p,aJO p,((i+1:Nat):Int)))else some (.inr false))
  (hE:∀t:Nat,B (p,(t:Int),p,aJO p,(p.length:Int))=some (.inr (decide (t<=64)))):eG M B (p,(0:Int),p,aJO p,(0:Int))=some (pvd p):=by
 have hl:∀i,(p.getD i zS).2.length<=100000:=fun i=>by
  rw[List.getD];cases hh:p[i]? with
  |none=>simp|some s=>exact hs s (List.mem_of_getElem? hh)
 refine loopF_go (fun i (t:Nat)=>if segOk p i=true then some (t+(p.getD i zS).2.length)else none) (fun i t=>t<=i*100000) (fun i t=>(p,(t:Int),p,aJO p,(i:Int))) p.length false (fun t=>decide (t<=64)) 0 rfl (Nat.zero_le _) (fun i hi t ht=>?_) (fun t _=>hE t) hM ?_;have k:=hB i t hi (by omega);cases h:segOk p i with
 |false=>rw[h]at k;exact⟨fun b hb=>(by cases hb),fun _=>k⟩|true=>rw[h]at k;refine⟨fun b hb=>?_,fun hb=>(by cases hb)⟩;have hb:=Option.some.inj hb;subst hb;exact⟨by have:=hl i;show t+_<=(i+1)*100000;omega,k⟩
 have:=runT (p:=p) p.length 0 (by omega);rw[show tot (p.take 0)=0 from rfl]at this;rw[this];unfold pvd;cases(List.range' 0 p.length).all (segOk p)<;>rfl
theorem valid_p(N:Nat)(hN:100001<N){p:List Seg}(hp:p.length<=1000)(hs:∀s∈p,s.2.length<=100000):n38 (N+2) p=some (pvd p):=by
 rw[e38];refine jB (valid_of (by omega) hp hs (fun i t hi ht=>?_) fun t=>?_);have hx:=nIdx_gD zS hi;have hd:decide ((i:Int)<aJO p)=true:=decide_eq_true (by unfold aJO;omega);have nx:IntKind.i64.wrap ((i:Int)+1)=((i+1:Nat):Int):=wv _ (by omega) (by omega) (by omega);have hl:(p.getD i zS).2.length<=100000:=by rw[getD_lt zS hi];exact hs _ (List.getElem_mem hi)
 have hseg:segOk p i=(!(p.getD i zS).2.isEmpty&&(decide (i=0)||(p.getD i zS).1||(p.getD (i-1) zS).1)&&numsOk (p.getD i zS)):=rfl;rw[hseg];have hprev:0<i->aEU p (IntKind.i64.wrap ((i:Int)-1))=some (p.getD (i-1) zS):=fun h0=>by rw[wv ((i-1:Nat):Int) (show(i:Int)-1=((i-1:Nat):Int) by omega) (by omega) (by omega)];exact nIdx_gD zS (by omega)
 generalize hsg:p.getD i zS=s at *;generalize hpr:p.getD (i-1) zS=r at *;refine letB (v:=true) hd (bifT rfl (jB (bindB hx ?_)));have he:(aJO s.2==(0:Int))=s.2.isEmpty:=by
  unfold aJO;cases s.2 with
  |nil=>rfl|cons a l=>simp;omega
 refine letB (v:=decide (0<i)) (show decide ((i:Int)>0)=decide (0<i)from decide_eq_decide.2 (by omega)) (letB (v:=decide (0<i)&&!s.1) (by cases decide (0<i)<;>rfl) (letB rfl ?_));refine bindB (v:=if(decide (0<i)&&!s.1&&!s.2.isEmpty)=true then r else zS) ?_ ?_;rw[he];cases hc:(decide (0<i)&&!s.1&&!s.2.isEmpty)with
 |false=>rfl|true=>simp only[Bool.and_eq_true,decide_eq_true_eq]at hc;exact hprev hc.1.1
 refine letB (v:=decide (0<i)&&!s.1&&!(if(decide (0<i)&&!s.1&&!s.2.isEmpty)=true then r else zS).1) (by cases decide (0<i)&&!s.1<;>rfl) ?_;refine letB (v:=!(!s.2.isEmpty&&(decide (i=0)||s.1||r.1))) ?_ ?_;have hif:∀c:Bool,(if c=true then r else zS).1=(c&&r.1):=fun c=>by cases c<;>rfl
 rw[he,hif];cases s.2.isEmpty with
 |true=>rfl|false=>
  have h00:decide (i=0)=!decide (0<i):=by by_cases h:i=0;simp[h];simp[h,Nat.pos_of_ne_zero h]
  rw[h00];cases decide (0<i)<;>cases s.1<;>cases r.1<;>rfl
 cases hb:(!s.2.isEmpty&&(decide (i=0)||s.1||r.1))with
 |false=>exact bifT rfl (leaveB rfl)|true=>
  refine bifF rfl (jB ?_);rw[Bool.true_and];refine Eq.trans (loopF_go (R:=((List Seg×(Int×(List Seg×(Int×Int)))) ⊕ Bool)) (r:=if numsOk s=true then Sum.inl (p,((t+s.2.length:Nat):Int),p,aJO p,((i+1:Nat):Int))else Sum.inr false) (fun k (_:Unit)=>if numOk s k=true then some ()else none) (fun _ _=>True) (fun k _=>(p,(t:Int),s,p,aJO p,(i:Int),s.2,aJO s.2,(k:Int))) s.2.length (.inr false) (fun _=>.inl (p,((t+s.2.length:Nat):Int),p,aJO p,((i+1:Nat):Int))) () rfl trivial (fun k hk _ _=>?_) (fun _ _=>?_) ?_ ?_) (by cases numsOk s<;>rfl);have hy:aEU s.2 (k:Int)=some (s.2.getD k 0):=nIdx_gD 0 hk;have nk:IntKind.i64.wrap ((k:Int)+1)=((k+1:Nat):Int):=wv _ (by omega) (by omega) (by omega);have hyp:0<k->aEU s.2 (IntKind.i64.wrap ((k:Int)-1))=some (s.2.getD (k-1) 0):=fun h0=>by rw[wv ((k-1:Nat):Int) (show(k:Int)-1=((k-1:Nat):Int) by omega) (by omega) (by omega)];exact nIdx_gD 0 (by omega)
  have body:∀(R:Option ((List Seg×(Int×(Seg×(List Seg×(Int×(Int×(List Int×(Int×Int)))))))) ⊕ ((List Seg×(Int×(List Seg×(Int×Int)))) ⊕ Bool))),(R=if numOk s k=true then some (.inl (p,(t:Int),s,p,aJO p,(i:Int),s.2,aJO s.2,((k+1:Nat):Int)))else some (.inr (.inr false)))->(∀b,(if numOk s k=true then some ()else none)=some b->True/\R=some (.inl (p,(t:Int),s,p,aJO p,(i:Int),s.2,aJO s.2,((k+1:Nat):Int))))/\((if numOk s k=true then some ()else none)=(none:Option Unit)->R=some (.inr (.inr false))):=fun R hR=>by
   cases h:numOk s k with|false=>rw[h]at hR;exact⟨fun b hb=>(by cases hb),fun _=>hR⟩|true=>rw[h]at hR;exact⟨fun b _=>⟨trivial,hR⟩,fun hb=>(by cases hb)⟩
  refine body _ ?_;refine letB (v:=true) (decide_eq_true (show(k:Int)<aJO s.2 by unfold aJO;omega)) (bifT rfl (bindB hy (bindB (num_n N _) ?_)));refine letB (v:=decide (0<k)) (show decide ((k:Int)>0)=decide (0<k)from decide_eq_decide.2 (by omega)) (letB (v:=s.1&&decide (0<k)) (by cases s.1<;>rfl) (letB rfl ?_));have hno:numOk s k=(num (s.2.getD k 0)&&(!(s.1&&decide (0<k))||decide (s.2.getD (k-1) 0<s.2.getD k 0))):=by
   unfold numOk;congr 1;have h00:decide (k=0)=!decide (0<k):=by by_cases h:k=0;simp[h];simp[h,Nat.pos_of_ne_zero h]
   rw[h00];cases s.1<;>cases decide (0<k)<;>rfl
  rw[hno];cases hn:num (s.2.getD k 0)with
  |false=>exact bindB (v:=(0:Int)) (bifF (by cases s.1<;>cases decide (0<k)<;>rfl) rfl) (letB rfl (letB (v:=true) rfl (bifT rfl (leaveB (leaveB rfl)))))|true=>
   cases hc:(s.1&&decide (0<k))with
   |false=>exact bindB (v:=(0:Int)) (bifF rfl rfl) (letB (v:=false) rfl (letB (v:=false) rfl (bifF rfl (letB nk rfl))))|true=>
    have h0:0<k:=by rw[Bool.and_eq_true,decide_eq_true_eq]at hc;exact hc.2
    refine bindB (bifT rfl (hyp h0)) (letB (v:=!decide (s.2.getD (k-1) 0<s.2.getD k 0)) ?_ ?_);show decide (s.2.getD (k-1) 0>=s.2.getD k 0)=_;by_cases q:s.2.getD (k-1) 0<s.2.getD k 0;rw[decide_eq_true q,decide_eq_false (by omega)];rfl;rw[decide_eq_false q,decide_eq_true (by omega)];rfl;cases decide (s.2.getD (k-1) 0<s.2.getD k 0)with
    |false=>exact letB (v:=true) rfl (bifT rfl (leaveB (leaveB rfl)))|true=>exact letB (v:=false) rfl (bifF rfl (letB nk rfl))
  exact letB (v:=false) (decide_eq_false (show ¬(s.2.length:Int)<aJO s.2 by unfold aJO;omega)) (bifF rfl (leaveB (letB (v:=((t+s.2.length:Nat):Int)) (wv _ (show(t:Int)+aJO s.2=_ by unfold aJO;omega) (by omega) (by omega)) (letB nx rfl))));omega;rw[run_allS];unfold numsOk;cases(List.range' 0 s.2.length).all (numOk s)<;>rfl
 refine letB (v:=false) (decide_eq_false (show ¬(p.length:Int)<aJO p by unfold aJO;omega)) (bifF rfl (leaveB ?_));show some (decide ((t:Int)<=64))=_;congr 1;exact decide_eq_decide.2 (by omega)
def flat(p:List Seg):List Int:=p.flatMap fun s=>s.2
theorem flat_len(p:List Seg):(flat p).length=tot p:=by unfold flat tot;rw[List.length_flatMap]
theorem flat_take{p:List Seg}{i:Nat}(h:i<p.length):flat (p.take (i+1))=flat (p.take i)++p[i].2:=by unfold flat;rw[List.take_succ_eq_append_getElem h,List.flatMap_append];simp
theorem flat_n(N:Nat){p:List Seg}(hN:p.length<N)(hp:p.length<=1000)(hs:∀s∈p,s.2.length<=100000):n48 (N+1) p=some (flat p):=by
 rw[e48];refine jB (loopN_seq' (fun i=>((flat (p.take i),p,aJO p,(i:Int)):(List Int×(List Seg×(Int×Int))))) p.length rfl (fun i hi=>?_) ?_ hN)
 · have l1 : (flat (p.take i)).length ≤ 100000000 := by
     rw[flat_len];have:=tot_le (p:=p.take i) fun s h=>hs s (List.mem_of_mem_take h)
     rw[List.length_take]at this;omega
   have l2:=hs p[i] (List.getElem_mem hi);refine letB (v:=true) (decide_eq_true (show(i:Int)<aJO p by unfold aJO;omega)) (bifT rfl (bindB (aJo hi) (bindB (aJm (l:=flat (p.take i)) (m:=p[i].2) (by omega) (by omega)) (letB (v:=((i+1:Nat):Int)) (wv _ (show(i:Int)+1=((i+1:Nat):Int) by omega) (by omega) (by omega)) ?_))));rw[flat_take hi];rfl
 rw[List.take_length];exact letB (v:=false) (decide_eq_false (show ¬(p.length:Int)<aJO p by unfold aJO;omega)) (bifF rfl (leaveB rfl))
end Go.Proofs.YtgfmodmeimhhpaaDoor.Z
