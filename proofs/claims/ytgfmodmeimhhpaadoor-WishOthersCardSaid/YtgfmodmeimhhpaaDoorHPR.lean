/- Prepend as an entry of the table. -/
import Derived.Test.YtgfmodmeimhhpaaDoorZO
import Derived.Test.YtgfmodmeimhhpaaDoorHZ0
import Derived.Test.YtgfmodmeimhhpaaDoorHPP
open List(mem_cons)
namespace Go.Proofs.YtgfmodmeimhhpaaDoor
open Go.RowKit Go.Lib Go.VM
def midB(p:List Seg):Bool:=decide (p.length<=1000)&&p.all fun s=>decide (s.2.length<=100000)
theorem midB_iff{p:List Seg}:midB p=true↔Mid p:=by simp[midB,Mid]
def isNil:V->Bool
 |.nils=>true|_=>false
def enPrep(vs:List V)(r:List Seg×Int):List V:=[if(r.1.isEmpty&&(decide (r.2≠0)||isNil (vs.headD .undef)))=true then .nils else pathV r.1,.int .i64 r.2]
theorem plain_en{v:V}{n:Int}(hv:v=.nils\/∃L,v=pathV L):∀u∈[v,V.int .i64 n],aN u=false/\u.flat=true/\∀xs,u≠.tup xs:=fun u hu=>by
 simp only[mem_cons,List.not_mem_nil,or_false]at hu;rcases hu with rfl|rfl;rcases hv with rfl|⟨L,rfl⟩<;>exact⟨rfl,rfl,fun _ h=>by cases h⟩
 exact⟨rfl,rfl,fun _ h=>by cases h⟩
theorem nilOr{b:Bool}{L:List Seg}:(if b=true then V.nils else pathV L)=.nils\/∃M,(if b=true then V.nils else pathV L)=pathV M:=by cases b;exact .inr ⟨L,rfl⟩;exact .inl rfl
theorem path_trel{b:Bool}{L:List Seg}{n:Int}(h:b=true->L=[]):iQ [.sl tyS,.int .i64] (L,n) [if b=true then V.nils else pathV L,.int .i64 n]/\∀c∈([if b=true then V.nils else pathV L,.int .i64 n]:List V).flatMap V.cells,c.bare0:=by
 cases b with
 |true=>
  have h0:=h rfl;exact⟨⟨_,_,rfl,⟨.inl ⟨rfl,h0⟩,rfl⟩,_,_,rfl,⟨rfl,rfl⟩,rfl⟩,fun c hc=>by simp[V.cells]at hc;rcases hc with rfl|rfl<;>trivial⟩
 |false=>exact⟨⟨_,_,rfl,⟨pathV_crel L,rfl⟩,_,_,rfl,⟨rfl,rfl⟩,rfl⟩,fun c hc=>by simp[V.cells,pathV]at hc;rcases hc with rfl|rfl<;>trivial⟩
theorem slTy{t:Ty}:∀p∈[PK.d (.sl t)],∃u,p=.d u/\(u.agg=true\/u.size=1):=fun p hp=>by simp only[mem_cons,List.not_mem_nil,or_false]at hp;exact⟨_,hp,.inr rfl⟩
theorem hvI{W:World}{Q:Nat->Prop}(a:Int):HV W Q (.int .i64) a (.int .i64 a):=⟨rfl,rfl⟩
theorem callsOk(w:World):CallsOk w where
 valid L v W hb hm hv:=by
  have hty:wZ ⟨[.d (.sl tyS)],[(.bool,[])],none⟩ [] (call Z.FT 200004 38) (nfN Z.TN 200004 38):=by have h:=Z.typed 200004 38;unfold aF7 at h;rw[Z.sigOk 38]at h;exact h
  have hx:Z.n38 200004 L=some (pvd L):=by exact Z.valid_p 200002 (by decide) hm.1 hm.2
  refine(calls_typed (Z.tableOk) (f:=38) (ps:=[.d (.sl tyS)]) (rs:=[(.bool,[])]) (vf:=Z.vf38) rfl hty slTy (by decide) (fun _ _=>trivial) hx ⟨_,_,rfl,hv,rfl⟩).mono fun e W' ⟨rcs,e1,e2,e3⟩=>⟨?_,e2⟩
  obtain⟨c1,cs1,rfl,h1,rfl⟩:=e3;have h1:[c1]=[.bool (pvd L)]:=hv_one h1 rfl;cases h1;rw[e1];rfl
 numb a W hb:=by
  have hty:wZ ⟨[.d (.int .i64)],[(.bool,[])],none⟩ [] (call Z.FT 200004 39) (nfN Z.TN 200004 39):=by have h:=Z.typed 200004 39;unfold aF7 at h;rw[Z.sigOk 39]at h;exact h
  have hx:Z.n39 200004 a=some (num a):=by exact Z.num_n _ a
  refine(calls_typed (Z.tableOk) (f:=39) (ps:=[.d (.int .i64)]) (rs:=[(.bool,[])]) (vf:=Z.vf39) rfl hty (fun p hp=>by simp only[mem_cons,List.not_mem_nil,or_false]at hp;exact⟨_,hp,.inr rfl⟩) (by decide) (fun _ _=>trivial) (Q:=fun _=>True) hx ⟨_,_,rfl,hvI a,rfl⟩).mono fun e W' ⟨rcs,e1,e2,e3⟩=>⟨?_,e2⟩
  obtain⟨c1,cs1,rfl,h1,rfl⟩:=e3;have h1:[c1]=[.bool (num a)]:=hv_one h1 rfl;cases h1;rw[e1];rfl
 flat L v W hb hm hv:=by
  have hty:wZ ⟨[.d (.sl tyS)],[(.sl (.int .i64),[(0,true)])],none⟩ [] (call Z.FT 200004 48) (nfN Z.TN 200004 48):=by have h:=Z.typed 200004 48;unfold aF7 at h;rw[Z.sigOk 48]at h;exact h
  have hx:Z.n48 200004 L=some (Z.flat L):=by exact Z.flat_n 200003 (by have:=hm.1;omega) hm.1 hm.2
  refine(calls_typed (Z.tableOk) (f:=48) (ps:=[.d (.sl tyS)]) (rs:=[(.sl (.int .i64),[(0,true)])]) (vf:=Z.vf48) rfl hty slTy (by decide) (fun _ _=>trivial) hx ⟨_,_,rfl,hv,rfl⟩).mono fun e W' ⟨rcs,e1,e2,e3⟩=>⟨?_,e2⟩
  obtain⟨c1,cs1,rfl,h1,rfl⟩:=e3;rw[e1];rcases hc_slice (hv_one h1 rfl)with⟨h0,rfl⟩|⟨a,cap,rows,rfl,_⟩;have h0:Z.flat L=[]:=h0;have:=Z.flat_len L;rw[h0]at this;rw[<-this];exact⟨none,0,rfl⟩;have:=Z.flat_len L;refine⟨some a,cap,?_⟩;rw[<-this];rfl
theorem pvd_ne{p:List Seg}(h:pvd p=true):∀s∈p,0<s.2.length:=by
 unfold pvd at h;rw[Bool.and_eq_true,List.all_eq_true]at h;intro s hs;obtain⟨i,hi,e⟩:=List.getElem_of_mem hs;have h1:=h.1 i (by simp[List.mem_range'];omega);unfold segOk at h1;rw[Bool.and_eq_true,Bool.and_eq_true,Z.getD_lt zS hi,e]at h1;have h2:=h1.1.1;cases hq:s.2 with
 |nil=>rw[hq]at h2;cases h2|cons a l=>simp
theorem preP_ne{p:List Seg}(hp:∀s∈p,0<s.2.length)(a:Int){k:Nat}(hk:0<k):preP p a k≠[]/\∀s∈preP p a k,0<s.2.length:=by unfold preP;split;exact⟨by simp,fun s hs=>by rw[List.mem_singleton.1 hs];simpa using hk⟩;rename_i s r;split;refine⟨by simp,fun q hq=>?_⟩;rcases mem_cons.1 hq with rfl|hq;simpa using hk;exact hp q hq;refine⟨by simp,fun q hq=>?_⟩;rcases mem_cons.1 hq with rfl|hq;simp;omega;exact hp q (List.mem_cons_of_mem _ hq)
theorem hv_slice{w:World}{Q:Nat->Prop}{t:Ty}{l:List t.den}{c:Value}(h:HV w Q (.sl t) l c):∃a n cap,c=.slice a n cap:=by rcases hc_slice (hv_one h rfl)with⟨_,h2⟩|⟨ad,cap',rows,h2,_⟩<;>exact⟨_,_,_,h2⟩
end Go.Proofs.YtgfmodmeimhhpaaDoor
