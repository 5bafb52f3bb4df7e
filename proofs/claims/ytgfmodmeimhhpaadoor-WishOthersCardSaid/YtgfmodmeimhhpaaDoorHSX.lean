/- The typed reading of Strip's words; entries of the table. -/
import Derived.Test.YtgfmodmeimhhpaaDoorHSV
import Derived.Test.YtgfmodmeimhhpaaDoorHPR
namespace Go.VM
theorem crel_lab0{t:Ty}{x:(Ty.sl t).den}{v:V}(h:bP (.sl t) x [v]):bP (.sl t) x [v.mapLab1 fun _=>Lab.none]/\(v.mapLab1 fun _=>Lab.none).bare0:=by rcases h with⟨e,h0⟩|⟨lb,rs,e,h⟩;cases e;exact⟨.inl ⟨rfl,h0⟩,trivial⟩;cases e;exact⟨.inr ⟨_,rs,rfl,h⟩,rfl⟩
theorem rowW_crel{t:Ty}{x y:(Ty.sl t).den}{v:V}{ws:List V}(h:bP (.sl t) x [v])(h0:x=[]->y=[])(hr:aL (bP t) y ws)(hb:∀c∈ws,c.bare0):bP (.sl t) y [rowW t.size v (List.length y) ws]/\(rowW t.size v (List.length y) ws).bare0:=by rcases h with⟨e,e0⟩|⟨lb,rs,e,h⟩;cases e;exact⟨.inl ⟨rfl,h0 e0⟩,trivial⟩;cases e;exact⟨.inr ⟨_,ws,rfl,hr,hb⟩,rfl⟩
end Go.VM
namespace Go.Proofs.YtgfmodmeimhhpaaDoor
open Go.RowKit Go.Lib Go.VM
theorem cmW_rel:∀l:List (Int×Int),aL (bP tyCm) l (cmW l)
 |[]=>rfl|c::l=>⟨[.int .i64 c.1,.int .i64 c.2],_,rfl,⟨[.int .i64 c.1],[.int .i64 c.2],rfl,rfl,rfl⟩,cmW_rel l⟩
theorem lgW_rel:∀l:List (Int×Int×Int),aL (bP tyLg) l (lgW l)
 |[]=>rfl|c::l=>⟨[.int .i64 c.1,.int .i64 c.2.1,.int .i64 c.2.2],_,rfl,⟨[.int .i64 c.1],[.int .i64 c.2.1,.int .i64 c.2.2],rfl,rfl,[.int .i64 c.2.1],[.int .i64 c.2.2],rfl,rfl,rfl⟩,lgW_rel l⟩
theorem cmW_bare:∀l:List (Int×Int),∀c∈cmW l,c.bare0
 |[],_,h=>by cases h|c::l,u,h=>by
  rcases List.mem_append.1 (show u∈[V.int .i64 c.1,.int .i64 c.2]++cmW l from h)with h|h;simp at h;rcases h with rfl|rfl<;>trivial
  exact cmW_bare l u h
theorem lgW_bare:∀l:List (Int×Int×Int),∀c∈lgW l,c.bare0
 |[],_,h=>by cases h|c::l,u,h=>by
  rcases List.mem_append.1 (show u∈[V.int .i64 c.1,.int .i64 c.2.1,.int .i64 c.2.2]++lgW l from h)with h|h;simp at h;rcases h with rfl|rfl|rfl<;>trivial
  exact lgW_bare l u h
theorem hStrip:∀x r,gStrip x=some r->∀vs,iQ [.int .i64,tyAttr] x vs->(∀u∈vs.flatMap V.cells,u.bare0)->iQ [tyAttr] r (enStrip vs r)/\∀c∈(enStrip vs r).flatMap V.cells,c.bare0:=by
 rintro⟨own,a⟩ r hg vs ⟨v,vs',rfl,h1,v1,vs2,rfl,h2,h3⟩ hb;have h3:vs2=[]:=h3;subst h3;have h2:gP tyAttr a v1:=h2;unfold gStrip at hg;split at hg
 case isFalse=>cases hg
 rename_i hsm;cases hg;have hsm:SmA a:=smA_iff.1 hsm;obtain⟨us,rfl⟩:∃us,v1=.agg us:=by have:=h2.2;cases v1<;>first|exact⟨_,rfl⟩|cases this
 obtain⟨ws,k1,k2,_,_⟩:=give52 hsm h2 (fun u hu=>hb u (by simp;exact .inr hu));rw[enStrip_eq k1];clear k1;obtain⟨p,cc,l,o,rfl,hp,hc,hl,ho⟩:=attr_words k2;have e0:∀{α:Type} {l m:List α} {f:α->Bool},m=l.filter f->l=[]->m=[]:=fun{α l m f} h e=>by subst h;subst e;rfl
 obtain⟨q1,b1⟩:=crel_lab0 hp;obtain⟨q2,b2⟩:=rowW_crel (t:=tyCm) (y:=aComm (stripD own a)) hc (e0 rfl) (cmW_rel _) (cmW_bare _);obtain⟨q3,b3⟩:=rowW_crel (t:=tyLg) (y:=aLarge (stripD own a)) hl (e0 rfl) (lgW_rel _) (lgW_bare _);obtain⟨q4,b4⟩:=crel_lab0 ho;refine⟨⟨_,_,rfl,⟨?_,rfl⟩,rfl⟩,fun c hcc=>?_⟩;exact⟨[.int .i64 a.1],_,rfl,rfl,[_],_,rfl,q1,[.bool a.2.2.1.1,.int .u64 a.2.2.1.2.1,.int .u64 a.2.2.1.2.2],_,rfl,⟨[.bool a.2.2.1.1],_,rfl,rfl,[.int .u64 a.2.2.1.2.1],[.int .u64 a.2.2.1.2.2],rfl,rfl,rfl⟩,[.int .i64 a.2.2.2.1],_,rfl,rfl,[.int .i64 a.2.2.2.2.1],_,rfl,rfl,[.int .i64 a.2.2.2.2.2.1],_,rfl,rfl,[_],_,rfl,q2,[_],[_],rfl,q3,q4⟩
 · have hcc : c = .int .i64 a.1 ∨ c = p.mapLab1 (fun _ => Lab.none) ∨ c = .bool a.2.2.1.1 ∨ c = .int .u64 a.2.2.1.2.1 ∨ c = .int .u64 a.2.2.1.2.2 ∨ c = .int .i64 a.2.2.2.1 ∨ c = .int .i64 a.2.2.2.2.1 ∨ c = .int .i64 a.2.2.2.2.2.1 ∨ c = rowW 2 cc (aComm (stripD own a)).length (cmW (aComm (stripD own a))) ∨ c = rowW 3 l (aLarge (stripD own a)).length (lgW (aLarge (stripD own a))) ∨ c = o.mapLab1 (fun _ => Lab.none) := by
     have:c∈[V.int .i64 a.1,p.mapLab1 (fun _=>Lab.none),.bool a.2.2.1.1,.int .u64 a.2.2.1.2.1,.int .u64 a.2.2.1.2.2,.int .i64 a.2.2.2.1,.int .i64 a.2.2.2.2.1,.int .i64 a.2.2.2.2.2.1,rowW 2 cc (aComm (stripD own a)).length (cmW (aComm (stripD own a))),rowW 3 l (aLarge (stripD own a)).length (lgW (aLarge (stripD own a))),o.mapLab1 (fun _=>Lab.none)]:=hcc;simpa only[List.mem_cons,List.not_mem_nil,or_false]using this
   rcases hcc with rfl|rfl|rfl|rfl|rfl|rfl|rfl|rfl|rfl|rfl|rfl;trivial;exact b1;trivial;trivial;trivial;trivial;trivial;trivial;exact b2;exact b3;exact b4
end Go.Proofs.YtgfmodmeimhhpaaDoor
