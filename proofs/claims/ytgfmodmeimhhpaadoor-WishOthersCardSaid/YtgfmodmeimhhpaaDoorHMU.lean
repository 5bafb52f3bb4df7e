/- The listed map of the known types of attributes; attribute.unknown, walked by hand. -/
import Derived.Test.YtgfmodmeimhhpaaDoorHSX
import Derived.Test.YtgfmodmeimhhpaaDoorRows
import Derived.Maps.Keyed
import Derived.LaidMore
import Derived.MakeChecks
namespace Go.Proofs.YtgfmodmeimhhpaaDoor
open Go.ChangeShapes Go.WideShapes Go.ChangeAt Go.WideElems Go.RowKit
open Go.VM
set_option maxRecDepth 10000
def flagsL:List (Int×Int):=[(1,64),(2,64),(3,64),(4,128),(5,64),(8,192),(32,192),(35,192)]
def flagsD(t:Int):Int:=(flagsL.lookup t).getD 0
def MapW(w:World):Prop:=∃bm es clock,w.cell? ⟨0,0,none⟩=some (.map (some bm))/\w.heap[bm]?=some (.map es clock)/\
 ∀w':World,w'.heap[bm]?=some (.map es clock)->∀t:Int,(Lit.int .i64 t).wf=true->(Instr.lookup 135 (.map (some bm)) (.int .i64 t) false).run Tryd.prog w'=.ok (.int .i64 (flagsD t)) w'
theorem mapW_cell{w w':World}{x:Value}(h:w.cell? ⟨0,0,none⟩=some x)(hw:∀b,b<w.heap.size->w'.heap[b]?=w.heap[b]?):w'.cell? ⟨0,0,none⟩=some x:=by
 have h0:0<w.heap.size:=by
  unfold World.cell? at h;split at h
  .rename_i hh;exact(Array.getElem?_eq_some_iff.1 hh).1
  .cases h
 rw[<-h];exact World.cell?_of_block (hw 0 h0)
theorem mapW_stays{w:World}(h:MapW w):∀w':World,(∀b,b<w.heap.size->w'.heap[b]?=w.heap[b]?)->MapW w':=by obtain⟨bm,es,clock,h1,h2,h3⟩:=h;intro w' hw;exact⟨bm,es,clock,mapW_cell h1 hw,(hw bm (Array.getElem?_eq_some_iff.1 h2).1).trans h2,h3⟩
theorem atKey_flags(t:Int):(DataW.map (H:=Unit) (flagsL.map fun p=>(.int .i64 p.1,.lit (.int .i64 p.2)))).atKey (.int .i64 t) (.lit (.int .i64 0))=.lit (.int .i64 (flagsD t)):=by
 unfold flagsD;simp only[DataW.atKey];generalize flagsL=l
 induction l with|nil=>rfl|cons p r ih=>
  rw[List.map_cons,List.find?_cons,List.lookup_cons];by_cases h:p.1=t
  .rw[show((Lit.int .i64 p.1).sameKey (.int .i64 t))=true by simp[Lit.sameKey,h],show(t==p.1)=true by simp[h]];rfl
  .rw[show((Lit.int .i64 p.1).sameKey (.int .i64 t))=false by simp[Lit.sameKey,h],show(t==p.1)=false by simp[Ne.symm h]];exact ih
theorem mapW_of_laid{W:World}(h:laidMetH Tryd.prog [("exchangepoint/attribute.flags",Rows.laid_exchangepoint_attribute_flags)] W):MapW W:=by
 rw[MakeChecks.laidMetH_plain _ _ _ (by kernel_rfl)]at h;obtain⟨ps,⟨g0,t0,cs0,f0,p0,q0,hg0,ht0,hv0,hd0,_⟩,_⟩:=h;obtain rfl:=Option.some.inj ((show Tryd.prog.globalNamed "exchangepoint/attribute.flags" = some 0 by kernel_rfl).symm.trans hg0);obtain rfl:=Option.some.inj ((show(Tryd.prog.globals[0]?).map (·.type)=some 135 by kernel_rfl).symm.trans ht0);rcases open_map Tryd.underlying135 hd0 with⟨_,hx⟩|⟨bm,es,clock,m,rfl,hcs,hb,_,F,hx⟩
 .simp[Rows.laid_exchangepoint_attribute_flags]at hx
 simp only[Prod.mk.injEq]at hx;have hcell:W.cell? ⟨0,0,none⟩=some (.map (some bm)):=by have:=World.var?_cell hg0 hv0 0;rw[Array.eq_one_of_toList hcs]at this;simpa using this
 refine⟨bm,es,clock,hcell,hb,fun w' hb' t ht=>?_⟩;have zero:(zeroValue 3).run Tryd.prog w'=.ok (.int .i64 0) w':=by kernel_rfl
 rcases Go.Maps.fit_look false (Go.Maps.int_keyed Tryd.underlying3) Tryd.underlying135 zero hb' F (Go.Maps.keyOf_int_mk Tryd.underlying3 ht)with⟨hrun,_,hat⟩|⟨e0,y,_,_,hrun,hRv,hat,_⟩
 .have h1:=hat (.lit (.int .i64 0));rw[<-hx.1]at h1;have h2:=(atKey_flags t).symm.trans h1;rw[DataW.lit.injEq,Lit.int.injEq]at h2;rw[h2.2];exact hrun
 .obtain⟨r,e1,e2,_⟩:=elemAt_int Tryd.underlying3 hRv;have h1:=hat (.lit (.int .i64 0));rw[<-hx.1]at h1;have h2:=(atKey_flags t).symm.trans h1;rw[e2,DataW.lit.injEq,Lit.int.injEq]at h2;rw[e1]at hrun;rw[h2.2];exact hrun
def OmM(w:World):Prop:=Om Tryd.prog false false none w/\MapW w
theorem omM_stays{W:World}(h:OmM W):∀w:World,(∀b,b<W.heap.size->w.heap[b]?=W.heap[b]?)->OmM w:=fun w hw=>⟨aJN h.1 w hw,mapW_stays h.2 w hw⟩
def unkD(t:Int):Bool:=(flagsD t==0)&&(t != 14&&t != 15)
def gUnkn(t:Int):Option Bool:=if(Lit.int .i64 t).wf=true then some (unkD t)else none
def enUnkn(_:List V)(b:Bool):List V:=[.bool b]
theorem unknown_walk(t:Int)(ht:(Lit.int .i64 t).wf=true)(w:World)(h:MapW w):Calls Tryd.prog 67 #[.int .i64 t] w fun e w'=>e=.returned (.bool (unkD t))/\Below w.heap.size w w':=by
 obtain⟨bm,es,clock,h1,h2,h3⟩:=h;have hrun:=h3 w h2 t ht;clear h3
 go_enter Tryd.func67,Tryd.ntmps67
 go_wp2
 .go_ret
  rename_i h4 h5;subst h5;exact⟨by simp[unkD],Below.refl _ _⟩
 .go_ret
  rename_i h4 h5;exact⟨by simp[unkD,h4],Below.refl _ _⟩
 .go_ret
  rename_i h4;exact⟨by simp[unkD,h4],Below.refl _ _⟩
theorem primUnkn:PrimOk OmM Tryd.prog 67 [] (pH [.int .i64] gUnkn enUnkn):=by
 obtain⟨c,hb⟩:∃c,Tryd.f67.body=some c:=⟨_,rfl⟩;refine pH_ok Tryd.func67 hb (by kernel_rfl) (fun vs x r _ _ v hv=>?_) fun x r hx vs ht w A B cs hΩ hr=>?_
 .rw[enUnkn,List.mem_singleton]at hv;subst hv;exact⟨rfl,rfl,fun xs h=>by cases h⟩
 .unfold gUnkn at hx;split at hx
  .rename_i hw;cases hx;obtain⟨c,cs',rfl,h1,h2⟩:=trel_hvs ht hr;cases h2;have h3:=hv_one h1 rfl;have h3:[c]=[Value.int .i64 x]:=h3;cases h3;refine(unknown_walk x hw w (hΩ w fun _ _=>rfl).2).mono fun e w' ⟨h3,h4⟩=>⟨[.bool (unkD x)],h3,h4,?_⟩
   exact .cons _ _ _ _ (.bool _) .nil
  .cases hx
theorem hUnkn:∀x r,gUnkn x=some r->∀vs,iQ [.int .i64] x vs->iQ [.bool] r (enUnkn vs r)/\∀c∈(enUnkn vs r).flatMap V.cells,c.bare0:=fun x r _ vs _=>
 ⟨⟨_,_,rfl,⟨rfl,rfl⟩,rfl⟩,fun c hc=>by
  have:c=.bool r:=by simpa[enUnkn,V.cells]using hc
  subst this;trivial⟩
end Go.Proofs.YtgfmodmeimhhpaaDoor
