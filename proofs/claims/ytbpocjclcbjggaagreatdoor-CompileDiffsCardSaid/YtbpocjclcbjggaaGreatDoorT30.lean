/- From what a row lists to what is known of the world. -/
import Derived.Test.YtbpocjclcbjggaaGreatDoorMC
import Derived.LaidSub
import Derived.Lay
namespace Go.VM
open Go.RowKit
def tabTyB(P:Program)(name:String)(k:IntKind):Bool:=match P.globalNamed name with
 |some g=>match(P.globals[g]?).map (·.type)with
  |some t=>match P.underlying t with
   |some (.array n e)=>(match P.underlying e with|some (.int k')=>decide (k'=k)|_=>false)&&(decide (P.cellsOf e=1)&&decide (P.cellsOf t=n))
   |_=>false
  |none=>false
 |none=>false
def sentTyB(P:Program)(name:String):Bool:=match P.globalNamed name with
 |some g=>match(P.globals[g]?).map (·.type)with
  |some t=>match P.underlying t with
   |some (.interface _)=>true
   |_=>false
  |none=>false
 |none=>false
theorem tab_of_laid{P:Program}{W:World}{l:List (String×DataW Unit)}{name:String}{k:IntKind}{zs:List Int}(hL:laidMet P l W)(hty:tabTyB P name k=true)(he:l.filter (fun x=>x.1==name)=[(name,Lib.tabData k zs)]):Lib.TabIs P W name k zs:=by
 have h:=hL.filter (fun x=>x.1==name);rw[he]at h;unfold tabTyB at hty;split at hty
 .rename_i g hg;split at hty
  .rename_i t ht;split at hty
   .rename_i n e hu;split at hty
    .rename_i k' hk;simp only[Bool.and_eq_true,decide_eq_true_eq]at hty;obtain⟨rfl,h1,h2⟩:=hty;exact Lib.tabIs_of_head hg ht hu hk h1 h2 h
    .simp at hty
   .cases hty
  .cases hty
 .cases hty
theorem sent_of_laid{P:Program}{W:World}{l:List (String×DataW Unit)}{name nm:String}{d:DataW Unit}(hL:laidMet P l W)(hty:sentTyB P name=true)(he:l.filter (fun x=>x.1==name)=[(name,.iface nm d)]):∃tp p,W.var? P name=some #[.iface tp p]:=by
 have h:=hL.filter (fun x=>x.1==name);rw[he]at h;obtain⟨ps,⟨g0,t0,cs0,f0,p0,q0,hg0,ht0,hv0,hd0,_,_⟩,_⟩:=h;unfold sentTyB at hty;rw[hg0]at hty;simp only[ht0]at hty;split at hty
 .rename_i ms hu;obtain⟨f1,u,v,hc,_,_⟩:=iface_of_trod hu hd0;obtain⟨l0⟩:=cs0;have hc:l0=[.iface u v]:=hc;subst hc;exact⟨u,v,hv0⟩
 .cases hty
theorem om_of_laid{P:Program}{W:World}{l:List (String×DataW Unit)}{pw er:Bool}{tz:Option (List Int)}(hs:W.ShapedOpen P)(hh:(l.all fun x=>x.2.handleName?.isNone)=true)(hL:laidMetH P l W)
  (h1:pw=true->tabTyB P "internal/strconv.uint64pow10" .u64=true/\l.filter (fun x=>x.1 == "internal/strconv.uint64pow10")=[("internal/strconv.uint64pow10",Lib.tabData .u64 Lib.pow10Tab)])
  (h2:er=true->(sentTyB P "strconv.ErrSyntax" && sentTyB P "strconv.ErrRange")=true/\l.filter (fun x=>x.1 == "strconv.ErrSyntax")=[("strconv.ErrSyntax",.iface "*errors.errorString" (.ptr (.agg [.lit (.string [105,110,118,97,108,105,100,32,115,121,110,116,97,120])])))]/\l.filter (fun x=>x.1 == "strconv.ErrRange")=[("strconv.ErrRange",.iface "*errors.errorString" (.ptr (.agg [.lit (.string [118,97,108,117,101,32,111,117,116,32,111,102,32,114,97,110,103,101])])))])
  (h3:∀z,tz=some z->tabTyB P "math/bits.deBruijn64tab" .u8=true/\l.filter (fun x=>x.1 == "math/bits.deBruijn64tab")=[("math/bits.deBruijn64tab",Lib.tabData .u8 z)]):Om P pw er tz W:=by
 have hL':laidMet P l W:=by
  have h:=(laidMetH_iff.1 hL).1;rw[List.filter_eq_self.2 fun x hx=>List.all_eq_true.1 hh x hx]at h;exact h
 refine⟨hs,fun hp=>tab_of_laid hL' (h1 hp).1 (h1 hp).2,fun he=>?_,fun z hz=>tab_of_laid hL' (h3 z hz).1 (h3 z hz).2⟩;obtain⟨ht,k1,k2⟩:=h2 he;rw[Bool.and_eq_true]at ht;exact⟨sent_of_laid hL' ht.1 k1,sent_of_laid hL' ht.2 k2⟩
end Go.VM
