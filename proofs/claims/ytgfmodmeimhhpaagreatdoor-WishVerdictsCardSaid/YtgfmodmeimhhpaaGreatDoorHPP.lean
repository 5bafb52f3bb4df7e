/- Walked by hand: Prepend. -/
import Derived.Test.YtgfmodmeimhhpaaGreatDoorHPA
namespace Go.Proofs.YtgfmodmeimhhpaaGreatDoor
open Go.RowKit Go.Lib Go.VM
/-- What is asked of the functions that are called. -/
structure CallsOk(w:World):Prop where
 valid:∀(L:List Seg) (v:Value) (W:World),Below w.heap.size w W->Mid L->HV W (fun b=>b<W.heap.size) (.sl tyS) L v->Calls Tryz.prog 83 #[v] W fun e W'=>e=.returned (.bool (pvd L))/\Below W.heap.size W W'
 numb:∀(a:Int) (W:World),Below w.heap.size w W->Calls Tryz.prog 84 #[.int .i64 a] W fun e W'=>e=.returned (.bool (num a))/\Below W.heap.size W W'
 flat:∀(L:List Seg) (v:Value) (W:World),Below w.heap.size w W->Mid L->HV W (fun b=>b<W.heap.size) (.sl tyS) L v->Calls Tryz.prog 72 #[v] W fun e W'=>(∃o c,e=.returned (.slice o (tot L) c))/\Below W.heap.size W W'
/-- What Prepend comes to. -/
def PrPost(w:World)(a:Option Addr)(L:List Seg)(n:Int)(r:Ending)(w':World):Prop:=
 ∃v' vs,r=.returned (.tuple #[v',.int .i64 0])/\Deep w' w.heap.size v' L vs/\(v'=.slice none 0 0↔a=none/\n=0)/\Below w.heap.size w w'
theorem hv_next{w W:World}{L:List Seg}{v:Value}(hv:HV w (fun b=>b<w.heap.size) (.sl tyS) L v)(hb:Below w.heap.size w W):HV W (fun b=>b<W.heap.size) (.sl tyS) L v:=
 ⟨hc_mono (fun b h=>Nat.lt_of_lt_of_le h hb.size) (fun a rows hr hq=>by
  by_cases h0:rows=[]
  .subst h0;intro j u hu;simp at hu
  .exact hr.keep fun j _=>World.cell?_of_block (by rw[bM];exact hb.block _ (hq h0))) hv.1,hv.2⟩
set_option maxHeartbeats 4000000 in
set_option maxRecDepth 100000 in
theorem prep_zero(L:List Seg)(asn:Int)(a:Option Addr)(m cap:Nat)(w:World)(hC:CallsOk w)(hm:Mid L)(hv:HV w (fun b=>b<w.heap.size) (.sl tyS) L (.slice a m cap))(hp:pvd L=true)(hn:num asn=true)(ht:tot L<=64) :
  Calls Tryz.prog 49 #[.slice a m cap,.int .i64 asn,.int .i64 0] w (PrPost w a L 0):=by
 have e83:∀args w,(callFunc 83 args).run Tryz.prog w=.ok (.enter 83 args) w:=fun args w=>by kernel_rfl
 have e84:∀args w,(callFunc 84 args).run Tryz.prog w=.ok (.enter 84 args) w:=fun args w=>by kernel_rfl
 have e72:∀args w,(callFunc 72 args).run Tryz.prog w=.ok (.enter 72 args) w:=fun args w=>by kernel_rfl
 have e88:∀args w,(callFunc 88 args).run Tryz.prog w=.ok (.enter 88 args) w:=fun args w=>by kernel_rfl
 have h83:=hC.valid L _ w (Below.refl _ _) hm hv;have h84:=fun W hb=>hC.numb asn W hb
 have h72:=fun W (hb:Below w.heap.size w W)=>hC.flat L _ W hb hm (hv_next hv hb)
 have h88:=fun W (hb:Below w.heap.size w W)=>owned_ok L a m cap W (hv_next hv hb) (by have:=hm.1;omega) hm.2
 rw[hp]at h83;rw[hn]at h84;have hw64:IntKind.i64.wrap (64-((tot L:Nat):Int))=64-((tot L:Nat):Int):=by rw[IntKind.wrap_i64];omega
 have hc:¬((0:Int)>64-((tot L:Nat):Int)):=by omega
 have H40:Aside _:=h84;have H14:Aside _:=h72;have H42:Aside _:=h88;clear hv h84 h72 h88
 go_enter Tryz.func49,Tryz.ntmps49
 go_wp2_with (first
  |(go_at_fn 83;refine h83.mono ?_;rintro r w1 ⟨rfl,hb⟩;have H1:=Lib.hid hb;clear hb)
  |(go_at_fn 84;refine(H40.out _ H1.out).mono ?_;rintro r w2 ⟨rfl,hb⟩;have H2:=Lib.hid (H1.out.trans (hb.mono H1.out.size));clear hb)
  |(go_at_fn 72;refine(H14.out _ H2.out).mono ?_;rintro r w3 ⟨⟨o,c,rfl⟩,hb⟩;have H3:=Lib.hid (H2.out.trans (hb.mono H2.out.size));clear hb)
  |(go_at_fn 88;refine(H42.out _ H3.out).mono ?_;rintro r w4 ⟨v',vs,rfl,hd,hz,hb⟩;have H4:=Lib.hid (And.intro hd (And.intro hz hb));clear hd hz hb))
 go_ret2
 unfold PrPost;exact⟨_,vs,rfl,H4.out.1.mono H3.out.size,⟨fun h=>⟨H4.out.2.1.1 h,rfl⟩,fun h=>H4.out.2.1.2 h.1⟩,H3.out.trans (H4.out.2.2.mono H3.out.size)⟩
end Go.Proofs.YtgfmodmeimhhpaaGreatDoor
