/- Rows of the call's own; rows that are read; laws at the operation. -/
import Derived.Test.YtbpocjclcbjggaaGreatDoorHMK
import Derived.Laws.OwnMore
import Derived.OwnWalk
import Derived.Laws.NewBlocks
import Derived.Deep.Onto
import Derived.Lib.OwnBridge
import Derived.WalkKit
import Derived.Lib.Hide
import Derived.Maps.AppendAt
import Derived.Maps.OwnOps
import Derived.Deep.LoopGhost
namespace Go.VM
open Go.RowKit
theorem hc_slice{w:World}{Q:Nat->Prop}{t:Ty}{l:List t.den}{u:Value}(h:HC w Q (.sl t) l [u]):(l=[]/\u=.slice none 0 0)\/∃a cap rows,u=.slice (some a) l.length cap/\l.length<=cap/\cap<=maxLen/\Row w a rows/\HRows (HC w Q t) l rows/\(rows≠[]->Q a.block):=by
 rcases h with⟨h1,h2⟩|⟨a,cap,rows,h1,h2,h3,_,h4,h5,h6⟩
 .cases h2;exact .inl ⟨h1,rfl⟩
 .cases h1;exact .inr ⟨a,cap,rows,rfl,h2,h3,h4,h5,h6⟩
theorem hrows_at{α:Type}{R:α->List Value->Prop}{z:Nat}(hz:∀x c,R x c->c.length=z):∀{l:List α} {cs:List Value} {i:Nat} (hi:i<l.length),HRows R l cs->∃c,R l[i] c/\c.length=z/\∀j,j<z->cs[i*z+j]?=c[j]?
 |x::l,_,0,_,⟨c,r,e,h1,h2⟩=>⟨c,h1,hz _ _ h1,fun j hj=>by subst e;rw[Nat.zero_mul,Nat.zero_add,List.getElem?_append_left (by rw[hz _ _ h1];exact hj)]⟩
 |x::l,_,i+1,hi,⟨c,r,e,h1,h2⟩=>by
  obtain⟨d,k1,k2,k3⟩:=hrows_at hz (i:=i) (by simpa using hi) h2;refine⟨d,k1,k2,fun j hj=>?_⟩;subst e;rw[List.getElem?_append_right (by rw[hz _ _ h1,Nat.add_mul];omega),hz _ _ h1,<-k3 j hj];congr 1;rw[Nat.add_mul];omega
/-- What a slice holds,as cells. -/
def RowAt(w:World)(z:Nat)(u:Value)(k:Nat)(xs:List Value):Prop:=xs.length=k*z/\(∀x∈xs,x.oneCell'=true)/\((u=.slice none 0 0/\k=0)\/∃a c,u=.slice (some a) k c/\k<=c/\c<=maxLen/\Row w a xs/\(xs≠[]->a.block<w.heap.size))
theorem RowAt.shape{w:World}{z k:Nat}{u:Value}{xs:List Value}(h:RowAt w z u k xs):∃o c,u=.slice o k c:=by
 rcases h.2.2 with⟨h1,h2⟩|⟨a,c,h1,_⟩
 .subst h2;exact⟨_,_,h1⟩
 .exact⟨_,_,h1⟩
theorem row_below{w w':World}{B:Nat}(hb:Below B w w'){a:Addr}{xs:List Value}(h:Row w a xs)(hq:xs≠[]->a.block<B):Row w' a xs:=by
 by_cases h0:xs=[]
 .subst h0;intro j u hu;simp at hu
 .exact h.keep fun j _=>World.cell?_of_block (by rw[bM];exact hb.block _ (hq h0))
theorem RowAt.below{w w':World}(hb:Below w.heap.size w w'){z k:Nat}{u:Value}{xs:List Value}(h:RowAt w z u k xs):RowAt w' z u k xs:=
 ⟨h.1,h.2.1,h.2.2.imp id fun⟨a,c,h1,h2,h3,h4,h5⟩=>⟨a,c,h1,h2,h3,row_below hb h4 h5,fun h0=>Nat.lt_of_lt_of_le (h5 h0) hb.size⟩⟩
theorem hc_one{w:World}{Q:Nat->Prop}:∀{t:Ty} {x:t.den} {cs:List Value},HC w Q t x cs->∀u∈cs,u.oneCell'=true
 |.unit,_,_,h,u,hu=>by cases h;cases hu
 |.bool,_,_,h,u,hu=>by cases h;rw[List.mem_singleton.1 hu];rfl
 |.int _,_,_,h,u,hu=>by cases h;rw[List.mem_singleton.1 hu];rfl
 |.str,_,_,⟨_,h,_⟩,u,hu=>by subst h;rw[List.mem_singleton.1 hu];rfl
 |.err,_,_,h,u,hu=>by rcases h with⟨_,h⟩|⟨_,_,_,h⟩<;>(subst h;rw[List.mem_singleton.1 hu];rfl)
 |.sl _,_,_,h,u,hu=>by rcases h with⟨_,h⟩|⟨_,_,_,h,_⟩<;>(subst h;rw[List.mem_singleton.1 hu];rfl)
 |.st t,_,_,h,u,hu=>hc_one (t:=t) h u hu
 |.pair a b,_,_,⟨c,d,h,h1,h2⟩,u,hu=>by subst h;exact(List.mem_append.1 hu).elim (hc_one h1 u) (hc_one h2 u)
 |.av _ _,_,_,⟨_,h2⟩,u,hu=>by subst h2;obtain⟨i,_,rfl⟩:=List.mem_map.1 hu;rfl
 |.fn _,_,_,h,u,hu=>by cases h;rw[List.mem_singleton.1 hu];rfl
theorem hrows_one{w:World}{Q:Nat->Prop}{t:Ty}:∀{l:List t.den} {cs:List Value},HRows (HC w Q t) l cs->∀u∈cs,u.oneCell'=true
 |[],_,h,u,hu=>by cases h;cases hu
 |_::_,_,⟨c,r,e,h1,h2⟩,u,hu=>by subst e;exact(List.mem_append.1 hu).elim (hc_one h1 u) (hrows_one h2 u)
theorem hc_rowAt{w:World}{t:Ty}{l:List t.den}{u:Value}(h:HC w (fun b=>b<w.heap.size) (.sl t) l [u]):∃xs,RowAt w t.size u l.length xs/\HRows (HC w (fun b=>b<w.heap.size) t) l xs:=by
 rcases hc_slice h with⟨h1,h2⟩|⟨a,cap,rows,h1,h2,h3,h4,h5,h6⟩
 .subst h1;exact⟨[],⟨by simp,fun x hx=>(by cases hx),.inl ⟨h2,rfl⟩⟩,rfl⟩
 .exact⟨rows,⟨hrows_len (fun x c hx=>hc_len hx) h5,hrows_one h5,.inr ⟨a,cap,h1,h2,h3,h4,h6⟩⟩,h5⟩
/-- Behind a row of the call's own. -/
theorem app_own{P:Program}(w:World)(base:Nat)(t ty e:TypeId)(z:Value)(size bytes:Nat)(ht:P.underlying t=some (.slice e))(hi:(P.info? e).map (fun i=>(i.zero,i.size,i.bytes))=some (some z,size,bytes))(hzs:z.cells.size=size)(hsz:0<size)
  {v:Value} {n:Nat} {xs:List Value} (hown:w.ownsRow base e size v n xs) {u:Value} {k:Nat} {news:List Value} (hr:RowAt w size u k news) (h63:n+k<=maxLen) (hbytes:(n+k)*bytes<=140737488355328) (hbase:base<=w.heap.size) :
  ∃v' w',(Builtin.append_ #[t,t] ty #[v,u]).run P w=.ok v' w'/\w'.ownsRow base e size v' (n+k) (xs++news)/\w.grownBy w' v.ownBlock/\(v'=.slice none 0 0↔v=.slice none 0 0/\k=0)/\(v'.ownBlock=v.ownBlock\/v'.ownBlock=some w.heap.size):=by
 obtain⟨i,hi,hz,hs,hby⟩:=info_parts hi;rcases hr.2.2 with⟨rfl,rfl⟩|⟨a,c,rfl,_,_,h4,_⟩
 .have hx:news=[]:=List.eq_nil_of_length_eq_zero (by simpa using hr.1);subst hx;refine⟨v,w,run_append_owned_none w base t ty e i size ht hi v n xs hown,by simpa using hown,⟨rfl,rfl,rfl,Nat.le_refl _,fun _ _ _=>rfl⟩,by simp,.inl rfl⟩
 .exact run_append_own_at w base t ty e i z size bytes ht hi hz hs hby hzs hsz v n xs hown a k c news hr.1 (fun j u hj=>h4 j u hj) hr.2.1 h63 hbytes hbase
theorem wpList_append_ex{P:Program}{ops:Array Oper}{rest:List Oper}{o:Oper}{a:Act}{w:World}{Q:Exit->Act->World->Prop}{aJE:Value->World->Prop}(hgd:o.guard=none)(s x:Operand)(t u:TypeId)
  (ho:o.op=.call {callee:=.builtin .append,args:=#[s,x],argTypes:=#[t,u]}) (v y:Value) (hs:a.eval s=v) (hx:a.eval x=y)
  (hr:∃v' w',(Builtin.append_ #[t,u] o.type #[v,y]).run P w=.ok v' w'/\aJE v' w') (h:∀v' w',aJE v' w'->wpList P ops Q rest (a.put o.dst v') w'):wpList P ops Q (o::rest) a w:=
 wpList_plain hgd fun _ hK=>by
  obtain⟨v',w',hr,hp⟩:=hr;unfold Oper.wp execOp;simp only[ho,resolve,invoke,builtin,Sem.run_bind,Sem.run_pure,Result.andThen_ok,List.map_toArray,List.map_cons,List.map_nil,hs,hx,hr];exact hK _ _ (h v' w' hp)
theorem wpList_put_ex{P:Program}{ops:Array Oper}{rest:List Oper}{o:Oper}{a:Act}{w:World}{Q:Exit->Act->World->Prop}{aJE:World->Prop}(hgd:o.guard=none)(m x y:Operand)(t:TypeId)
  (ho:o.op=.mapUpdate t m x y) (vm vx vy:Value) (hm:a.eval m=vm) (hx:a.eval x=vx) (hy:a.eval y=vy)
  (hr:∃w',(Instr.mapUpdate t vm vx vy).run P w=.ok () w'/\aJE w') (h:∀w',aJE w'->wpList P ops Q rest (a.put o.dst undef) w'):wpList P ops Q (o::rest) a w:=by
 refine wpList_plain hgd fun K' hK'=>?_
 obtain⟨w',hr,hp⟩:=hr;unfold Oper.wp;simp[execOp,ho,hm,hx,hy,hr,Result.andThen];exact hK' _ _ (h w' hp)
end Go.VM
