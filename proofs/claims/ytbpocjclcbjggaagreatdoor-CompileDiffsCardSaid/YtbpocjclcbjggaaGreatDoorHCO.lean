/- Walked by hand: slices.Grow from nil, slices.Concat, at members. -/
import Derived.Test.YtbpocjclcbjggaaGreatDoorDQ
namespace Go.Proofs.YtbpocjclcbjggaaGreatDoor
open Go.RowKit Go.Lib Go.VM
theorem info_m:(Tryz.prog.info? 39).map (fun i=>(i.zero,i.size,i.bytes))=some (some (.agg #[.int .i64 0,.string ⟨#[]⟩,.string ⟨#[]⟩,.int .i64 0,.int .i64 0,.slice none 0 0]),6,80):=by kernel_rfl
/-- Room for n. -/
theorem app_make(W:World)(n:Nat)(hn:n<=100000)(h0:0<n)(ty:TypeId):∃v' w',(Builtin.append_ #[28,3] ty #[.slice none 0 0,.int .i64 n]).run Tryz.prog W=.ok v' w'/\∃cap cur,v'=.slice (some ⟨W.heap.size,0,none⟩) n cap/\w'=W.drew.alloc (.cells cur 39)/\n<=cap/\cap<=maxLen/\cur.size=cap*6:=by
 obtain⟨i,hi,hz,hs,hb⟩:=info_parts info_m;have hg:=grownCap_ge W n 0 39;have hm:grownCap W n 0 39<=maxLen:=grownCap_le_maxLen W n 0 39 (by unfold maxLen;omega);have hrun:=run_append_out (P:=Tryz.prog) (w:=W) (ty:=ty) (t:=28) (u:=3) (e:=39) Tryz.underlying28 Tryz.underlying3 hi hz (b:=none) (n:=0) (cap:=0) (m:=n) (x:=.int .i64 n) (olds:=[]) (news:=(Builtin.zeroCells (Value.agg #[.int .i64 0,.string ⟨#[]⟩,.string ⟨#[]⟩,.int .i64 0,.int .i64 0,.slice none 0 0]).cells n).toList) aDi (.inr ⟨_,_,rfl,rfl,hz,rfl,by rw[hs];rfl,by omega,by omega,by rw[hb];omega⟩) (by omega) (by omega) (by rw[hb];omega);rw[Nat.zero_add]at hrun;refine⟨_,_,hrun,_,_,rfl,rfl,hg,hm,?_⟩;simp only[Array.size_append,List.size_toArray,Array.length_toList,size_zeroCells,List.length_nil];show 0+n*6+(grownCap W n 0 39-n)*6=_;omega
def GrPost(w:World)(n:Nat)(r:Ending)(w':World):Prop:=∃v',r=.returned v'/\w'.ownsRow w.heap.size 39 6 v' 0 []/\Below w.heap.size w w'/\(n=0->v'=.slice none 0 0)
set_option maxHeartbeats 4000000 in
set_option maxRecDepth 100000 in
theorem grow_walk(n:Nat)(hn:n<=100000)(w:World):Calls Tryz.prog 137 #[.slice none 0 0,.int .i64 n] w (GrPost w n):=by
 by_cases h0:n=0
 .subst h0;have e1:¬((0:Nat):Int)<0:=by omega
  have e2:IntKind.i64.wrap (((0:Nat):Int)-0)=0:=by decide
  go_enter Tryz.func137,Tryz.ntmps137
  go_wp2
  go_ret
  exact⟨_,rfl,World.ownsRow_nil _ _ _ _,Below.refl _ _,fun _=>rfl⟩
 .have e1:¬(n:Int)<0:=by omega
  have e2:IntKind.i64.wrap (0-0)=0:=by decide
  have e3:IntKind.i64.wrap ((n:Int)-0)=n:=by rw[IntKind.wrap_i64];omega
  have e4:(n:Int)>0:=by omega
  have H:Aside (∀W ty,∃v' w',(Builtin.append_ #[28,3] ty #[.slice none 0 0,.int .i64 n]).run Tryz.prog W=.ok v' w'/\_):=fun W ty=>app_make W n hn (by omega) ty
  go_enter Tryz.func137,Tryz.ntmps137
  go_wp2_with (at_builtin;refine wpList_append_ex (by rfl) _ _ 28 3 (by rfl) _ _ (by rfl) (by rfl) (H.out _ _) ?_;rintro v7 w7 ⟨cap,cur,rfl,rfl,q1,q2,q3⟩)
  go_ret
  refine⟨_,rfl,⟨rfl,.inr ⟨w.heap.size,cap,cur,rfl,Nat.le_refl _,heap_alloc_new w.drew _,Nat.zero_le _,q2,q3,by simp⟩⟩,?_,fun h=>absurd h h0⟩;exact(show Below w.heap.size w w.drew from⟨rfl,rfl,rfl,Nat.le_refl _,fun _ _=>rfl⟩).alloc (Nat.le_refl _) _
def sumK(K:Nat->Nat):Nat->Nat
 |0=>0
 |i+1=>sumK K i+K i
def catR(R:Nat->List Value):Nat->List Value
 |0=>[]
 |i+1=>catR R i++R i
theorem sumK_le{K:Nat->Nat}{n i:Nat}(h:i<=n):sumK K i<=sumK K n:=by
 induction n with
 | zero => obtain rfl : i = 0 := by omega
           exact Nat.le_refl _
 |succ n ih=>
  by_cases e:i=n+1
  .subst e;exact Nat.le_refl _
  .exact Nat.le_trans (ih (by omega)) (by simp only[sumK];omega)
def CoPost(w:World)(N:Nat)(xs:List Value)(r:Ending)(w':World):Prop:=∃v',r=.returned v'/\w'.ownsRow w.heap.size 39 6 v' N xs/\Below w.heap.size w w'/\(N=0->v'=.slice none 0 0)
structure CoInv(w wr:World)(N:Nat)(v:Value)(k:Nat)(xs:List Value):Prop where
 own:wr.ownsRow w.heap.size 39 6 v k xs
 bel:Below w.heap.size w wr
 nil:N=0->v=.slice none 0 0
set_option maxHeartbeats 8000000 in
set_option maxRecDepth 100000 in
theorem concat_walk(ad:Addr)(n cap:Nat)(U:Nat->Value)(K:Nat->Nat)(R:Nat->List Value)(w:World)(hc:∀i,i<n->w.cell? (ad.add i)=some (U i))(had:n≠0->ad.block<w.heap.size)
  (hU:∀i,i<n->RowAt w 6 (U i) (K i) (R i)) (hN:sumK K n<=100000) (hn:n<=1000) :
  Calls Tryz.prog 110 #[.slice (some ad) n cap] w (CoPost w (sumK K n) (catR R n)):=by
 have e137:∀args w,(callFunc 137 args).run Tryz.prog w=.ok (.enter 137 args) w:=fun args w=>by kernel_rfl
 have HC':Aside (∀i,i<n->w.cell? (ad.add i)=some (U i)):=hc;have HU:Aside (∀i,i<n->RowAt w 6 (U i) (K i) (R i)):=hU;have HN:Aside (sumK K n<=100000):=hN;have HA:Aside (n≠0->ad.block<w.heap.size):=had;clear hc hU hN had
 go_enter Tryz.func110,Tryz.ntmps110
 go_wp2
 go_loopg [3,11] n (fun gg s3 s11 wr=>∃i:Nat,s3=.int .i64 (sumK K i:Nat)/\s11=.int .i64 i/\i<=n/\n-i<=gg/\w=wr)
 case atStart=>exact⟨0,rfl,rfl,by omega,by omega,rfl⟩
 case round=>
  obtain⟨i,rfl,rfl,hin,hgg,rfl⟩:=hrel;by_cases hlt:i<n
  .have hltz:(i:Int)<(n:Int):=by omega
   have l0:=HC'.out i hlt;obtain⟨o,c,hu⟩:=(HU.out i hlt).shape;rw[hu]at l0;have h1:=sumK_le (K:=K) (show i+1<=n from hlt);have h2:=HN.out;have h3:sumK K (i+1)=sumK K i+K i:=rfl;have hw1:IntKind.i64.wrap (((sumK K i:Nat):Int)+((K i:Nat):Int))=((sumK K (i+1):Nat):Int):=by rw[IntKind.wrap_i64,h3];omega
   have hn1:¬((sumK K (i+1):Nat):Int)<0:=by omega
   clear h1 h2 h3 hu
   go_wp2
   go_roundg (n-(i+1))
   case measure=>omega
   case rel=>exact⟨i+1,rfl,by go_num,by omega,by omega,rfl⟩
  .obtain rfl:i=n:=by omega
   have hltz:¬(i:Int)<(i:Int):=by omega
   have hG:=grow_walk (sumK K i) HN.out w
   go_wp2_with ((go_at_fn 137;refine hG.mono ?_;rintro r w2 ⟨v2,rfl,ho2,hb2,hn2⟩;have K2:=Lib.hid (CoInv.mk ho2 hb2 hn2);clear ho2 hb2 hn2))
   go_loopg [6,27] i (fun gg s6 s27 wr=>∃(v:Value) (j:Nat),v=s6/\s27=.int .i64 j/\j<=i/\i-j<=gg/\Aside (CoInv w wr (sumK K i) v (sumK K j) (catR R j)))
   case atStart=>exact⟨_,0,rfl,rfl,by omega,by omega,(show Aside _ from K2.out)⟩
   case round=>
    obtain⟨v,j,rfl,rfl,hjn,hgg,I⟩:=hrel;by_cases hlt:j<i
    .have hltz:(j:Int)<(i:Int):=by omega
     have l0:=HC'.out j hlt;have l0:wr.cell? (ad.add j)=some (U j):=by
      rw[World.cell?_of_block (w:=w) (by rw[bM];exact I.out.bel.block _ (HA.out (by omega)))];exact l0
     obtain⟨o,c,hu⟩:=(HU.out j hlt).shape;have HP:Aside (∀ty,∃v7 w7,(Builtin.append_ #[28,28] ty #[v,.slice o (K j) c]).run Tryz.prog wr=.ok v7 w7/\CoInv w w7 (sumK K i) v7 (sumK K (j+1)) (catR R (j+1))):=fun ty=>by
      have h1:=sumK_le (K:=K) (show j+1<=i from hlt);have h2:=HN.out;have h3:sumK K (j+1)=sumK K j+K j:=rfl;obtain⟨v7,w7,q1,q2,q3,q4,q5⟩:=app_own (P:=Tryz.prog) wr w.heap.size 28 ty 39 _ 6 80 Tryz.underlying28 info_m rfl (by omega) I.out.own (RowAt.below I.out.bel (HU.out j hlt)) (by unfold maxLen;omega) (by omega) I.out.bel.size;rw[hu]at q1;refine⟨v7,w7,q1,q2,I.out.bel.grown q3 I.out.bel.size fun k hk=>(World.ownsRow.lt I.out.own k hk).1,fun h0=>q4.2 ⟨I.out.nil h0,by omega⟩⟩
     rw[hu]at l0;clear hu
     go_wp2_with (at_builtin;refine wpList_append_ex (by rfl) _ _ 28 28 (by rfl) _ _ (by rfl) (by rfl) (HP.out _) ?_;rintro v7 w7 hp7;have K7:=Lib.hid hp7;clear hp7)
     go_roundg (i-(j+1))
     case measure=>omega
     case rel=>exact⟨_,j+1,rfl,by go_num,by omega,Nat.le_refl _,(show Aside _ from K7.out)⟩
    .obtain rfl:j=i:=by omega
     have hltz:¬(j:Int)<(j:Int):=by omega
     go_wp2
     go_ret
     exact⟨_,rfl,I.out.own,I.out.bel,I.out.nil⟩
end Go.Proofs.YtbpocjclcbjggaaGreatDoor
