/- Walked by hand: Strip, as an entry of the table. -/
import Derived.Test.YtgfmodmeimhhpaaDoorJC
namespace Go.VM
open Go.RowKit
variable{Ω:World->Prop}
theorem Start.weak{G:Gh}{w:World}{vs:List V}{cs:List Value}{bx:BX}(hs:Start Ω G w vs cs bx):Start (fun _=>True) G w vs cs bx:=
 ⟨⟨hs.ok.lt,hs.ok.famU,hs.ok.famC,hs.ok.rgU,hs.ok.low,fun _ _=>trivial⟩,hs.norg,hs.fam,hs.args,hs.boxes⟩
theorem attr_words{a:Attrs}{cs:List V}(h:bP tyAttr a cs):∃p c l o,cs=[.int .i64 a.1,p,.bool a.2.2.1.1,.int .u64 a.2.2.1.2.1,.int .u64 a.2.2.1.2.2,.int .i64 a.2.2.2.1,.int .i64 a.2.2.2.2.1,.int .i64 a.2.2.2.2.2.1,c,l,o]/\
  bP (.sl tySg) a.2.1 [p]/\bP (.sl tyCm) (aComm a) [c]/\bP (.sl tyLg) (aLarge a) [l]/\bP (.sl tyUn) (aOther a) [o]:=by
 obtain⟨x0,y0,rfl,h0,x1,y1,rfl,h1,x2,y2,rfl,⟨z0,z1,rfl,k0,z2,z3,rfl,k1,k2⟩,x3,y3,rfl,h3,x4,y4,rfl,h4,x5,y5,rfl,h5,x6,y6,rfl,h6,x7,y7,rfl,h7,h8⟩:=h;have h0:x0=[.int .i64 a.1]:=h0;have k0:z0=[.bool a.2.2.1.1]:=k0;have k1:z2=[.int .u64 a.2.2.1.2.1]:=k1;have k2:z3=[.int .u64 a.2.2.1.2.2]:=k2;have h3:x3=[.int .i64 a.2.2.2.1]:=h3;have h4:x4=[.int .i64 a.2.2.2.2.1]:=h4;have h5:x5=[.int .i64 a.2.2.2.2.2.1]:=h5;subst h0;subst k0;subst k1;subst k2;subst h3;subst h4;subst h5;have one:∀{t:Ty} {x:(Ty.sl t).den} {l:List V},bP (.sl t) x l->∃v,l=[v]:=fun{t x l} h=>by rcases h with⟨rfl,_⟩|⟨lb,rs,rfl,_⟩<;>exact⟨_,rfl⟩
 obtain⟨p,rfl⟩:=one h1;obtain⟨c,rfl⟩:=one h6;obtain⟨l,rfl⟩:=one h7;obtain⟨o,rfl⟩:=one h8;exact⟨p,c,l,o,rfl,h1,h6,h7,h8⟩
theorem attr_cells{w:World}{base:Nat}{Q:Nat->Prop}{a:Attrs}{cs:List Value}(h:HCX w base Q tyAttr a cs):∃p c l o,cs=[.int .i64 a.1,p,.bool a.2.2.1.1,.int .u64 a.2.2.1.2.1,.int .u64 a.2.2.1.2.2,.int .i64 a.2.2.2.1,.int .i64 a.2.2.2.2.1,.int .i64 a.2.2.2.2.2.1,c,l,o]/\
  HCX w base Q (.sl tySg) a.2.1 [p]/\HCX w base Q (.sl tyCm) (aComm a) [c]/\HCX w base Q (.sl tyLg) (aLarge a) [l]/\HCX w base Q (.sl tyUn) (aOther a) [o]:=by
 obtain⟨x0,y0,rfl,h0,x1,y1,rfl,h1,x2,y2,rfl,⟨z0,z1,rfl,k0,z2,z3,rfl,k1,k2⟩,x3,y3,rfl,h3,x4,y4,rfl,h4,x5,y5,rfl,h5,x6,y6,rfl,h6,x7,y7,rfl,h7,h8⟩:=h;have h0:x0=[.int .i64 a.1]:=h0;have k0:z0=[.bool a.2.2.1.1]:=k0;have k1:z2=[.int .u64 a.2.2.1.2.1]:=k1;have k2:z3=[.int .u64 a.2.2.1.2.2]:=k2;have h3:x3=[.int .i64 a.2.2.2.1]:=h3;have h4:x4=[.int .i64 a.2.2.2.2.1]:=h4;have h5:x5=[.int .i64 a.2.2.2.2.2.1]:=h5;subst h0;subst k0;subst k1;subst k2;subst h3;subst h4;subst h5;have one:∀{t:Ty} {x:(Ty.sl t).den} {l:List Value},HCX w base Q (.sl t) x l->∃v,l=[v]:=fun{t x l} h=>by rcases h with⟨_,rfl⟩|⟨_,_,_,_,_,rfl,_⟩<;>exact⟨_,rfl⟩
 obtain⟨p,rfl⟩:=one h1;obtain⟨c,rfl⟩:=one h6;obtain⟨l,rfl⟩:=one h7;obtain⟨o,rfl⟩:=one h8;exact⟨p,c,l,o,rfl,h1,h6,h7,h8⟩
theorem hcx_sl{w:World}{base:Nat}{Q:Nat->Prop}{t:Ty}{l:(Ty.sl t).den}{v:Value}(h:HCX w base Q (.sl t) l [v]):∃o n c,v=.slice o n c/\n=List.length l:=by rcases h with⟨rfl,e⟩|⟨_,_,_,_,_,e,_⟩<;>cases e<;>exact⟨_,_,_,rfl,rfl⟩
def rowW(z:Nat)(u:V)(n:Nat)(ws:List V):V:=match u with
 |.nils=>.nils|_=>.sl .none z n ws
end Go.VM
namespace Go.Proofs.YtgfmodmeimhhpaaDoor
open Go.RowKit Go.Lib Go.VM
theorem rowIs_of{w:World}{base z:Nat}{Q:Nat->Prop}{t:Ty}{l:(Ty.sl t).den}{o:Option Addr}{n c:Nat}{rows:List Value}(hz:t.size=z)(h:HCX w base Q (.sl t) l [.slice o n c])(hr:∀rs,HRows (HC w Q t) l rs->rs=rows):RowIs w z o n c rows/\∀g,blkOf o=some g->base<=g/\g<w.heap.size:=by rcases h with⟨rfl,e⟩|⟨g,cap,cur,te,fr,e,h1,h2,h3,h4,h5,h6,h7,h8⟩;cases e;exact⟨.inl ⟨rfl,rfl,rfl,(hr [] rfl).symm⟩,fun g hg=>by cases hg⟩;cases e;refine⟨.inr ⟨g,cur,te,fr,rfl,h2,h3,h4,h5,by rw[<-hz];exact h7,by rw[<-hz];exact hr _ h8⟩,fun g' hg=>?_⟩;cases hg;exact⟨h1,(Array.getElem?_eq_some_iff.1 h2).1⟩
theorem rowIs_rel{G:Gh}{w W:World}{z n d:Nat}{co:Option Addr}{rows:List Value}{ws:List V}{u:V}(h:RowIs W z co n d rows)(hz:0<z)(hb:∀g,blkOf co=some g->w.heap.size<=g)(hw:∀A B,RelL W A B ws rows)(hn:aC ws=[])(hl:rows.length=n*z)(hu:u=.nils↔co=none):Rel W (Abk G w W) G.bxB (rowW z u n ws) (.slice co n d):=by
 rcases h with⟨rfl,rfl,rfl,h2⟩|⟨g,cur,e,fr,rfl,h2,h3,h4,h5,h6,h7⟩;rw[hu.2 rfl];exact .nils;have hne:u≠.nils:=fun e=>by have:=hu.1 e;cases this
 have e1:rowW z u n ws=.sl .none z n ws:=by cases u<;>first|rfl|exact absurd rfl hne
 rw[e1];have hlt:=hb g rfl;have hle:rows.length<=cur.size:=by rw[hl,h6];exact Nat.mul_le_mul_right _ h4
 refine .sl .none z n ws ⟨g,0,none⟩ d rows (.inr (.inl ⟨cur.size,?_,by simpa using hle⟩)) hz hl h4 h5 (fun j v hj=>?_) (hw _ _) hn;simp only[aEM,if_neg (Nat.not_lt.2 hlt),h2];rw[Addr.add_lit,Nat.zero_add];simp only[World.cell?,h2];rw[<-h7,List.getElem?_take]at hj;split at hj;simpa using hj;cases hj
noncomputable def enStrip(vs:List V)(r:Attrs):List V:=match call Z.FT 100012 52 (vs.drop 1) []with
 |some (.agg us,_)=>[.agg [.int .i64 r.1,(us.getD 1 .undef).mapLab1 fun _=>.none,.bool r.2.2.1.1,.int .u64 r.2.2.1.2.1,.int .u64 r.2.2.1.2.2,.int .i64 r.2.2.2.1,.int .i64 r.2.2.2.2.1,.int .i64 r.2.2.2.2.2.1,rowW 2 (us.getD 8 .undef) (aComm r).length (cmW (aComm r)),rowW 3 (us.getD 9 .undef) (aLarge r).length (lgW (aLarge r)),(us.getD 10 .undef).mapLab1 fun _=>.none]]|_=>[]
theorem z52:wZ ⟨[.d tyAttr],[(tyAttr,[(1,true),(8,true),(9,true),(10,true)])],none⟩ [] (call Z.FT 100012 52) (nfN Z.TN 100012 52):=by have h:=Z.typed 100012 52;unfold aF7 at h;rw[Z.sigOk 52]at h;exact h
theorem attr_cl(i:Nat)(hi:i<tyAttr.size):dU [(1,true),(8,true),(9,true),(10,true)] i=some true\/∀(x:tyAttr.den) cs,bP tyAttr x cs->∀l z m ds,cs[i]?≠some (.sl l z m ds):=by
 have hi:i<11:=hi;have:i=1\/i=8\/i=9\/i=10\/(i≠1/\i≠8/\i≠9/\i≠10):=by omega
 rcases this with rfl|rfl|rfl|rfl|⟨h1,h2,h3,h4⟩;exact .inl rfl;exact .inl rfl;exact .inl rfl;exact .inl rfl;right;intro x cs h l z m ds;obtain⟨p,c,g,o,rfl,_⟩:=attr_words h
 match i,hi,h1,h2,h3,h4 with
 |0,_,_,_,_,_=>simp|2,_,_,_,_,_=>simp|3,_,_,_,_,_=>simp|4,_,_,_,_,_=>simp|5,_,_,_,_,_=>simp|6,_,_,_,_,_=>simp|7,_,_,_,_,_=>simp|1,_,h1,_,_,_=>exact absurd rfl h1|n+8,hi,_,h2,h3,h4=>exfalso;omega
theorem give52{a:Attrs}(h:SmA a){v1:V}(hv:gP tyAttr a v1)(hb:∀u∈v1.cells,u.bare0):∃us,call Z.FT 100012 52 [v1] []=some (.agg us,[])/\bP tyAttr a us/\(∀u∈us,ownC u)/\
  ∀ {G:Gh} {w:World} {vs:List V} {cs:List Value} {bx:BX},VM.Start (fun _=>True) G w vs cs bx→∀ c1,Rel w (A0 G w) G.bxB v1 c1→∀ (W:World),Below w.heap.size w W →
    Calls Tryd.prog 52 #[c1] W fun e W1=>∃c Q,e=.returned c/\Below W.heap.size W W1/\Given G w W W1 tyAttr a (.agg us) c Q:=by
 obtain⟨v0,k1,k2,k3,k4⟩:=calls_give (P:=Tryd.prog) Z.tableOk (f:=52) rfl z52 (fun p hp=>by simp at hp;exact⟨_,hp⟩) (by decide) rfl attr_cl (x:=a) (r:=a) (Z.clone_ok h (show 100010<=100011 by omega)) (vs0:=[v1]) ⟨v1,[],rfl,hv,rfl⟩ (by simpa using hb);have k2:gP tyAttr a v0:=k2;obtain⟨us,rfl⟩:∃us,v0=.agg us:=by have:=k2.2;cases v0<;>first|exact⟨_,rfl⟩|cases this
 refine⟨us,k1,k2.1,k3,fun{G w vs cs bx} hs c1 h1 W hW=>?_⟩;exact k4 hs [c1] (.cons _ _ _ _ h1 .nil) W hW
theorem cmW_names(l:List (Int×Int)):aC (cmW l)=[]:=by simp[cmW,cW];rintro v x y z h rfl h2;simp at h2;rcases h2 with rfl|rfl<;>rfl
theorem cmC_len:∀l:List (Int×Int),(cmC l).flatten.length=l.length*2
 |[]=>rfl|c::l=>by have:=cmC_len l;simp only[cmC,List.map_cons,List.flatten_cons,List.length_append,List.length_cons,List.length_nil]at this ⊢;omega
theorem lgW_names(l:List (Int×Int×Int)):aC (lgW l)=[]:=by simp[lgW,cW];rintro v x y z u h rfl h2;simp at h2;rcases h2 with rfl|rfl|rfl<;>rfl
theorem lgC_len:∀l:List (Int×Int×Int),(lgC l).flatten.length=l.length*3
 |[]=>rfl|c::l=>by have:=lgC_len l;simp only[lgC,List.map_cons,List.flatten_cons,List.length_append,List.length_cons,List.length_nil]at this ⊢;omega
theorem enStrip_eq{o:V}{us ws:List V}{r:Attrs}(k1:call Z.FT 100012 52 [.agg us] []=some (.agg ws,[])):enStrip [o,.agg us] r=[.agg [.int .i64 r.1,(ws.getD 1 .undef).mapLab1 fun _=>.none,.bool r.2.2.1.1,.int .u64 r.2.2.1.2.1,.int .u64 r.2.2.1.2.2,.int .i64 r.2.2.2.1,.int .i64 r.2.2.2.2.1,.int .i64 r.2.2.2.2.2.1,rowW 2 (ws.getD 8 .undef) (aComm r).length (cmW (aComm r)),rowW 3 (ws.getD 9 .undef) (aLarge r).length (lgW (aLarge r)),(ws.getD 10 .undef).mapLab1 fun _=>.none]]:=by unfold enStrip;rw[show([o,V.agg us].drop 1)=[.agg us]from rfl,k1]
theorem enStrip_flat{o:V}{us ws:List V}{a r:Attrs}{v:V}(k1:call Z.FT 100012 52 [.agg us] []=some (.agg ws,[]))(k2:bP tyAttr a ws)(hv:v∈enStrip [o,.agg us] r):aN v=false/\v.flat=true/\∀xs,v≠.tup xs:=by
 rw[enStrip_eq k1,List.mem_singleton]at hv;clear k1;obtain⟨p,cc,l,o,rfl,hp,hc,hl,ho⟩:=attr_words k2;clear k2;have one:∀{t:Ty} {x:(Ty.sl t).den} {v:V},bP (.sl t) x [v]->(v.mapLab1 fun _=>Lab.none).single=true/\∀z n ws,(rowW z v n ws).single=true:=fun{t x v} h=>by rcases h with⟨e,_⟩|⟨lb,rs,e,_⟩<;>(cases e;exact⟨rfl,fun _ _ _=>rfl⟩)
 have p1:=(one hp).1;have p2:=fun n ws=>(one hc).2 2 n ws
 have p3:=fun n ws=>(one hl).2 3 n ws
 have p4:=(one ho).1;subst hv;refine⟨rfl,?_,fun xs h=>by cases h⟩;show List.all [_,_,_,_,_,_,_,_,_,_,_] V.single=true;simp only[List.all_cons,List.all_nil,Bool.and_true,List.getD_cons_succ,List.getD_cons_zero,p1,p2,p3,p4,Bool.true_and];rfl
set_option maxRecDepth 100000 in
set_option maxHeartbeats 0 in
theorem primStrip{Ω:World->Prop}:PrimOk Ω Tryd.prog 26 [] (pM [.int .i64,tyAttr] gStrip enStrip):=by
 obtain⟨c,hb⟩:∃c,Tryd.f26.body=some c:=⟨_,rfl⟩;have split:∀(x:Int×Attrs) (vs:List V),iQ [.int .i64,tyAttr] x vs->∃us,vs=[.int .i64 x.1,.agg us]/\bP tyAttr x.2 us:=by
  rintro⟨own,a⟩ vs ⟨v,vs',rfl,h1,v1,vs2,rfl,h2,h3⟩;have h3:vs2=[]:=h3;subst h3;obtain⟨us,rfl⟩:∃us,v1=.agg us:=by have:=h2.2;cases v1<;>first|exact⟨_,rfl⟩|cases this
  refine⟨us,?_,h2.1⟩;have:=h1.1;have h4:=aG h1;have h5:v.cells=[V.int .i64 own]:=this;have h6:=h1.2;cases v<;>first|(cases h6;done)|simp_all[V.cells]
 refine pM_ok Tryd.func26 hb (by kernel_rfl) (fun vs x r hx hbare hg v hv=>?_) fun x r hg vs hx hbare G w cs bx hs=>?_
 obtain⟨us,rfl,h2⟩:=split x vs hx;unfold gStrip at hg;split at hg;rename_i hsm;obtain⟨ws,k1,k2,_⟩:=give52 (smA_iff.1 hsm) (v1:=.agg us) ⟨h2,rfl⟩ (fun u hu=>hbare u (by simpa using .inr hu));exact enStrip_flat k1 k2 hv;cases hg
 .obtain⟨us,rfl,h2⟩:=split x vs hx;obtain⟨own,a⟩:=x;unfold gStrip at hg;split at hg
  case isFalse=>cases hg
  rename_i hsm;cases hg;have hsm:SmA a:=smA_iff.1 hsm;have h2:bP tyAttr a us:=h2;obtain⟨ws,k1,k2,k3,k4⟩:=give52 hsm (v1:=.agg us) ⟨h2,rfl⟩ (fun u hu=>hbare u (by simpa using .inr hu));have hargs:=hs.args;cases hargs with
  |cons _ c0 _ cs1 r1 r2=>
   obtain⟨c1,rfl,r3⟩:=rel_one r2;have e0:=r1.int_inv;subst e0;obtain⟨xs,rfl,r4⟩:=r3.agg_inv;have r5:=rel_hc h2 r4
   -- the argument's cells
   have hcells:∃(pa:Option Addr) (n1 c1:Nat) (ca:Option Addr) (n2 c2:Nat) (la:Option Addr) (n3 c3:Nat) (oa:Option Addr) (n4 c4:Nat),xs=#[.int .i64 a.1,.slice pa n1 c1,.bool a.2.2.1.1,.int .u64 a.2.2.1.2.1,.int .u64 a.2.2.1.2.2,.int .i64 a.2.2.2.1,.int .i64 a.2.2.2.2.1,.int .i64 a.2.2.2.2.2.1,.slice ca n2 c2,.slice la n3 c3,.slice oa n4 c4]:=by
    obtain⟨p,cc,l,o,rfl,hp,hc,hl,ho⟩:=attr_words h2;have sl:∀{t:Ty} {x:(Ty.sl t).den} {v:V} {u:Value},bP (.sl t) x [v]->Rel w (A0 G w) G.bxB v u->∃o n c,u=.slice o n c:=fun{t x v u} h k=>by rcases h with⟨e,_⟩|⟨lb,rs,e,_⟩;cases e;exact⟨_,_,_,k.nils_inv⟩;cases e;obtain⟨a,cap,xs,e,_⟩:=k.sl_inv;exact⟨_,_,_,e⟩
    obtain⟨l0⟩:=xs;simp only at r4;cases r4 with|cons _ y0 _ z0 q0 r4=>
    cases r4 with|cons _ y1 _ z1 q1 r4=>
    cases r4 with|cons _ y2 _ z2 q2 r4=>
    cases r4 with|cons _ y3 _ z3 q3 r4=>
    cases r4 with|cons _ y4 _ z4 q4 r4=>
    cases r4 with|cons _ y5 _ z5 q5 r4=>
    cases r4 with|cons _ y6 _ z6 q6 r4=>
    cases r4 with|cons _ y7 _ z7 q7 r4=>
    cases r4 with|cons _ y8 _ z8 q8 r4=>
    cases r4 with|cons _ y9 _ z9 q9 r4=>
    cases r4 with|cons _ y10 _ z10 q10 r4=>
    cases r4;obtain⟨a1,b1,d1,e1⟩:=sl hp q1;obtain⟨a8,b8,d8,e8⟩:=sl hc q8;obtain⟨a9,b9,d9,e9⟩:=sl hl q9;obtain⟨a10,b10,d10,e10⟩:=sl ho q10;refine⟨a1,b1,d1,a8,b8,d8,a9,b9,d9,a10,b10,d10,?_⟩;rw[q0.int_inv,e1,q2.bool_inv,q3.int_inv,q4.int_inv,q5.int_inv,q6.int_inv,q7.int_inv,e8,e9,e10]
   obtain⟨pa,n1,c1,ca,n2,c2,la,n3,c3,oa,n4,c4,rfl⟩:=hcells;have hcall:=k4 hs.weak (.agg #[.int .i64 a.1,.slice pa n1 c1,.bool a.2.2.1.1,.int .u64 a.2.2.1.2.1,.int .u64 a.2.2.1.2.2,.int .i64 a.2.2.2.1,.int .i64 a.2.2.2.2.1,.int .i64 a.2.2.2.2.2.1,.slice ca n2 c2,.slice la n3 c3,.slice oa n4 c4]) r3 (W3 w own #[.int .i64 a.1,.slice pa n1 c1,.bool a.2.2.1.1,.int .u64 a.2.2.1.2.1,.int .u64 a.2.2.1.2.2,.int .i64 a.2.2.2.1,.int .i64 a.2.2.2.2.1,.int .i64 a.2.2.2.2.2.1,.slice ca n2 c2,.slice la n3 c3,.slice oa n4 c4]) (w3_below _ _ _);generalize hargs:(#[.int .i64 a.1,.slice pa n1 c1,.bool a.2.2.1.1,.int .u64 a.2.2.1.2.1,.int .u64 a.2.2.1.2.2,.int .i64 a.2.2.2.1,.int .i64 a.2.2.2.2.1,.int .i64 a.2.2.2.2.2.1,.slice ca n2 c2,.slice la n3 c3,.slice oa n4 c4]:Array Value)=args at hcall;have hw3:=w3_size w own args;have hwalk:=strip_walk own a.1 a.2.2.1.2.1 a.2.2.1.2.2 a.2.2.2.1 a.2.2.2.2.1 a.2.2.2.2.2.1 a.2.2.1.1 pa ca la oa n1 c1 n2 c2 n3 c3 n4 c4 (aComm a) (aLarge a) w
    (fun W1 pv cv lv ov=>∃Q,Given G w (W3 w own args) W1 tyAttr a (.agg ws) (.agg #[.int .i64 a.1,pv,.bool a.2.2.1.1,.int .u64 a.2.2.1.2.1,.int .u64 a.2.2.1.2.2,.int .i64 a.2.2.2.1,.int .i64 a.2.2.2.2.1,.int .i64 a.2.2.2.2.2.1,cv,lv,ov]) Q)
    (fun v Wf=>Below w.heap.size w Wf/\RelL Wf (Abk G w Wf) G.bxB (enStrip [.int .i64 own,.agg us] (stripD own a)) [v])
   rw[hargs]at hwalk;refine(hwalk (hcall.mono fun e W1 ⟨c,Q,e1,e2,e3⟩=>?_) fun W1 pv m1 d1 cv m2 d2 lv m3 d3 ov m4 d4 Wf ⟨Q,hG⟩ hcp hbel hkeep hr2 hr3=>⟨hbel,?_⟩).mono fun r W' ⟨v,e1,e2,e3⟩=>⟨[v],e1,e2,e3⟩
   obtain⟨p,cc,l,o,hcs,hp,hc,hl,ho⟩:=attr_cells e3.val;obtain⟨pv,m1,d1,rfl,_⟩:=hcx_sl hp;obtain⟨cv,m2,d2,rfl,hn2⟩:=hcx_sl hc;obtain⟨lv,m3,d3,rfl,hn3⟩:=hcx_sl hl;obtain⟨ov,m4,d4,rfl,_⟩:=hcx_sl ho;have hcc:c=.agg #[.int .i64 a.1,.slice pv m1 d1,.bool a.2.2.1.1,.int .u64 a.2.2.1.2.1,.int .u64 a.2.2.1.2.2,.int .i64 a.2.2.2.1,.int .i64 a.2.2.2.2.1,.int .i64 a.2.2.2.2.2.1,.slice cv m2 d2,.slice lv m3 d3,.slice ov m4 d4]:=by
    have hag:=e3.agg;cases c with
    |agg ys=>congr 1;exact Array.ext' hcs|_=>cases hag
   subst hcc;obtain⟨g1,g2⟩:=rowIs_of (z:=2) rfl hc fun rs h=>cm_rows h
   obtain⟨g3,g4⟩:=rowIs_of (z:=3) rfl hl fun rs h=>lg_rows h
   refine⟨pv,cv,lv,ov,m1,d1,m2,d2,m3,d3,m4,d4,e1,⟨e2,hn2,hn3,hsm.comm,hsm.large,g1,g3,g2,g4,fun g h1 h2=>?_⟩,Q,e3⟩;have b1:∀{o:Option Addr} {z n d:Nat} {rs:List Value},RowIs W1 z o n d rs->blkOf o=some g->o=some ⟨g,0,none⟩:=fun{o z n d rs} h k=>by rcases h with⟨rfl,_⟩|⟨g',_,_,_,rfl,_⟩;cases k;cases k;rfl
   obtain rfl:=b1 g1 h1;obtain rfl:=b1 g3 h2;have:=e3.one 8 9 g m2 d2 m3 d3 rfl rfl;omega;obtain⟨p,cc,l,o,hws,hp,hc,hl,ho⟩:=attr_words k2;have hws:ws=[.int .i64 a.1,p,.bool a.2.2.1.1,.int .u64 a.2.2.1.2.1,.int .u64 a.2.2.1.2.2,.int .i64 a.2.2.2.1,.int .i64 a.2.2.2.2.1,.int .i64 a.2.2.2.2.2.1,cc,l,o]:=hws;have hblk:∀{co:Option Addr} {z n d:Nat} {rs:List Value},RowIs W1 z co n d rs->∀b,blkOf co=some b->co=some ⟨b,0,none⟩:=fun{co z n d rs} h b k=>by rcases h with⟨rfl,_⟩|⟨g',_,_,_,rfl,_⟩;cases k;cases k;rfl
   have hsame : ∀ (i : Nat) (u : Value), i ≠ 8 → i ≠ 9 → (#[Value.int .i64 a.1, .slice pv m1 d1, .bool a.2.2.1.1, .int .u64 a.2.2.1.2.1, .int .u64 a.2.2.1.2.2, .int .i64 a.2.2.2.1, .int .i64 a.2.2.2.2.1, .int .i64 a.2.2.2.2.2.1, .slice cv m2 d2, .slice lv m3 d3, .slice ov m4 d4] : Array Value).toList[i]? = some u → (∀ b, u.ownBlock = some b → ∃ n c, u = .slice (some ⟨b, 0, none⟩) n c ∧ w.heap.size + 3 ≤ b) →
       ∀b,b<W1.heap.size->(Q b\/u.ownBlock=some b)->Wf.heap[b]?=W1.heap[b]?:=fun i u i8 i9 hu hub b hb hq=>by
    refine hkeep b hb ?_ ?_ ?_;rcases hq with hq|hq;rcases hG.mid b hq with h|h;omega;rw[hw3]at h;omega;obtain⟨_,_,_,h⟩:=hub b hq;omega;intro e;have e1:=hblk hcp.r2 b e.symm;rcases hq with hq|hq;exact hG.off 8 b m2 d2 (by rw[e1];rfl) hq;obtain⟨n,c,rfl,_⟩:=hub b hq;exact i8 (hG.one i 8 b n c m2 d2 hu (by rw[e1];rfl));intro e;have e1:=hblk hcp.r3 b e.symm;rcases hq with hq|hq;exact hG.off 9 b m3 d3 (by rw[e1];rfl) hq;obtain⟨n,c,rfl,_⟩:=hub b hq;exact i9 (hG.one i 9 b n c m3 d3 hu (by rw[e1];rfl))
   obtain⟨x1,x8,x9,x10,hcs,y1,y8,y9,y10⟩:=attr_cells hG.val;simp only[Value.cells,List.cons.injEq,and_true,true_and]at hcs;obtain⟨rfl,rfl,rfl,rfl⟩:=hcs;have hub:∀{t:Ty} {x:(Ty.sl t).den} {u:Value},HCX W1 (W3 w own args).heap.size Q (.sl t) x [u]->∀b,u.ownBlock=some b->∃n c,u=.slice (some ⟨b,0,none⟩) n c/\w.heap.size+3<=b:=fun{t x u} h b hb=>by rw[hw3]at h;rcases h with⟨_,e⟩|⟨g,cap,cur,te,fr,e,h1,_⟩;cases e;cases hb;cases e;cases hb;exact⟨_,_,rfl,h1⟩
   have w1:=hG.wds 1 p _ Wf (by rw[hws];rfl) rfl (hsame 1 _ (by omega) (by omega) rfl (hub y1));have w10:=hG.wds 10 o _ Wf (by rw[hws];rfl) rfl (hsame 10 _ (by omega) (by omega) rfl (hub y10));have w8:=hG.wds 8 cc _ W1 (by rw[hws];rfl) rfl fun _ _ _=>rfl
   have w9:=hG.wds 9 l _ W1 (by rw[hws];rfl) rfl fun _ _ _=>rfl
   have hnil:∀{t:Ty} {x:(Ty.sl t).den} {v:V} {co:Option Addr} {n d:Nat},bP (.sl t) x [v]->RelL W1 (Abk G w W1) G.bxB [v.mapLab1 fun _=>Lab.none] [.slice co n d]->(v=.nils↔co=none):=fun{t x v co n d} h k=>by obtain⟨u,e,k⟩:=rel_one k;cases e;rcases h with⟨e,_⟩|⟨lb,rs,e,_⟩;cases e;have:=k.nils_inv;cases this;exact⟨fun _=>rfl,fun _=>rfl⟩;cases e;obtain⟨aa,cap,xs,e,_⟩:=k.sl_inv;cases e;exact⟨fun h=>(by cases h),fun h=>(by cases h)⟩
   have hlow:∀{o:Option Addr},(∀g,blkOf o=some g->(W3 w own _).heap.size<=g/\g<W1.heap.size)->∀g,blkOf o=some g->w.heap.size<=g:=fun h g hg=>by have:=(h g hg).1;rw[hw3]at this;omega
   have f8:=rowIs_rel (G:=G) (w:=w) (ws:=cmW (fil2 own (aComm a))) (u:=cc) hr2 (by omega) (hlow hcp.b2) (fun A B=>cm_rel Wf A B _) (cmW_names _) (cmC_len _) (hnil hc w8);have f9:=rowIs_rel (G:=G) (w:=w) (ws:=lgW (fil3 own (aLarge a))) (u:=l) hr3 (by omega) (hlow hcp.b3) (fun A B=>lg_rel Wf A B _) (lgW_names _) (lgC_len _) (hnil hl w9);obtain⟨_,e1,w1⟩:=rel_one w1;cases e1;obtain⟨_,e1,w10⟩:=rel_one w10;cases e1;rw[enStrip_eq k1];subst hws;exact .cons _ _ _ _ (.agg _ _ (.cons _ _ _ _ (.int _ _) (.cons _ _ _ _ w1 (.cons _ _ _ _ (.bool _) (.cons _ _ _ _ (.int _ _) (.cons _ _ _ _ (.int _ _) (.cons _ _ _ _ (.int _ _) (.cons _ _ _ _ (.int _ _) (.cons _ _ _ _ (.int _ _) (.cons _ _ _ _ f8 (.cons _ _ _ _ f9 (.cons _ _ _ _ w10 .nil)))))))))))) .nil
end Go.Proofs.YtgfmodmeimhhpaaDoor
