/- Walked by hand: the stable sort of rows that are sorted already. -/
import Derived.Test.YtbpocjclcbjggaaGreatDoorHDX
import Derived.Deep.QuietTactic
namespace Go.Proofs.YtbpocjclcbjggaaGreatDoor
open Go.RowKit Go.Lib Go.VM
abbrev tyBi:Ty:=.st (.pair tyAd (.pair tyMac (.int .i64)))
abbrev BindT:=AddrT×MacT×Int
def srtB{α:Type}(f:α×α->Option Int):List α->Bool
 |x::y::l=>(match f (y,x)with
  |some c=>decide (0<=c)
  |none=>false)&&srtB f (y::l)
 |_=>true
theorem srtB_at{α:Type}{f:α×α->Option Int}:∀{l:List α} {k:Nat} (h:k+1<l.length),srtB f l=true->∃c,f (l[k+1],l[k])=some c/\0<=c
 |x::y::l,0,_,hs=>by
  unfold srtB at hs;rw[Bool.and_eq_true]at hs;revert hs;show((match f (y,x)with|some c=>decide (0<=c)|none=>false)=true/\_)->_;cases hf:f (y,x)with
  |none=>intro hs;cases hs.1
  |some c=>intro hs;exact⟨c,hf,of_decide_eq_true hs.1⟩
 |x::y::l,k+1,h,hs=>by
  unfold srtB at hs;rw[Bool.and_eq_true]at hs;exact srtB_at (l:=y::l) (k:=k) (by simpa using h) hs.2
 |[],_,h,_=>by simp at h
 |[_],_,h,_=>by simp at h
def biC(b:BindT):List Value:=[.bool b.1.1,.int .u64 b.1.2.1,.int .u64 b.1.2.2,.int .u8 b.2.1.1,.int .u8 b.2.1.2.1,.int .u8 b.2.1.2.2.1,.int .u8 b.2.1.2.2.2.1,.int .u8 b.2.1.2.2.2.2.1,.int .u8 b.2.1.2.2.2.2.2,.int .i64 b.2.2]
theorem hc_bi{w:World}{Q:Nat->Prop}{b:BindT}{c:List Value}(h:HC w Q tyBi b c):c=biC b:=by
 obtain⟨c1,r1,rfl,h1,c2,r2,rfl,h2,h3⟩:=h;rw[hc_ad h1,hc_mac h2,hc_int h3];rfl
/-- A world in which what was below is as it was. -/
structure BelW(w:World) where
 W:World
 h:Below w.heap.size w W
instance {w:World}:Inhabited (BelW w):=⟨⟨w,Below.refl _ _⟩⟩
theorem wp_region_quiet_below{P:Program}{id:Nat}{Q:Exit->Act->World->Prop}{a:Act}{w:World}{l:List Oper}(hm:P.follows .mixedOrders=true)(hB:Region.lexB .any l.toArray=true)
  (h:wpQuiet P l.toArray (fun w'=>∃p:BelW w,w'=p.W) (fun a'=>∀w',(∃p:BelW w,w'=p.W)->Q .normal a' w') l a):(Code.region id l.toArray true).wp P Q a w:=
 wp_region_quiet (C:=fun w'=>∃p:BelW w,w'=p.W) hm hB ⟨⟨_,below_drewN (Below.refl _ w) 1⟩,rfl⟩ (by simpa using h)
theorem Calls.below_of{P:Program}{f:FuncId}{args:Array Value}{w:World}{p:BelW w}{v:Value}(h:Calls P f args p.W fun e w'=>e=.returned v/\Below p.W.heap.size p.W w'):Calls P f args p.W fun e w''=>e=.returned v/\∃p':BelW w,w''=p'.W:=
 h.mono fun _ w' ⟨he,hb⟩=>⟨he,⟨w',p.h.trans (hb.mono p.h.size)⟩,rfl⟩
def enN(_:List V)(_:Unit):List V:=[]
def SoPost(w:World)(r:Ending)(w':World):Prop:=r=.returned (.tuple #[])/\Below w.heap.size w w'
structure El10(W:World)(a:Addr)(x0 x1 x2 x3 x4 x5 x6 x7 x8 x9:Value):Prop where
 e0:W.cell? a=some x0
 e1:W.cell? ⟨a.block,a.off+1,none⟩=some x1
 e2:W.cell? ⟨a.block,a.off+2,none⟩=some x2
 e3:W.cell? ⟨a.block,a.off+3,none⟩=some x3
 e4:W.cell? ⟨a.block,a.off+4,none⟩=some x4
 e5:W.cell? ⟨a.block,a.off+5,none⟩=some x5
 e6:W.cell? ⟨a.block,a.off+6,none⟩=some x6
 e7:W.cell? ⟨a.block,a.off+7,none⟩=some x7
 e8:W.cell? ⟨a.block,a.off+8,none⟩=some x8
 e9:W.cell? ⟨a.block,a.off+9,none⟩=some x9
theorem el_92{w:World}{Q:Nat->Prop}{l:List PortT}{a:Addr}{n c:Nat}(h:HC w Q (.sl tyPo) l [.slice (some a) n c]){i:Nat}(hi:i<l.length) :
  ∃x0 x1 x2 x3 x4 x5 x6 x7 x8 x9,HC w Q tyPo l[i] [x0,x1,x2,x3,x4,x5,x6,x7,x8,x9]/\(∃o k c',x3=.slice o k c')/\∀W,CK w W->El10 W (a.add (i*10)) x0 x1 x2 x3 x4 x5 x6 x7 x8 x9:=by
 obtain⟨cs,h1,h2⟩:=sl_at h hi;obtain⟨u,rfl,h3⟩:=hc_po h1;exact⟨_,_,_,_,_,_,_,_,_,_,h1,hc_sh h3,fun W hb=>⟨h2 W hb 0 _ rfl,h2 W hb 1 _ rfl,h2 W hb 2 _ rfl,h2 W hb 3 _ rfl,h2 W hb 4 _ rfl,h2 W hb 5 _ rfl,h2 W hb 6 _ rfl,h2 W hb 7 _ rfl,h2 W hb 8 _ rfl,h2 W hb 9 _ rfl⟩⟩
theorem cmp_61{p q:PortT}{c:Int}(hx:Z.n61 200004 (p,q)=some c){W:World}{Q:Nat->Prop}{xs ys:List Value}(hp:HC W Q tyPo p xs)(hq:HC W Q tyPo q ys):Calls Tryz.prog 61 #[.agg xs.toArray,.agg ys.toArray] W fun e W'=>e=.returned (.int .i64 c)/\Below W.heap.size W W':=by
 have hty:wZ ⟨[.d tyPo,.d tyPo],[(.int .i64,[])],none⟩ [] (call Z.FT 200004 61) (nfN Z.TN 200004 61):=by
  have h:=Z.typed 200004 61;unfold aF7 at h;rw[Z.sigOk 61]at h;exact h
 refine(calls_typed (Z.tableOk) (f:=61) (ps:=[.d tyPo,.d tyPo]) (rs:=[(.int .i64,[])]) (vf:=Z.vf61) rfl hty (fun p hp=>by simp only[List.mem_cons,List.not_mem_nil,or_false]at hp;rcases hp with rfl|rfl<;>exact⟨_,rfl,.inl rfl⟩) (by decide) (fun _ _=>trivial) (Q:=Q) hx ⟨_,_,rfl,⟨show HC W Q tyPo p xs.toArray.toList by simpa using hp,rfl⟩,_,_,rfl,⟨show HC W Q tyPo q ys.toArray.toList by simpa using hq,rfl⟩,rfl⟩).mono fun e W' ⟨rcs,e1,e2,e3⟩=>⟨?_,e2⟩
 obtain⟨c1,cs1,rfl,h1,rfl⟩:=e3;have h1:[c1]=[.int .i64 c]:=hv_one h1 rfl;cases h1;rw[e1];rfl
set_option maxHeartbeats 8000000 in
set_option maxRecDepth 100000 in
theorem isort_127(l:List PortT)(o:Option Addr)(n c:Nat)(w:World)(h:HC w (fun b=>b<w.heap.size) (.sl tyPo) l [.slice o n c])(hn:l.length<20)(hs:srtB (Z.n61 200004) l=true) :
  Calls Tryz.prog 127 #[.slice o n c,.int .i64 0,.int .i64 l.length,.func (.func 61) #[] #[]] w (SoPost w):=by
 have mixed:Tryz.prog.follows Departure.mixedOrders=true:=by kernel_rfl
 have e61:∀args w,(callFunc 61 args).run Tryz.prog w=.ok (.enter 61 args) w:=fun args w=>by kernel_rfl
 obtain rfl:n=l.length:=sl_len h;have HL:=Lib.hid h;have HN:=Lib.hid hn;have HS:=Lib.hid hs;clear h hn hs
 go_enter Tryz.func127,Tryz.ntmps127
 go_wp2
 go_loopg [8] l.length (fun gg s8 wr=>∃k:Nat,s8=.int .i64 ((k:Int)+1)/\k<=l.length/\l.length-k<=gg/\Aside (Below w.heap.size w wr))
 case atStart=>exact⟨0,rfl,by omega,by omega,Below.refl _ _⟩
 case round=>
  obtain⟨k,rfl,hk,hgg,B⟩:=hrel;have hl20:l.length<20:=HN.out;by_cases hlt:k+1<l.length
  .have hltz:((k:Int)+1)<(l.length:Int):=by omega
   go_wp2
   go_loopg [9] 1 (fun gg s9 wr=>s9=.int .i64 ((k:Int)+1)/\Aside (Below w.heap.size w wr))
   case atStart=>exact⟨rfl,B⟩
   case round=>
    clear B;obtain⟨rfl,B⟩:=hrel;obtain⟨a,rfl⟩:=sl_some HL.out (by omega);obtain⟨x0,x1,x2,x3,x4,x5,x6,x7,x8,x9,hx,hx3,hX⟩:=el_92 HL.out (show k+1<l.length from hlt);obtain⟨y0,y1,y2,y3,y4,y5,y6,y7,y8,y9,hy,hy3,hY⟩:=el_92 HL.out (show k<l.length by omega);obtain⟨cc,hc1,hc2⟩:=srtB_at hlt HS.out;have HC':Aside (∀W,Below w.heap.size w W->Calls Tryz.prog 61 #[.agg #[x0,x1,x2,x3,x4,x5,x6,x7,x8,x9],.agg #[y0,y1,y2,y3,y4,y5,y6,y7,y8,y9]] W fun e W'=>e=.returned (.int .i64 cc)/\Below W.heap.size W W'):=fun W hb=>cmp_61 hc1 (Q:=fun b=>b<w.heap.size) (hc_below hb (fun _ h=>h) hx) (hc_below hb (fun _ h=>h) hy)
    have hcz:¬cc<0:=by omega
    have HD0:Aside (decide (cc<0)=false):=decide_eq_false hcz;have hk1:IntKind.i64.wrap ((k:Int)+1-1)=k:=by rw[IntKind.wrap_i64];omega
    have hk0:((k:Int)+1)>0:=by omega
    have hA:∀p:BelW wr,El10 p.W (a.add ((k+1)*10)) x0 x1 x2 x3 x4 x5 x6 x7 x8 x9:=fun p=>hX _ (CK.below (B.out.trans (p.h.mono B.out.size)))
    have hB:∀p:BelW wr,El10 p.W (a.add (k*10)) y0 y1 y2 y3 y4 y5 y6 y7 y8 y9:=fun p=>hY _ (CK.below (B.out.trans (p.h.mono B.out.size)))
    have p0:=fun p=>(hA p).e0
    have q0:=fun p=>(hB p).e0
    have p1:=fun p=>(hA p).e1
    have q1:=fun p=>(hB p).e1
    have p2:=fun p=>(hA p).e2
    have q2:=fun p=>(hB p).e2
    have p3:=fun p=>(hA p).e3
    have q3:=fun p=>(hB p).e3
    have p4:=fun p=>(hA p).e4
    have q4:=fun p=>(hB p).e4
    have p5:=fun p=>(hA p).e5
    have q5:=fun p=>(hB p).e5
    have p6:=fun p=>(hA p).e6
    have q6:=fun p=>(hB p).e6
    have p7:=fun p=>(hA p).e7
    have q7:=fun p=>(hB p).e7
    have p8:=fun p=>(hA p).e8
    have q8:=fun p=>(hB p).e8
    have p9:=fun p=>(hA p).e9
    have q9:=fun p=>(hB p).e9
    obtain⟨xo,xk,xc,rfl⟩:=hx3;obtain⟨yo,yk,yc,rfl⟩:=hy3;have hcg:∀p:BelW wr,Calls Tryz.prog 61 #[.agg #[x0,x1,x2,.slice xo xk xc,x4,x5,x6,x7,x8,x9],.agg #[y0,y1,y2,.slice yo yk yc,y4,y5,y6,y7,y8,y9]] p.W fun e W'=>e=.returned (.int .i64 cc)/\Below p.W.heap.size p.W W':=fun p=>HC'.out p.W (B.out.trans (p.h.mono B.out.size))
    have pz:(0:Int)<=(k:Int)+1:=by omega
    have ez:((k:Int)+1).toNat=k+1:=by omega
    have jz:(k:Int)<(l.length:Int):=by omega
    have hwp:IntKind.i64.wrap (k:Int)=(k:Int):=by rw[IntKind.wrap_i64];omega
    clear hX hY hx hy hc1 hc2 hA hB HC'
    go_wp2_with fail
    refine wp_region_quiet_below (by assumption) (by kernel_rfl) ?_
    repeat (quiet_step (first|(go_at_fn 61;refine Calls.below_of (hcg _))))
    refine wpQuiet_nil ?_;intro _ hw';obtain⟨pw,hw''⟩:=hw';subst hw'';have KB:=Lib.hid (B.out.trans (pw.h.mono B.out.size))
    go_wp2
    go_roundg (l.length-(k+1))
    case measure=>omega
    case rel=>exact⟨k+1,by go_num,by omega,by omega,(show Aside _ from KB.out)⟩
  .have hltz:¬((k:Int)+1)<(l.length:Int):=by omega
   go_wp2
   go_end0
   exact⟨rfl,B.out⟩
set_option maxHeartbeats 4000000 in
set_option maxRecDepth 100000 in
theorem stable_92(l:List PortT)(o:Option Addr)(n c:Nat)(w:World)(h:HC w (fun b=>b<w.heap.size) (.sl tyPo) l [.slice o n c])(hn:l.length<20)(hs:srtB (Z.n61 200004) l=true) :
  Calls Tryz.prog 92 #[.slice o n c,.int .i64 l.length,.func (.func 61) #[] #[]] w (SoPost w):=by
 have e127:∀args w,(callFunc 127 args).run Tryz.prog w=.ok (.enter 127 args) w:=fun args w=>by kernel_rfl
 have hI:=isort_127 l o n c w h hn hs;obtain rfl:n=l.length:=sl_len h;have z1:¬(20:Int)<=(l.length:Int):=by omega
 have z2:¬(20:Int)<(l.length:Int):=by omega
 clear h hs
 go_enter Tryz.func92,Tryz.ntmps92
 go_wp2
 go_loopg [7,8] 0 (fun gg s7 s8 wr=>s7=.int .i64 0/\s8=.int .i64 20/\w=wr)
 case atStart=>exact⟨rfl,rfl,rfl⟩
 case round=>
  obtain⟨rfl,rfl,rfl⟩:=hrel
  go_wp2_with (go_at_fn 127;refine hI.mono ?_;rintro r w7 ⟨rfl,hb⟩;have K7:=Lib.hid hb;clear hb)
  go_loopg [6] 0 (fun gg s6 wr=>s6=.int .i64 20/\w7=wr)
  case atStart=>exact⟨rfl,rfl⟩
  case round=>
   obtain⟨rfl,rfl⟩:=hrel
   go_wp2
   go_end0
   exact⟨rfl,K7.out⟩
noncomputable def g92(x:List PortT×Int×Unit):Option Unit:=if(x.2.1==(x.1.length:Int)&&decide (x.1.length<20)&&srtB (Z.n61 200004) x.1)=true then some ()else none
theorem primSo92{Ω:World->Prop}:PrimOk Ω Tryz.prog 92 [] (pH [.sl tyPo,.int .i64,.fn 61] g92 enN):=by
 obtain⟨c,hb⟩:∃c,Tryz.f92.body=some c:=⟨_,rfl⟩;refine pH_ok Tryz.func92 hb (by kernel_rfl) (fun vs x r _ _ v hv=>by cases hv) fun x r hx vs ht w A B cs _ hr=>?_
 unfold g92 at hx;split at hx
 .rename_i hc;cases hx;obtain⟨l,n,u⟩:=x;simp only[Bool.and_eq_true,decide_eq_true_eq,beq_iff_eq]at hc;obtain⟨⟨h1,h2⟩,h3⟩:=hc;subst h1;obtain⟨c1,_,rfl,q1,c2,_,rfl,q2,c3,_,rfl,q3,rfl⟩:=trel_hvs ht hr;have q1:HC w (fun b=>b<w.heap.size) (.sl tyPo) l [c1]:=hv_one q1 rfl;have q2:[c2]=[.int .i64 l.length]:=hv_one q2 rfl;have q3:[c3]=[.func (.func 61) #[] #[]]:=hv_one q3 rfl;cases q2;cases q3;obtain⟨o,n,c,rfl⟩:=hc_sh q1;exact(stable_92 l o n c w q1 h2 h3).mono fun e w' ⟨e1,e2⟩=>⟨[],e1,e2,.nil⟩
 .cases hx
theorem h92:∀x r,g92 x=some r->∀vs,iQ [.sl tyPo,.int .i64,.fn 61] x vs->iQ [] r (enN vs r)/\∀c∈(enN vs r).flatMap V.cells,c.bare0:=fun x r _ vs _=>⟨rfl,fun c hc=>by cases hc⟩
theorem el_63{w:World}{Q:Nat->Prop}{l:List BindT}{a:Addr}{n c:Nat}(h:HC w Q (.sl tyBi) l [.slice (some a) n c]){i:Nat}(hi:i<l.length) :
  ∃x0 x1 x2 x3 x4 x5 x6 x7 x8 x9,HC w Q tyBi l[i] [x0,x1,x2,x3,x4,x5,x6,x7,x8,x9]/\(∃k,x3=.int .u8 k)/\∀W,CK w W->El10 W (a.add (i*10)) x0 x1 x2 x3 x4 x5 x6 x7 x8 x9:=by
 obtain⟨cs,h1,h2⟩:=sl_at h hi;obtain rfl:=hc_bi h1;exact⟨_,_,_,_,_,_,_,_,_,_,h1,⟨_,rfl⟩,fun W hb=>⟨h2 W hb 0 _ rfl,h2 W hb 1 _ rfl,h2 W hb 2 _ rfl,h2 W hb 3 _ rfl,h2 W hb 4 _ rfl,h2 W hb 5 _ rfl,h2 W hb 6 _ rfl,h2 W hb 7 _ rfl,h2 W hb 8 _ rfl,h2 W hb 9 _ rfl⟩⟩
theorem cmp_39{p q:BindT}{c:Int}(hx:Z.n39 200004 (p,q)=some c){W:World}{Q:Nat->Prop}{xs ys:List Value}(hp:HC W Q tyBi p xs)(hq:HC W Q tyBi q ys):Calls Tryz.prog 39 #[.agg xs.toArray,.agg ys.toArray] W fun e W'=>e=.returned (.int .i64 c)/\Below W.heap.size W W':=by
 have hty:wZ ⟨[.d tyBi,.d tyBi],[(.int .i64,[])],none⟩ [] (call Z.FT 200004 39) (nfN Z.TN 200004 39):=by
  have h:=Z.typed 200004 39;unfold aF7 at h;rw[Z.sigOk 39]at h;exact h
 refine(calls_typed (Z.tableOk) (f:=39) (ps:=[.d tyBi,.d tyBi]) (rs:=[(.int .i64,[])]) (vf:=Z.vf39) rfl hty (fun p hp=>by simp only[List.mem_cons,List.not_mem_nil,or_false]at hp;rcases hp with rfl|rfl<;>exact⟨_,rfl,.inl rfl⟩) (by decide) (fun _ _=>trivial) (Q:=Q) hx ⟨_,_,rfl,⟨show HC W Q tyBi p xs.toArray.toList by simpa using hp,rfl⟩,_,_,rfl,⟨show HC W Q tyBi q ys.toArray.toList by simpa using hq,rfl⟩,rfl⟩).mono fun e W' ⟨rcs,e1,e2,e3⟩=>⟨?_,e2⟩
 obtain⟨c1,cs1,rfl,h1,rfl⟩:=e3;have h1:[c1]=[.int .i64 c]:=hv_one h1 rfl;cases h1;rw[e1];rfl
set_option maxHeartbeats 8000000 in
set_option maxRecDepth 100000 in
theorem isort_94(l:List BindT)(o:Option Addr)(n c:Nat)(w:World)(h:HC w (fun b=>b<w.heap.size) (.sl tyBi) l [.slice o n c])(hn:l.length<20)(hs:srtB (Z.n39 200004) l=true) :
  Calls Tryz.prog 94 #[.slice o n c,.int .i64 0,.int .i64 l.length,.func (.func 39) #[] #[]] w (SoPost w):=by
 have mixed:Tryz.prog.follows Departure.mixedOrders=true:=by kernel_rfl
 have e39:∀args w,(callFunc 39 args).run Tryz.prog w=.ok (.enter 39 args) w:=fun args w=>by kernel_rfl
 obtain rfl:n=l.length:=sl_len h;have HL:=Lib.hid h;have HN:=Lib.hid hn;have HS:=Lib.hid hs;clear h hn hs
 go_enter Tryz.func94,Tryz.ntmps94
 go_wp2
 go_loopg [8] l.length (fun gg s8 wr=>∃k:Nat,s8=.int .i64 ((k:Int)+1)/\k<=l.length/\l.length-k<=gg/\Aside (Below w.heap.size w wr))
 case atStart=>exact⟨0,rfl,by omega,by omega,Below.refl _ _⟩
 case round=>
  obtain⟨k,rfl,hk,hgg,B⟩:=hrel;have hl20:l.length<20:=HN.out;by_cases hlt:k+1<l.length
  .have hltz:((k:Int)+1)<(l.length:Int):=by omega
   go_wp2
   go_loopg [9] 1 (fun gg s9 wr=>s9=.int .i64 ((k:Int)+1)/\Aside (Below w.heap.size w wr))
   case atStart=>exact⟨rfl,B⟩
   case round=>
    clear B;obtain⟨rfl,B⟩:=hrel;obtain⟨a,rfl⟩:=sl_some HL.out (by omega);obtain⟨x0,x1,x2,x3,x4,x5,x6,x7,x8,x9,hx,hx3,hX⟩:=el_63 HL.out (show k+1<l.length from hlt);obtain⟨y0,y1,y2,y3,y4,y5,y6,y7,y8,y9,hy,hy3,hY⟩:=el_63 HL.out (show k<l.length by omega);obtain⟨cc,hc1,hc2⟩:=srtB_at hlt HS.out;have HC':Aside (∀W,Below w.heap.size w W->Calls Tryz.prog 39 #[.agg #[x0,x1,x2,x3,x4,x5,x6,x7,x8,x9],.agg #[y0,y1,y2,y3,y4,y5,y6,y7,y8,y9]] W fun e W'=>e=.returned (.int .i64 cc)/\Below W.heap.size W W'):=fun W hb=>cmp_39 hc1 (Q:=fun b=>b<w.heap.size) (hc_below hb (fun _ h=>h) hx) (hc_below hb (fun _ h=>h) hy)
    have hcz:¬cc<0:=by omega
    have HD0:Aside (decide (cc<0)=false):=decide_eq_false hcz;have hk1:IntKind.i64.wrap ((k:Int)+1-1)=k:=by rw[IntKind.wrap_i64];omega
    have hk0:((k:Int)+1)>0:=by omega
    have hA:∀p:BelW wr,El10 p.W (a.add ((k+1)*10)) x0 x1 x2 x3 x4 x5 x6 x7 x8 x9:=fun p=>hX _ (CK.below (B.out.trans (p.h.mono B.out.size)))
    have hB:∀p:BelW wr,El10 p.W (a.add (k*10)) y0 y1 y2 y3 y4 y5 y6 y7 y8 y9:=fun p=>hY _ (CK.below (B.out.trans (p.h.mono B.out.size)))
    have p0:=fun p=>(hA p).e0
    have q0:=fun p=>(hB p).e0
    have p1:=fun p=>(hA p).e1
    have q1:=fun p=>(hB p).e1
    have p2:=fun p=>(hA p).e2
    have q2:=fun p=>(hB p).e2
    have p3:=fun p=>(hA p).e3
    have q3:=fun p=>(hB p).e3
    have p4:=fun p=>(hA p).e4
    have q4:=fun p=>(hB p).e4
    have p5:=fun p=>(hA p).e5
    have q5:=fun p=>(hB p).e5
    have p6:=fun p=>(hA p).e6
    have q6:=fun p=>(hB p).e6
    have p7:=fun p=>(hA p).e7
    have q7:=fun p=>(hB p).e7
    have p8:=fun p=>(hA p).e8
    have q8:=fun p=>(hB p).e8
    have p9:=fun p=>(hA p).e9
    have q9:=fun p=>(hB p).e9
    obtain⟨xk,rfl⟩:=hx3;obtain⟨yk,rfl⟩:=hy3;have hcg:∀p:BelW wr,Calls Tryz.prog 39 #[.agg #[x0,x1,x2,.int .u8 xk,x4,x5,x6,x7,x8,x9],.agg #[y0,y1,y2,.int .u8 yk,y4,y5,y6,y7,y8,y9]] p.W fun e W'=>e=.returned (.int .i64 cc)/\Below p.W.heap.size p.W W':=fun p=>HC'.out p.W (B.out.trans (p.h.mono B.out.size))
    have pz:(0:Int)<=(k:Int)+1:=by omega
    have ez:((k:Int)+1).toNat=k+1:=by omega
    have jz:(k:Int)<(l.length:Int):=by omega
    have hwp:IntKind.i64.wrap (k:Int)=(k:Int):=by rw[IntKind.wrap_i64];omega
    clear hX hY hx hy hc1 hc2 hA hB HC'
    go_wp2_with fail
    refine wp_region_quiet_below (by assumption) (by kernel_rfl) ?_
    repeat (quiet_step (first|(go_at_fn 39;refine Calls.below_of (hcg _))))
    refine wpQuiet_nil ?_;intro _ hw';obtain⟨pw,hw''⟩:=hw';subst hw'';have KB:=Lib.hid (B.out.trans (pw.h.mono B.out.size))
    go_wp2
    go_roundg (l.length-(k+1))
    case measure=>omega
    case rel=>exact⟨k+1,by go_num,by omega,by omega,(show Aside _ from KB.out)⟩
  .have hltz:¬((k:Int)+1)<(l.length:Int):=by omega
   go_wp2
   go_end0
   exact⟨rfl,B.out⟩
set_option maxHeartbeats 4000000 in
set_option maxRecDepth 100000 in
theorem stable_63(l:List BindT)(o:Option Addr)(n c:Nat)(w:World)(h:HC w (fun b=>b<w.heap.size) (.sl tyBi) l [.slice o n c])(hn:l.length<20)(hs:srtB (Z.n39 200004) l=true) :
  Calls Tryz.prog 63 #[.slice o n c,.int .i64 l.length,.func (.func 39) #[] #[]] w (SoPost w):=by
 have e94:∀args w,(callFunc 94 args).run Tryz.prog w=.ok (.enter 94 args) w:=fun args w=>by kernel_rfl
 have hI:=isort_94 l o n c w h hn hs;obtain rfl:n=l.length:=sl_len h;have z1:¬(20:Int)<=(l.length:Int):=by omega
 have z2:¬(20:Int)<(l.length:Int):=by omega
 clear h hs
 go_enter Tryz.func63,Tryz.ntmps63
 go_wp2
 go_loopg [7,8] 0 (fun gg s7 s8 wr=>s7=.int .i64 0/\s8=.int .i64 20/\w=wr)
 case atStart=>exact⟨rfl,rfl,rfl⟩
 case round=>
  obtain⟨rfl,rfl,rfl⟩:=hrel
  go_wp2_with (go_at_fn 94;refine hI.mono ?_;rintro r w7 ⟨rfl,hb⟩;have K7:=Lib.hid hb;clear hb)
  go_loopg [6] 0 (fun gg s6 wr=>s6=.int .i64 20/\w7=wr)
  case atStart=>exact⟨rfl,rfl⟩
  case round=>
   obtain⟨rfl,rfl⟩:=hrel
   go_wp2
   go_end0
   exact⟨rfl,K7.out⟩
noncomputable def g63(x:List BindT×Int×Unit):Option Unit:=if(x.2.1==(x.1.length:Int)&&decide (x.1.length<20)&&srtB (Z.n39 200004) x.1)=true then some ()else none
theorem primSo63{Ω:World->Prop}:PrimOk Ω Tryz.prog 63 [] (pH [.sl tyBi,.int .i64,.fn 39] g63 enN):=by
 obtain⟨c,hb⟩:∃c,Tryz.f63.body=some c:=⟨_,rfl⟩;refine pH_ok Tryz.func63 hb (by kernel_rfl) (fun vs x r _ _ v hv=>by cases hv) fun x r hx vs ht w A B cs _ hr=>?_
 unfold g63 at hx;split at hx
 .rename_i hc;cases hx;obtain⟨l,n,u⟩:=x;simp only[Bool.and_eq_true,decide_eq_true_eq,beq_iff_eq]at hc;obtain⟨⟨h1,h2⟩,h3⟩:=hc;subst h1;obtain⟨c1,_,rfl,q1,c2,_,rfl,q2,c3,_,rfl,q3,rfl⟩:=trel_hvs ht hr;have q1:HC w (fun b=>b<w.heap.size) (.sl tyBi) l [c1]:=hv_one q1 rfl;have q2:[c2]=[.int .i64 l.length]:=hv_one q2 rfl;have q3:[c3]=[.func (.func 39) #[] #[]]:=hv_one q3 rfl;cases q2;cases q3;obtain⟨o,n,c,rfl⟩:=hc_sh q1;exact(stable_63 l o n c w q1 h2 h3).mono fun e w' ⟨e1,e2⟩=>⟨[],e1,e2,.nil⟩
 .cases hx
theorem h63:∀x r,g63 x=some r->∀vs,iQ [.sl tyBi,.int .i64,.fn 39] x vs->iQ [] r (enN vs r)/\∀c∈(enN vs r).flatMap V.cells,c.bare0:=fun x r _ vs _=>⟨rfl,fun c hc=>by cases hc⟩
end Go.Proofs.YtbpocjclcbjggaaGreatDoor
