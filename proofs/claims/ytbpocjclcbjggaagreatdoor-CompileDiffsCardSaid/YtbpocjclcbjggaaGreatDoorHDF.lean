/- Walked by hand: 'different'. -/
import Derived.Test.YtbpocjclcbjggaaGreatDoorHON
namespace Go.Proofs.YtbpocjclcbjggaaGreatDoor
open Go.RowKit Go.Lib Go.VM
def onceP{α:Type}[DecidableEq α](x:α)(s:List α×Bool):List α×Bool:=(putS x s.1,!hasS x s.1&&s.2)
def dfMem(s:List Int×Bool)(m:MemT):List Int×Bool:=onceP m.1 s
def dfNam(s:List (List UInt8)×Bool)(m:MemT):List (List UInt8)×Bool:=onceP m.2.1 s
def dfMac(s:List MacT×Bool)(x:MacT):List MacT×Bool:=onceP x s
def dfAd(s:List AddrT×Bool)(a:AddrT):List AddrT×Bool:=if a=zA then s else onceP a s
abbrev T4:=List Int×List MacT×List AddrT×Bool
def dfPo(s:T4)(p:PortT):T4:=
 ((onceP p.1 (s.1,s.2.2.2)).1,((maL p).foldl dfMac (s.2.1,(onceP p.1 (s.1,s.2.2.2)).2)).1,(dfAd (dfAd (s.2.2.1,((maL p).foldl dfMac (s.2.1,(onceP p.1 (s.1,s.2.2.2)).2)).2) (v4L p)) (v6L p)).1,(dfAd (dfAd (s.2.2.1,((maL p).foldl dfMac (s.2.1,(onceP p.1 (s.1,s.2.2.2)).2)).2) (v4L p)) (v6L p)).2)
def dfK1(d:DbT)(S:List Int):List Int×Bool:=(mem d).foldl dfMem (S,true)
def dfK2(d:DbT)(S:List Int):List (List UInt8)×Bool:=(allM d).foldl dfNam ([],(dfK1 d S).2)
def dfK3(d:DbT)(S:List Int):T4:=(allP d).foldl dfPo ([],[],[],(dfK2 d S).2)
def dfRest(d:DbT)(o:Option (List Int)):Bool:=match o with
 |none=>false
 |some S=>(dfK3 d S).2.2.2
/-- What 'different' comes to. -/
def dfD(d:DbT):Bool:=dfRest d (foldO (twSrv (firstA d)) (srv d) [])
theorem foldl_step{α β:Type}{f:β->α->β}{l:List α}{s t:β}{i:Nat}(hi:i<l.length)(h:(l.take i).foldl f s=t):(l.take (i+1)).foldl f s=f t l[i]:=by
 rw[List.take_succ_eq_append_getElem hi,List.foldl_append,h];rfl
theorem foldl_end{α β:Type}{f:β->α->β}{l:List α}{s t:β}(h:(l.take l.length).foldl f s=t):l.foldl f s=t:=by rw[List.take_length]at h;exact h
section
variable{w w3 W W2:World}{dc:Array Value}{S I:List Int}{N:List (List UInt8)}{D:List MacT}{A:List AddrT}{b k c:Nat}{p:PortT}{o:Option Addr}{r:Ending}
/-- The sets,and what is read. -/
structure TC(w w3 W:World)(dc:Array Value)(S:List Int)(N:List (List UInt8))(I:List Int)(D:List MacT)(A:List AddrT):Prop where
 tw:TwW w W dc S N I D A
 ck:CK w3 W
theorem TC.go(h:TC w w3 W dc S N I D A)(hb:Below W.heap.size W W2):TC w w3 W2 dc S N I D A:=⟨h.tw.go hb,h.ck.trans (CK.below hb)⟩
theorem TC.once1(h:TC w w3 W dc S N I D A){x:Int}(q:OncePost encI (w.heap.size+1) S x W r W2):TC w w3 W2 dc (putS x S) N I D A:=
 ⟨h.tw.putG (k:=1) (by omega) q.2.2 (by simpa using q.2.1) (by simp) (by simp) (by simp) (by simp),h.ck.trans (CK.onlyG q.2.2 h.tw.s1)⟩
theorem TC.once2(h:TC w w3 W dc S N I D A){x:List UInt8}(q:OncePost encS (w.heap.size+2) N x W r W2):TC w w3 W2 dc S (putS x N) I D A:=
 ⟨h.tw.putG (k:=2) (by omega) q.2.2 (by simp) (by simpa using q.2.1) (by simp) (by simp) (by simp),h.ck.trans (CK.onlyG q.2.2 h.tw.s2)⟩
theorem PoS.once3(h:PoS w w3 W dc S N I D A b p o k c){x:Int}(q:OncePost encI (w.heap.size+3) I x W r W2):PoS w w3 W2 dc S N (putS x I) D A b p o k c:=by
 have:=h.lt;exact⟨h.tw.putG (k:=3) (by omega) q.2.2 (by simp) (by simp) (by simpa using q.2.1) (by simp) (by simp),h.ck.trans (CK.onlyG q.2.2 h.tw.s3),(q.2.2.block b (Array.getElem?_eq_some_iff.1 h.cells).1 (by omega)).trans h.cells,h.lt⟩
theorem PoS.once4(h:PoS w w3 W dc S N I D A b p o k c){x:MacT}(q:OncePost encM (w.heap.size+4) D x W r W2):PoS w w3 W2 dc S N I (putS x D) A b p o k c:=by
 have:=h.lt;exact⟨h.tw.putG (k:=4) (by omega) q.2.2 (by simp) (by simp) (by simp) (by simpa using q.2.1) (by simp),h.ck.trans (CK.onlyG q.2.2 h.tw.s4),(q.2.2.block b (Array.getElem?_eq_some_iff.1 h.cells).1 (by omega)).trans h.cells,h.lt⟩
abbrev adsC(p:PortT):Array Value:=#[.bool (v4L p).1,.int .u64 (v4L p).2.1,.int .u64 (v4L p).2.2,.bool (v6L p).1,.int .u64 (v6L p).2.1,.int .u64 (v6L p).2.2]
/-- Within the rounds over a port's addresses. -/
structure AdS(w w3 W:World)(dc:Array Value)(S:List Int)(N:List (List UInt8))(I:List Int)(D:List MacT)(A:List AddrT)(b:Nat)(p:PortT):Prop where
 tc:TC w w3 W dc S N I D A
 cells:∃e,W.heap[b]?=some (.cells (adsC p) e)
 lt:w.heap.size+6<=b
theorem AdS.go(h:AdS w w3 W dc S N I D A b p)(hb:Below W.heap.size W W2):AdS w w3 W2 dc S N I D A b p:=
 ⟨h.tc.go hb,h.cells.imp fun e q=>(hb.block b (Array.getElem?_eq_some_iff.1 q).1).trans q,h.lt⟩
theorem AdS.once5(h:AdS w w3 W dc S N I D A b p){x:AddrT}(q:OncePost encA (w.heap.size+5) A x W r W2):AdS w w3 W2 dc S N I D (putS x A) b p:=by
 have:=h.lt;exact⟨⟨h.tc.tw.putG (k:=5) (by omega) q.2.2 (by simp) (by simp) (by simp) (by simp) (by simpa using q.2.1),h.tc.ck.trans (CK.onlyG q.2.2 h.tc.tw.s5)⟩,h.cells.imp fun e q'=>(q.2.2.block b (Array.getElem?_eq_some_iff.1 q').1 (by omega)).trans q',h.lt⟩
theorem AdS.at(h:AdS w w3 W dc S N I D A b p):W.cell? ⟨b,0,none⟩=some (.bool (v4L p).1)/\W.cell? ⟨b,1,none⟩=some (.int .u64 (v4L p).2.1)/\W.cell? ⟨b,2,none⟩=some (.int .u64 (v4L p).2.2)/\W.cell? ⟨b,3,none⟩=some (.bool (v6L p).1)/\W.cell? ⟨b,4,none⟩=some (.int .u64 (v6L p).2.1)/\W.cell? ⟨b,5,none⟩=some (.int .u64 (v6L p).2.2):=by
 obtain⟨e,h⟩:=h.cells;exact⟨box_at h,box_at h,box_at h,box_at h,box_at h,box_at h⟩
end
abbrev zW(wr:World)(a:AddrT):World:=wr.alloc (.cells #[.bool a.1,.int .u64 a.2.1,.int .u64 a.2.2] 25)
set_option maxRecDepth 20000 in
theorem eqZ(a:AddrT)(w:World):(binOp .eql 25 (.agg #[.bool a.1,.int .u64 a.2.1,.int .u64 a.2.2]) (.agg #[.bool false,.int .u64 0,.int .u64 0])).run Tryz.prog w=.ok (.bool (decide (a=zA))) w:=by
 have hF:aAY Tryz.prog 3 25=some [.b,.i,.i]:=by kernel_rfl
 obtain⟨gg,h1,_,_,h4⟩:=aCT (P:=Tryz.prog) (w:=w) (A:=fun _ _ _ _ _ _=>True) (B:=[]) 3 25 _ hF;obtain rfl:gg=true:=Option.some.inj (h1.symm.trans (by kernel_rfl));have:=h4 10000 (by omega) [.bool a.1,.int .u64 a.2.1,.int .u64 a.2.2] [.bool false,.int .u64 0,.int .u64 0] [.bool a.1,.int .u64 a.2.1,.int .u64 a.2.2] [.bool false,.int .u64 0,.int .u64 0] _ (.cons _ _ _ _ (.bool _) (.cons _ _ _ _ (.int _ _) (.cons _ _ _ _ (.int _ _) .nil))) (.cons _ _ _ _ (.bool _) (.cons _ _ _ _ (.int _ _) (.cons _ _ _ _ (.int _ _) .nil))) rfl;have h5:(Op.equal 25 (.agg #[.bool a.1,.int .u64 a.2.1,.int .u64 a.2.2]) (.agg #[.bool false,.int .u64 0,.int .u64 0])).run Tryz.prog w=.ok (decide (a=zA)) w:=by
  refine this.trans ?_;congr 1;obtain⟨x,y,z⟩:=a;simp only[zA,Prod.mk.injEq,Bool.and_true];rw[Bool.eq_iff_iff];simp
 clear this h4 h1 hF;unfold binOp;rw[Sem.run_bind,h5];rfl
set_option maxHeartbeats 16000000 in
set_option maxRecDepth 100000 in
theorem different_walk(d:DbT)(hd:SmD d)(x0 x1 x2 x3 x4 x5 x6 x7:Value)(o1 o2:Option Addr)(n1 n2 c1 c2:Nat)(w:World)(hv:HC w (fun b=>b<w.heap.size) tyDb d [x0,x1,x2,x3,x4,x5,x6,x7,.slice o1 n1 c1,.slice o2 n2 c2])
  (hS:HC w (fun b=>b<w.heap.size) (.sl tyMe) (srv d) [.slice o1 n1 c1]) (hM:HC w (fun b=>b<w.heap.size) (.sl tyMe) (mem d) [.slice o2 n2 c2]) :
  Calls Tryz.prog 70 #[.agg #[x0,x1,x2,x3,x4,x5,x6,x7,.slice o1 n1 c1,.slice o2 n2 c2]] w (TwPost w (dfD d)):=by
 have hmm:=@run_makeMap Tryz.prog;have e71:∀args w,(callFunc 71 args).run Tryz.prog w=.ok (.enter 71 args) w:=fun args w=>by kernel_rfl
 have e59:∀args w,(callFunc 59 args).run Tryz.prog w=.ok (.enter 59 args) w:=fun args w=>by kernel_rfl
 have e106:∀args w,(callFunc 106 args).run Tryz.prog w=.ok (.enter 106 args) w:=fun args w=>by kernel_rfl
 have e107:∀args w,(callFunc 107 args).run Tryz.prog w=.ok (.enter 107 args) w:=fun args w=>by kernel_rfl
 have e108:∀args w,(callFunc 108 args).run Tryz.prog w=.ok (.enter 108 args) w:=fun args w=>by kernel_rfl
 have e109:∀args w,(callFunc 109 args).run Tryz.prog w=.ok (.enter 109 args) w:=fun args w=>by kernel_rfl
 have mixed:Tryz.prog.follows Departure.mixedOrders=true:=by kernel_rfl
 have H0:=Lib.hid (TwW.start w #[x0,x1,x2,x3,x4,x5,x6,x7,.slice o1 n1 c1,.slice o2 n2 c2]);obtain rfl:n1=(srv d).length:=sl_len hS;obtain rfl:n2=(mem d).length:=sl_len hM;have HS:=Lib.hid hS;have HM:=Lib.hid hM;have HVd:=Lib.hid hv;have HD:=Lib.hid hd;clear hS hM hv hd
 go_enter Tryz.func70,Tryz.ntmps70
 go_wp2
 go_loopg [29] (srv d).length (fun gg s29 wr=>∃(i:Nat) (S:List Int),s29=.int .i64 i/\i<=(srv d).length/\(srv d).length-i<=gg/\Aside (TwW w wr #[x0,x1,x2,x3,x4,x5,x6,x7,.slice o1 (srv d).length c1,.slice o2 (mem d).length c2] S [] [] [] [])/\Aside (foldO (twSrv (firstA d)) ((srv d).drop i) S=foldO (twSrv (firstA d)) (srv d) []))
 case atStart=>exact⟨0,[],rfl,by omega,by omega,H0.out,(show Aside _ from rfl)⟩
 case round=>
  obtain⟨i,S,rfl,hin,hgg,I,F⟩:=hrel;by_cases hlt:i<(srv d).length
  .have hltz:(i:Int)<((srv d).length:Int):=by omega
   have h0z:(0:Int)<((srv d).length:Int):=by omega
   have hlen:=HD.out.srv;obtain⟨a,rfl⟩:=sl_some HS.out (by omega);obtain⟨o,k,c',hP,hAt⟩:=mem_at HS.out hlt;obtain⟨o',k',c'',_,hAt0⟩:=mem_at HS.out (show 0<(srv d).length by omega);have hT1:=I.out.go (w2:=mW wr (srv d)[i] o k c') (alloc_below _ _);obtain⟨l0,l1,l2,l3,l4,l5⟩:=hAt wr (CK.below I.out.bel);have f0:=(hAt0 (mW wr (srv d)[i] o k c') (CK.below hT1.bel)).e0;have f8:(mW wr (srv d)[i] o k c').cell? ⟨w.heap.size,8,none⟩=some (.slice (some a) (srv d).length c1):=box_at hT1.box;have hfa:(srv d)[0].1=firstA d:=by
    unfold firstA;split
    .rename_i h;rw[h]at hlt;cases hlt
    .rename_i h;simp[h]
   rw[hfa]at f0;have f0:(mW wr (srv d)[i] o k c').cell? a=some (.int .i64 (firstA d)):=f0;have HB:Aside (∀q,Below w.heap.size w ((mW wr (srv d)[i] o k c').drewN q)):=fun q=>below_drewN hT1.bel q
   have HP:Aside (∀q,∃w',(Instr.mapUpdate 146 (.map (some (w.heap.size+1))) (.int .i64 (srv d)[i].1) (.bool true)).run Tryz.prog ((mW wr (srv d)[i] o k c').drewN q)=.ok () w'/\TwW w w' #[x0,x1,x2,x3,x4,x5,x6,x7,.slice (some a) (srv d).length c1,.slice o2 (mem d).length c2] (putS (srv d)[i].1 S) [] [] [] []):=fun q=>by
    have hT1:=hT1.go (below_drewN (Below.refl _ _) q);obtain⟨w',q1,q2,q3⟩:=hT1.s1.put keyI Tryz.underlying146 (srv d)[i].1;exact⟨w',q1,hT1.put (k:=1) (by omega) q3 (by simpa using q2) (by simp) (by simp) (by simp) (by simp)⟩
   have HI0:Aside (i=0->(srv d)[i].1=firstA d):=fun h=>by subst h;exact hfa
   unfold mW at f0 f8 HB HP;clear hT1 hAt hAt0 hP hfa;by_cases he:(srv d)[i].1=firstA d
   .have hst:twSrv (firstA d) (srv d)[i] S=some (putS (srv d)[i].1 S):=by unfold twSrv;rw[if_pos he]
    have HF:=Lib.hid (foldO_ok hlt F.out hst);have hz1:((srv d)[i].1 != firstA d)=false:=by simp[he]
    clear hst he;obtain⟨g,hg⟩:∃g,decide (0<i)=g:=⟨_,rfl⟩;cases g
    all_goals
     go_wp2
     go_quiet (fail)
     go_wp2_with (at_mapUpdate;refine wpList_put_ex (by rfl) _ _ _ 146 (by rfl) _ _ _ (by rfl) (by rfl) (by rfl) (HP.out _) ?_;rintro w7 hp7;have K7:=Lib.hid hp7;clear hp7)
     go_roundg ((srv d).length-(i+1))
     case measure=>omega
     case rel=>exact⟨i+1,_,by go_num,by omega,Nat.le_refl _,K7.out,HF.out⟩
   .have hst:twSrv (firstA d) (srv d)[i] S=none:=by unfold twSrv;rw[if_neg he]
    have HF:=Lib.hid (foldO_no hlt F.out hst);have hz1:((srv d)[i].1 != firstA d)=true:=by simp[he]
    have hg:decide (0<i)=true:=by
     have:i≠0:=fun h=>he (HI0.out h)
     exact decide_eq_true (by omega)
    clear hst he
    go_wp2
    go_quiet (fail)
    go_wp2
    go_ret
    refine⟨?_,HB.out _⟩;unfold dfD;rw[HF.out];rfl
  .obtain rfl:i=(srv d).length:=by omega
   have hltz:¬((srv d).length:Int)<((srv d).length:Int):=by omega
   have HF1:=Lib.hid (foldO_end F.out);have f9:wr.cell? ⟨w.heap.size,9,none⟩=some (.slice o2 (mem d).length c2):=box_at I.out.box;have HR:Aside (dfD d=(dfK3 d S).2.2.2):=by show dfD d=_;unfold dfD;rw[HF1.out];rfl
   clear F HF1
   --L2
   go_wp2
   go_loopg [10,53] (mem d).length (fun gg s10 s53 wr=>∃(j:Nat) (T:List Int) (ok:Bool),s10=.bool ok/\s53=.int .i64 j/\j<=(mem d).length/\(mem d).length-j<=gg/\Aside (TC w w wr #[x0,x1,x2,x3,x4,x5,x6,x7,.slice o1 (srv d).length c1,.slice o2 (mem d).length c2] T [] [] [] [])/\Aside (((mem d).take j).foldl dfMem (S,true)=(T,ok)))
   case atStart=>exact⟨0,S,true,rfl,rfl,by omega,by omega,(show Aside _ from⟨I.out,CK.below I.out.bel⟩),(show Aside _ from rfl)⟩
   case round=>
    clear I;obtain⟨j,T,ok,rfl,rfl,hjn,hgg,I,F⟩:=hrel;by_cases hlt:j<(mem d).length
    .have hltz:(j:Int)<((mem d).length:Int):=by omega
     have hlen:=HD.out.mem;obtain⟨a,rfl⟩:=sl_some HM.out (by omega);obtain⟨o,k,c',hP,hAt⟩:=mem_at HM.out hlt;have hT1:=I.out.go (W2:=mW wr (mem d)[j] o k c') (alloc_below _ _);obtain⟨l0,l1,l2,l3,l4,l5⟩:=hAt wr I.out.ck;have hO:=once_106 (w.heap.size+1) T (mem d)[j].1 (mW wr (mem d)[j] o k c') hT1.tw.s1;obtain⟨g,hg⟩:∃g,hasS (mem d)[j].1 T=g:=⟨_,rfl⟩;have HO:Aside (∀r W',OncePost encI (w.heap.size+1) T (mem d)[j].1 (mW wr (mem d)[j] o k c') r W'->r=.returned (.bool (!g))/\TC w w W' #[x0,x1,x2,x3,x4,x5,x6,x7,.slice o1 (srv d).length c1,.slice (some a) (mem d).length c2] (putS (mem d)[j].1 T) [] [] [] []):=fun r W' q=>⟨by rw[<-hg];exact q.1,hT1.once1 q⟩
     have HF:=Lib.hid ((foldl_step hlt F.out).trans (show dfMem (T,ok) (mem d)[j]=(putS (mem d)[j].1 T,!g&&ok) by unfold dfMem onceP;rw[hg]));unfold mW at hO HO;clear hT1 hAt hP hg F I;cases g
     all_goals
      go_wp2_with (go_at_fn 106;refine hO.mono ?_;rintro r w7 hq;obtain⟨rfl,hr⟩:=HO.out _ _ hq;clear hq;have K7:=Lib.hid hr;clear hr)
      go_roundg ((mem d).length-(j+1))
      case measure=>omega
      case rel=>exact⟨j+1,_,_,(by first|rfl|exact(show Value.bool ok=Value.bool (!false&&ok)from rfl)),by go_num,by omega,Nat.le_refl _,(show Aside _ from K7.out),(show Aside _ from HF.out)⟩
    .obtain rfl:j=(mem d).length:=by omega
     have hltz:¬((mem d).length:Int)<((mem d).length:Int):=by omega
     have HF2:Aside (dfK1 d S=(T,ok)):=foldl_end F.out;have hA:=allP_calls HD.out (W:=wr) (Q:=fun b=>b<w.heap.size) (v:=.agg #[x0,x1,x2,x3,x4,x5,x6,x7,.slice o1 (srv d).length c1,.slice o2 (mem d).length c2]) ⟨hc_below I.out.tw.bel (fun _ h=>h) HVd.out,rfl⟩;have g0:wr.cell? ⟨w.heap.size,0,none⟩=some x0:=box_at I.out.tw.box;have g1:wr.cell? ⟨w.heap.size,1,none⟩=some x1:=box_at I.out.tw.box;have g2:wr.cell? ⟨w.heap.size,2,none⟩=some x2:=box_at I.out.tw.box;have g3:wr.cell? ⟨w.heap.size,3,none⟩=some x3:=box_at I.out.tw.box;have g4:wr.cell? ⟨w.heap.size,4,none⟩=some x4:=box_at I.out.tw.box;have g5:wr.cell? ⟨w.heap.size,5,none⟩=some x5:=box_at I.out.tw.box;have g6:wr.cell? ⟨w.heap.size,6,none⟩=some x6:=box_at I.out.tw.box;have g7:wr.cell? ⟨w.heap.size,7,none⟩=some x7:=box_at I.out.tw.box;have g8:wr.cell? ⟨w.heap.size,8,none⟩=some (.slice o1 (srv d).length c1):=box_at I.out.tw.box;have g9:wr.cell? ⟨w.heap.size,9,none⟩=some (.slice o2 (mem d).length c2):=box_at I.out.tw.box;clear F
     go_wp2_with (go_at_fn 71;refine hA.mono ?_;rintro r w3 ⟨u,rfl,hb3,hv3⟩;obtain⟨oA,nA,cA,rfl⟩:=hc_sh (hv_one hv3 rfl);obtain rfl:=sl_len (hv_one hv3 rfl);have K3:=Lib.hid (And.intro (I.out.go hb3).tw (hv_one hv3 rfl));clear hb3 hv3)
     clear g0 g1 g2 g3 g4 g5 g6 g7 g8 g9 hA I
     go_loopg [10,68] (allM d).length (fun gg s10 s68 wr=>∃(i:Nat) (N:List (List UInt8)) (ok3:Bool),s10=.bool ok3/\s68=.int .i64 i/\i<=(allM d).length/\(allM d).length-i<=gg/\Aside (TC w w3 wr #[x0,x1,x2,x3,x4,x5,x6,x7,.slice o1 (srv d).length c1,.slice o2 (mem d).length c2] T N [] [] [])/\Aside (((allM d).take i).foldl dfNam ([],ok)=(N,ok3)))
     case atStart=>exact⟨0,[],ok,rfl,rfl,by omega,by omega,(show Aside _ from⟨K3.out.1,CK.refl _⟩),(show Aside _ from rfl)⟩
     case round=>
      obtain⟨i,N,ok3,rfl,rfl,hin3,hgg3,I,F⟩:=hrel;by_cases hlt3:i<(allM d).length
      .have hltz3:(i:Int)<((allM d).length:Int):=by omega
       have hlen3:=HD.out.all;obtain⟨aA,rfl⟩:=sl_some K3.out.2 (by omega);obtain⟨o,k,c',hP,hAt⟩:=mem_at K3.out.2 hlt3;have hT1:=I.out.go (W2:=mW wr (allM d)[i] o k c') (alloc_below _ _);obtain⟨l0,l1,l2,l3,l4,l5⟩:=hAt wr I.out.ck;have hO:=once_107 (w.heap.size+1+1) N (allM d)[i].2.1 (mW wr (allM d)[i] o k c') hT1.tw.s2;obtain⟨g,hg⟩:∃g,hasS (allM d)[i].2.1 N=g:=⟨_,rfl⟩;have HO:Aside (∀r W',OncePost encS (w.heap.size+1+1) N (allM d)[i].2.1 (mW wr (allM d)[i] o k c') r W'->r=.returned (.bool (!g))/\TC w w3 W' #[x0,x1,x2,x3,x4,x5,x6,x7,.slice o1 (srv d).length c1,.slice o2 (mem d).length c2] T (putS (allM d)[i].2.1 N) [] [] []):=fun r W' q=>⟨by rw[<-hg];exact q.1,hT1.once2 q⟩
       have HF:=Lib.hid ((foldl_step hlt3 F.out).trans (show dfNam (N,ok3) (allM d)[i]=(putS (allM d)[i].2.1 N,!g&&ok3) by unfold dfNam onceP;rw[hg]));unfold mW at hO HO;clear hT1 hAt hP hg F I;cases g
       all_goals
        go_wp2_with (go_at_fn 107;refine hO.mono ?_;rintro r w7 hq;obtain⟨rfl,hr⟩:=HO.out _ _ hq;clear hq;have K7:=Lib.hid hr;clear hr)
        go_roundg ((allM d).length-(i+1))
        case measure=>omega
        case rel=>exact⟨i+1,_,_,(by first|rfl|exact(show Value.bool ok3=Value.bool (!false&&ok3)from rfl)),by go_num,by omega,Nat.le_refl _,(show Aside _ from K7.out),(show Aside _ from HF.out)⟩
      .obtain rfl:i=(allM d).length:=by omega
       have hltz:¬((allM d).length:Int)<((allM d).length:Int):=by omega
       have HF3:Aside (dfK2 d S=(N,ok3)):=by
        have:=foldl_end F.out;show dfK2 d S=_;unfold dfK2;rw[HF2.out];exact this
       have hA:=ports_calls HD.out (W:=wr) (Q:=fun b=>b<w.heap.size) (v:=.agg #[x0,x1,x2,x3,x4,x5,x6,x7,.slice o1 (srv d).length c1,.slice o2 (mem d).length c2]) ⟨hc_below I.out.tw.bel (fun _ h=>h) HVd.out,rfl⟩;have g0:wr.cell? ⟨w.heap.size,0,none⟩=some x0:=box_at I.out.tw.box;have g1:wr.cell? ⟨w.heap.size,1,none⟩=some x1:=box_at I.out.tw.box;have g2:wr.cell? ⟨w.heap.size,2,none⟩=some x2:=box_at I.out.tw.box;have g3:wr.cell? ⟨w.heap.size,3,none⟩=some x3:=box_at I.out.tw.box;have g4:wr.cell? ⟨w.heap.size,4,none⟩=some x4:=box_at I.out.tw.box;have g5:wr.cell? ⟨w.heap.size,5,none⟩=some x5:=box_at I.out.tw.box;have g6:wr.cell? ⟨w.heap.size,6,none⟩=some x6:=box_at I.out.tw.box;have g7:wr.cell? ⟨w.heap.size,7,none⟩=some x7:=box_at I.out.tw.box;have g8:wr.cell? ⟨w.heap.size,8,none⟩=some (.slice o1 (srv d).length c1):=box_at I.out.tw.box;have g9:wr.cell? ⟨w.heap.size,9,none⟩=some (.slice o2 (mem d).length c2):=box_at I.out.tw.box;clear F
       go_wp2_with (go_at_fn 59;refine hA.mono ?_;rintro r w5 ⟨u,rfl,hb3,hv3⟩;obtain⟨oP,nP,cP,rfl⟩:=hc_sh (hv_one hv3 rfl);obtain rfl:=sl_len (hv_one hv3 rfl);have K5:=Lib.hid (And.intro (I.out.go hb3).tw (hv_one hv3 rfl));clear hb3 hv3)
       clear g0 g1 g2 g3 g4 g5 g6 g7 g8 g9 hA I
       go_loopg [10,83] (allP d).length (fun gg s10 s83 wr=>∃(q:Nat) (t:T4),s10=.bool t.2.2.2/\s83=.int .i64 q/\q<=(allP d).length/\(allP d).length-q<=gg/\Aside (TC w w5 wr #[x0,x1,x2,x3,x4,x5,x6,x7,.slice o1 (srv d).length c1,.slice o2 (mem d).length c2] T N t.1 t.2.1 t.2.2.1)/\Aside (((allP d).take q).foldl dfPo ([],[],[],ok3)=t))
       case atStart=>exact⟨0,([],[],[],ok3),rfl,rfl,by omega,by omega,(show Aside _ from⟨K5.out.1,CK.refl _⟩),(show Aside _ from rfl)⟩
       case round=>
        obtain⟨q,t,rfl,rfl,hq,hgg4,I,F⟩:=hrel;obtain⟨I4,D4,A4,ok4⟩:=t;obtain⟨w4,hw4⟩:∃x:World,x=wr:=⟨_,rfl⟩;subst hw4;by_cases hlt4:q<(allP d).length
        .have hltz4:(q:Int)<((allP d).length:Int):=by omega
         have hlen4:=HD.out.allP;obtain⟨a4,rfl⟩:=sl_some K5.out.2 (by omega);obtain⟨o5,k5,c5,hP,hAt⟩:=po_at K5.out.2 hlt4;obtain rfl:=sl_len hP;obtain⟨p,hp⟩:∃p,p=(allP d)[q]:=⟨_,rfl⟩;have hpm:p∈allP d:=by rw[hp];exact List.getElem_mem hlt4
         have hAt:=hAt w4 I.out.ck;rw[<-hp]at hAt;have HP5:Hid (HC w5 (fun b=>b<w5.heap.size) (.sl tyMac) (maL p) [.slice o5 (maL p).length c5]):=by rw[hp];exact Lib.hid hP
         obtain⟨l0,l1,l2,l3,l4,l5,l6,l7,l8,l9⟩:=hAt;have hT1:=I.out.tw.go (w2:=pW w4 p o5 (maL p).length c5) (alloc_below _ _);have KP:PoS w w5 (pW w4 p o5 (maL p).length c5) #[x0,x1,x2,x3,x4,x5,x6,x7,.slice o1 (srv d).length c1,.slice o2 (mem d).length c2] T N I4 D4 A4 w4.heap.size p o5 (maL p).length c5:=⟨hT1,I.out.ck.trans (CK.below (alloc_below _ _)),alloc_cell _ _ _,I.out.tw.big⟩;have hO:=once_106 (w.heap.size+1+1+1) I4 p.1 (pW w4 p o5 (maL p).length c5) hT1.s3;obtain⟨g,hg⟩:∃g,hasS p.1 I4=g:=⟨_,rfl⟩;have HO:Aside (∀r W',OncePost encI (w.heap.size+1+1+1) I4 p.1 (pW w4 p o5 (maL p).length c5) r W'->r=.returned (.bool (!g))/\PoS w w5 W' #[x0,x1,x2,x3,x4,x5,x6,x7,.slice o1 (srv d).length c1,.slice o2 (mem d).length c2] T N (putS p.1 I4) D4 A4 w4.heap.size p o5 (maL p).length c5):=fun r W' q=>⟨by rw[<-hg];exact q.1,KP.once3 q⟩
         have HG:Aside (onceP p.1 (I4,ok4)=(putS p.1 I4,!g&&ok4)):=(by unfold onceP;rw[hg]:onceP p.1 (I4,ok4)=(putS p.1 I4,!g&&ok4));have HF:=Lib.hid ((foldl_step hlt4 F.out).trans (by rw[<-hp]:dfPo (I4,D4,A4,ok4) (allP d)[q]=dfPo (I4,D4,A4,ok4) p));have HPM:Aside (p∈allP d):=hpm;unfold pW at hO HO;clear hT1 hP hp hg hpm F I KP;have hlen5:(maL p).length<=1000:=HD.out.ma p HPM.out;obtain⟨ok1,hok1⟩:∃ok1,(!g&&ok4)=ok1:=⟨_,rfl⟩;rw[hok1]at HG;have hg1:∀b,g=b->(!b&&ok4)=ok1:=fun b h=>by rw[<-h];exact hok1
         clear hok1;cases g
         all_goals
          have hg2:=hg1 _ rfl;simp only[Bool.not_false,Bool.not_true,Bool.true_and,Bool.false_and]at hg2;have HG2:Aside _:=hg2;clear hg1 hg2
          go_wp2_with (go_at_fn 106;refine hO.mono ?_;rintro r w7 hq;obtain⟨rfl,hr⟩:=HO.out _ _ hq;clear hq;obtain⟨y3,y4,y5,y6,y7,y8,y9⟩:=hr.at;have K7:=Lib.hid hr;clear hr)
          go_loopg [10,97] (maL p).length (fun gg s10 s97 wr=>∃(r:Nat) (D5:List MacT) (ok5:Bool),s10=.bool ok5/\s97=.int .i64 r/\r<=(maL p).length/\(maL p).length-r<=gg/\Aside (PoS w w5 wr #[x0,x1,x2,x3,x4,x5,x6,x7,.slice o1 (srv d).length c1,.slice o2 (mem d).length c2] T N (putS p.1 I4) D5 A4 w4.heap.size p o5 (maL p).length c5)/\Aside (((maL p).take r).foldl dfMac (D4,ok1)=(D5,ok5)))
          case atStart=>exact⟨0,D4,ok1,congrArg Value.bool HG2.out,rfl,by omega,by omega,(show Aside _ from K7.out),(show Aside _ from rfl)⟩
          case round=>
           clear y3 y4 y5 y6 y7 y8 y9;obtain⟨r,D5,ok5,rfl,rfl,hr5,hgg5,I,F⟩:=hrel;obtain⟨wL,hwL⟩:∃x:World,x=wr:=⟨_,rfl⟩;subst hwL;by_cases hlt5:r<(maL p).length
           .have hltz5:(r:Int)<((maL p).length:Int):=by omega
            obtain⟨a5,rfl⟩:=sl_some HP5.out (by omega);obtain⟨x,hx⟩:∃x,x=(maL p)[r]:=⟨_,rfl⟩;have hAt:=mac_at HP5.out hlt5 wL I.out.ck;rw[<-hx]at hAt;obtain⟨l0,l1,l2,l3,l4,l5⟩:=hAt;have hT1:=I.out.go (W2:=aW wL x) (alloc_below _ _);have hO:=once_108 (w.heap.size+1+1+1+1) D5 x (aW wL x) hT1.tw.s4;obtain⟨g,hg⟩:∃g,hasS x D5=g:=⟨_,rfl⟩;have HO:Aside (∀r W',OncePost encM (w.heap.size+1+1+1+1) D5 x (aW wL x) r W'->r=.returned (.bool (!g))/\PoS w w5 W' #[x0,x1,x2,x3,x4,x5,x6,x7,.slice o1 (srv d).length c1,.slice o2 (mem d).length c2] T N (putS p.1 I4) (putS x D5) A4 w4.heap.size p (some a5) (maL p).length c5):=fun r W' q=>⟨by rw[<-hg];exact q.1,hT1.once4 q⟩
            have HF:=Lib.hid ((foldl_step hlt5 F.out).trans (show dfMac (D5,ok5) (maL p)[r]=(putS x D5,!g&&ok5) by rw[<-hx];unfold dfMac onceP;rw[hg]));unfold aW at hO HO;clear hT1 hg F I hx;cases g
            all_goals
             go_wp2_with (go_at_fn 108;refine hO.mono ?_;rintro r w7 hq;obtain⟨rfl,hr⟩:=HO.out _ _ hq;clear hq;have K7:=Lib.hid hr;clear hr)
             go_roundg ((maL p).length-(r+1))
             case measure=>omega
             case rel=>exact⟨r+1,_,_,(by first|rfl|exact(show Value.bool ok5=Value.bool (!false&&ok5)from rfl)),by go_num,by omega,Nat.le_refl _,(show Aside _ from K7.out),(show Aside _ from HF.out)⟩
           .obtain rfl:r=(maL p).length:=by omega
            have hltz:¬((maL p).length:Int)<((maL p).length:Int):=by omega
            have HF5:Aside ((maL p).foldl dfMac (D4,ok1)=(D5,ok5)):=foldl_end F.out;obtain⟨y3,y4,y5,y6,y7,y8,y9⟩:=I.out.at;have KA:Aside (∀e,AdS w w5 (wL.alloc (.cells (adsC p) e)) #[x0,x1,x2,x3,x4,x5,x6,x7,.slice o1 (srv d).length c1,.slice o2 (mem d).length c2] T N (putS p.1 I4) D5 A4 wL.heap.size p):=fun e=>⟨⟨I.out.tw.go (alloc_below _ _),I.out.ck.trans (CK.below (alloc_below _ _))⟩,⟨e,heap_alloc_new wL _⟩,I.out.tw.big⟩
            clear F I
            go_wp2
            clear y3 y4 y5 y6 y7 y8 y9
            go_loopg [10,114] 2 (fun gg s10 s114 wr=>∃(s:Nat) (A6:List AddrT) (ok6:Bool),s10=.bool ok6/\s114=.int .i64 s/\s<=2/\2-s<=gg/\Aside (AdS w w5 wr #[x0,x1,x2,x3,x4,x5,x6,x7,.slice o1 (srv d).length c1,.slice o2 (mem d).length c2] T N (putS p.1 I4) D5 A6 wL.heap.size p)/\Aside (([v4L p,v6L p].take s).foldl dfAd (A4,ok5)=(A6,ok6)))
            case atStart=>exact⟨0,A4,ok5,rfl,rfl,by omega,by omega,(show Aside _ from KA.out _),(show Aside _ from rfl)⟩
            case round=>
             obtain⟨s,A6,ok6,rfl,rfl,hs2,hgg6,I,F⟩:=hrel;by_cases hlt6:s<2
             .obtain⟨y0,y1,y2,y3,y4,y5⟩:=I.out.at;have step:∀a:AddrT,[v4L p,v6L p][s]?=some a->Aside (∀W',(∃A7 ok7,dfAd (A6,ok6) a=(A7,ok7)/\AdS w w5 W' #[x0,x1,x2,x3,x4,x5,x6,x7,.slice o1 (srv d).length c1,.slice o2 (mem d).length c2] T N (putS p.1 I4) D5 A7 wL.heap.size p)->∃A7 ok7,dfAd (A6,ok6) a=(A7,ok7)/\AdS w w5 W' #[x0,x1,x2,x3,x4,x5,x6,x7,.slice o1 (srv d).length c1,.slice o2 (mem d).length c2] T N (putS p.1 I4) D5 A7 wL.heap.size p/\([v4L p,v6L p].take (s+1)).foldl dfAd (A4,ok5)=(A7,ok7)):=fun a ha W' ⟨A7,ok7,q1,q2⟩=>by
               obtain⟨hlt,ha⟩:=List.getElem?_eq_some_iff.1 ha;exact⟨A7,ok7,q1,q2,(foldl_step hlt F.out).trans (by rw[ha];exact q1)⟩
              rcases(show s=0\/s=1 by omega)with rfl|rfl
              .obtain⟨a,ha⟩:∃a,a=v4L p:=⟨_,rfl⟩;have H6:=step a (by rw[ha];rfl);rw[<-ha]at y0 y1 y2;clear step;have hT1:=I.out.go (W2:=zW wr a) (alloc_below _ _);have hO:=once_109 (w.heap.size+1+1+1+1+1) A6 a (zW wr a) hT1.tc.tw.s5;obtain⟨z,hz⟩:∃z,decide (a=zA)=z:=⟨_,rfl⟩;have q25:∀W:World,(binOp .eql 25 (.agg #[.bool a.1,.int .u64 a.2.1,.int .u64 a.2.2]) (.agg #[.bool false,.int .u64 0,.int .u64 0])).run Tryz.prog W=.ok (.bool z) W:=fun W=>by rw[<-hz];exact eqZ a W
               obtain⟨g,hg⟩:∃g,hasS a A6=g:=⟨_,rfl⟩;have HO:Aside (z=false->∀r W',OncePost encA (w.heap.size+1+1+1+1+1) A6 a (zW wr a) r W'->r=.returned (.bool (!g))/\∃A7 ok7,dfAd (A6,ok6) a=(A7,ok7)/\AdS w w5 W' #[x0,x1,x2,x3,x4,x5,x6,x7,.slice o1 (srv d).length c1,.slice o2 (mem d).length c2] T N (putS p.1 I4) D5 A7 wL.heap.size p/\(([v4L p,v6L p].take (0+1)).foldl dfAd (A4,ok5)=(A7,ok7))/\ok7=(!g&&ok6)):=fun hz0 r W' q=>⟨by rw[<-hg];exact q.1,by
                have hne:a≠zA:=fun e=>by rw[decide_eq_true e]at hz;rw[<-hz]at hz0;cases hz0
                have e1:dfAd (A6,ok6) a=(putS a A6,!g&&ok6):=by unfold dfAd onceP;rw[if_neg hne,hg]
                obtain⟨A7,ok7,k1,k2,k3⟩:=H6.out W' ⟨_,_,e1,hT1.once5 q⟩;exact⟨A7,ok7,k1,k2,k3,by rw[e1]at k1;cases k1;rfl⟩⟩
               have HZ:Aside (z=true->∃A7 ok7,dfAd (A6,ok6) a=(A7,ok7)/\AdS w w5 (zW wr a) #[x0,x1,x2,x3,x4,x5,x6,x7,.slice o1 (srv d).length c1,.slice o2 (mem d).length c2] T N (putS p.1 I4) D5 A7 wL.heap.size p/\(([v4L p,v6L p].take (0+1)).foldl dfAd (A4,ok5)=(A7,ok7))/\ok7=ok6):=fun hz1=>by
                have he:a=zA:=of_decide_eq_true (hz.trans hz1);have e1:dfAd (A6,ok6) a=(A6,ok6):=by unfold dfAd;rw[if_pos he]
                obtain⟨A7,ok7,k1,k2,k3⟩:=H6.out _ ⟨_,_,e1,hT1⟩;exact⟨A7,ok7,k1,k2,k3,by rw[e1]at k1;cases k1;rfl⟩
               unfold zW at hO HO HZ;clear hT1 hz hg H6 F I ha;cases z
               .cases g
                all_goals
                 go_wp2_with (go_at_fn 109;refine hO.mono ?_;rintro r w7 hq;obtain⟨rfl,hr⟩:=HO.out rfl _ _ hq;clear hq;have K7:=Lib.hid hr;clear hr)
                 obtain⟨A7,ok7,k1,k2,k3,k4⟩:=K7.out
                 go_roundg (2-(0+1))
                 case measure=>omega
                 case rel=>exact⟨0+1,A7,ok7,(by rw[k4];rfl),by go_num,by omega,Nat.le_refl _,(show Aside _ from k2),(show Aside _ from k3)⟩
               .obtain⟨A7,ok7,k1,k2,k3,k4⟩:=HZ.out rfl;have K7:=Lib.hid (And.intro k2 (And.intro k3 k4));clear k1 k2 k3 k4
                go_wp2
                go_roundg (2-(0+1))
                case measure=>omega
                case rel=>exact⟨0+1,A7,ok7,(by rw[K7.out.2.2]),by go_num,by omega,Nat.le_refl _,(show Aside _ from K7.out.1),(show Aside _ from K7.out.2.1)⟩
              .obtain⟨a,ha⟩:∃a,a=v6L p:=⟨_,rfl⟩;have H6:=step a (by rw[ha];rfl);rw[<-ha]at y3 y4 y5;clear step;have hT1:=I.out.go (W2:=zW wr a) (alloc_below _ _);have hO:=once_109 (w.heap.size+1+1+1+1+1) A6 a (zW wr a) hT1.tc.tw.s5;obtain⟨z,hz⟩:∃z,decide (a=zA)=z:=⟨_,rfl⟩;have q25:∀W:World,(binOp .eql 25 (.agg #[.bool a.1,.int .u64 a.2.1,.int .u64 a.2.2]) (.agg #[.bool false,.int .u64 0,.int .u64 0])).run Tryz.prog W=.ok (.bool z) W:=fun W=>by rw[<-hz];exact eqZ a W
               obtain⟨g,hg⟩:∃g,hasS a A6=g:=⟨_,rfl⟩;have HO:Aside (z=false->∀r W',OncePost encA (w.heap.size+1+1+1+1+1) A6 a (zW wr a) r W'->r=.returned (.bool (!g))/\∃A7 ok7,dfAd (A6,ok6) a=(A7,ok7)/\AdS w w5 W' #[x0,x1,x2,x3,x4,x5,x6,x7,.slice o1 (srv d).length c1,.slice o2 (mem d).length c2] T N (putS p.1 I4) D5 A7 wL.heap.size p/\(([v4L p,v6L p].take (1+1)).foldl dfAd (A4,ok5)=(A7,ok7))/\ok7=(!g&&ok6)):=fun hz0 r W' q=>⟨by rw[<-hg];exact q.1,by
                have hne:a≠zA:=fun e=>by rw[decide_eq_true e]at hz;rw[<-hz]at hz0;cases hz0
                have e1:dfAd (A6,ok6) a=(putS a A6,!g&&ok6):=by unfold dfAd onceP;rw[if_neg hne,hg]
                obtain⟨A7,ok7,k1,k2,k3⟩:=H6.out W' ⟨_,_,e1,hT1.once5 q⟩;exact⟨A7,ok7,k1,k2,k3,by rw[e1]at k1;cases k1;rfl⟩⟩
               have HZ:Aside (z=true->∃A7 ok7,dfAd (A6,ok6) a=(A7,ok7)/\AdS w w5 (zW wr a) #[x0,x1,x2,x3,x4,x5,x6,x7,.slice o1 (srv d).length c1,.slice o2 (mem d).length c2] T N (putS p.1 I4) D5 A7 wL.heap.size p/\(([v4L p,v6L p].take (1+1)).foldl dfAd (A4,ok5)=(A7,ok7))/\ok7=ok6):=fun hz1=>by
                have he:a=zA:=of_decide_eq_true (hz.trans hz1);have e1:dfAd (A6,ok6) a=(A6,ok6):=by unfold dfAd;rw[if_pos he]
                obtain⟨A7,ok7,k1,k2,k3⟩:=H6.out _ ⟨_,_,e1,hT1⟩;exact⟨A7,ok7,k1,k2,k3,by rw[e1]at k1;cases k1;rfl⟩
               unfold zW at hO HO HZ;clear hT1 hz hg H6 F I ha;cases z
               .cases g
                all_goals
                 go_wp2_with (go_at_fn 109;refine hO.mono ?_;rintro r w7 hq;obtain⟨rfl,hr⟩:=HO.out rfl _ _ hq;clear hq;have K7:=Lib.hid hr;clear hr)
                 obtain⟨A7,ok7,k1,k2,k3,k4⟩:=K7.out
                 go_roundg (2-(1+1))
                 case measure=>omega
                 case rel=>exact⟨1+1,A7,ok7,(by rw[k4];rfl),by go_num,by omega,Nat.le_refl _,(show Aside _ from k2),(show Aside _ from k3)⟩
               .obtain⟨A7,ok7,k1,k2,k3,k4⟩:=HZ.out rfl;have K7:=Lib.hid (And.intro k2 (And.intro k3 k4));clear k1 k2 k3 k4
                go_wp2
                go_roundg (2-(1+1))
                case measure=>omega
                case rel=>exact⟨1+1,A7,ok7,(by rw[K7.out.2.2]),by go_num,by omega,Nat.le_refl _,(show Aside _ from K7.out.1),(show Aside _ from K7.out.2.1)⟩
             .obtain rfl:s=2:=by omega
              have HF6:Aside (dfAd (dfAd (A4,ok5) (v4L p)) (v6L p)=(A6,ok6)):=F.out;have HFE:Aside (((allP d).take (q+1)).foldl dfPo ([],[],[],ok3)=(putS p.1 I4,D5,A6,ok6)):=by
               show _=_;rw[HF.out];unfold dfPo;simp only[HG.out,HF5.out,HF6.out]
              have hlen4:=HD.out.allP
              go_wp2
              go_roundg ((allP d).length-(q+1))
              case measure=>omega
              case rel=>exact⟨q+1,(putS p.1 I4,D5,A6,ok6),rfl,by go_num,by omega,Nat.le_refl _,(show Aside _ from I.out.tc),(show Aside _ from HFE.out)⟩
        .obtain rfl:q=(allP d).length:=by omega
         have hltz:¬((allP d).length:Int)<((allP d).length:Int):=by omega
         have HF4:=Lib.hid (foldl_end F.out)
         go_wp2
         go_ret
         refine⟨?_,I.out.tw.bel⟩;rw[HR.out];unfold dfK3;rw[HF3.out];show _=Ending.returned (Value.bool (List.foldl dfPo ([],[],[],ok3) (allP d)).2.2.2);rw[HF4.out];rfl
end Go.Proofs.YtbpocjclcbjggaaGreatDoor
