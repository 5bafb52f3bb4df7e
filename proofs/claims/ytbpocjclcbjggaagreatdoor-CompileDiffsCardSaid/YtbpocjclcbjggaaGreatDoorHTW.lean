/- Walked by hand: the document's 'twice'. -/
import Derived.Test.YtbpocjclcbjggaaGreatDoorHTP
import Derived.BigQuiet
import Derived.Carry
namespace Go.Proofs.YtbpocjclcbjggaaGreatDoor
open Go.RowKit Go.Lib Go.VM
def TwPost(w:World)(b:Bool)(r:Ending)(w':World):Prop:=r=.returned (.bool b)/\Below w.heap.size w w'
/-- The box of the database and five empty sets. -/
theorem TwW.start(w:World)(dc:Array Value):TwW w ((((((w.alloc (.cells dc 30)).alloc (.map #[] 0)).alloc (.map #[] 0)).alloc (.map #[] 0)).alloc (.map #[] 0)).alloc (.map #[] 0)) dc [] [] [] [] []:=by
 have sz:∀(v:World) o,(v.alloc o).heap.size=v.heap.size+1:=fun v o=>Array.size_push _
 have old:∀(v:World) o k,k<v.heap.size->(v.alloc o).heap[k]?=v.heap[k]?:=fun v o k hk=>Go.heap_alloc_old v o hk
 generalize h0:w.alloc (.cells dc 30)=w0;generalize h1:w0.alloc (.map #[] 0)=w1;generalize h2:w1.alloc (.map #[] 0)=w2;generalize h3:w2.alloc (.map #[] 0)=w3;generalize h4:w3.alloc (.map #[] 0)=w4;have s0:w0.heap.size=w.heap.size+1:=by rw[<-h0,sz]
 have s1:w1.heap.size=w.heap.size+2:=by rw[<-h1,sz,s0]
 have s2:w2.heap.size=w.heap.size+3:=by rw[<-h2,sz,s1]
 have s3:w3.heap.size=w.heap.size+4:=by rw[<-h3,sz,s2]
 have s4:w4.heap.size=w.heap.size+5:=by rw[<-h4,sz,s3]
 have b0:Below w.heap.size w w0:=by rw[<-h0];exact(Below.refl _ _).alloc (Nat.le_refl _) _
 have b1:Below w.heap.size w w1:=by rw[<-h1];exact b0.alloc b0.size _
 have b2:Below w.heap.size w w2:=by rw[<-h2];exact b1.alloc b1.size _
 have b3:Below w.heap.size w w3:=by rw[<-h3];exact b2.alloc b2.size _
 have b4:Below w.heap.size w w4:=by rw[<-h4];exact b3.alloc b3.size _
 have e0:w0.heap[w.heap.size]?=some (.cells dc 30):=by rw[<-h0];exact heap_alloc_new w _
 have m1:=SetW.new encI w0;have m2:=SetW.new encS w1;have m3:=SetW.new encI w2;have m4:=SetW.new encM w3;have m5:=SetW.new encA w4;rw[h1,s0]at m1;rw[h2,s1]at m2;rw[h3,s2]at m3;rw[h4,s3]at m4;rw[s4]at m5;have o1:∀k,k<w.heap.size+1->w1.heap[k]?=w0.heap[k]?:=fun k hk=>by rw[<-h1];exact old _ _ _ (by omega)
 have o2:∀k,k<w.heap.size+2->w2.heap[k]?=w1.heap[k]?:=fun k hk=>by rw[<-h2];exact old _ _ _ (by omega)
 have o3:∀k,k<w.heap.size+3->w3.heap[k]?=w2.heap[k]?:=fun k hk=>by rw[<-h3];exact old _ _ _ (by omega)
 have o4:∀k,k<w.heap.size+4->w4.heap[k]?=w3.heap[k]?:=fun k hk=>by rw[<-h4];exact old _ _ _ (by omega)
 have o5:∀k,k<w.heap.size+5->(w4.alloc (.map #[] 0)).heap[k]?=w4.heap[k]?:=fun k hk=>old _ _ _ (by omega)
 refine⟨b4.alloc b4.size _,by rw[sz,s4];omega,?_,?_,?_,?_,?_,m5⟩
 .rw[o5 _ (by omega),o4 _ (by omega),o3 _ (by omega),o2 _ (by omega),o1 _ (by omega)];exact e0
 .exact m1.of_block (by rw[o5 _ (by omega),o4 _ (by omega),o3 _ (by omega),o2 _ (by omega)])
 .exact m2.of_block (by rw[o5 _ (by omega),o4 _ (by omega),o3 _ (by omega)])
 .exact m3.of_block (by rw[o5 _ (by omega),o4 _ (by omega)])
 .exact m4.of_block (by rw[o5 _ (by omega)])
theorem below_drewN{B:Nat}{w W:World}(h:Below B w W)(q:Nat):Below B w (W.drewN q):=⟨h.os,h.tape,h.output,h.size,h.block⟩
theorem zero_calls(a:AddrT)(W:World):Calls Tryz.prog 115 #[.agg #[.bool a.1,.int .u64 a.2.1,.int .u64 a.2.2]] W fun e W'=>e=.returned (.bool (decide (a=zA)))/\Below W.heap.size W W':=by
 have hty:wZ ⟨[.d tyAd],[(.bool,[])],none⟩ [] (call Z.FT 200004 115) (nfN Z.TN 200004 115):=by
  have h:=Z.typed 200004 115;unfold aF7 at h;rw[Z.sigOk 115]at h;exact h
 have hx:Z.n115 200004 a=some (decide (a=zA)):=by
  rw[Z.e115];refine letB rfl ?_;obtain⟨b,x,y⟩:=a;congr 1;simp only[zA,Prod.mk.injEq];rw[Bool.eq_iff_iff];simp
 refine(calls_typed (Z.tableOk) (f:=115) (ps:=[.d tyAd]) (rs:=[(.bool,[])]) (vf:=Z.vf115) rfl hty (dbTy (.inl rfl)) (by decide) (fun _ _=>trivial) (Q:=fun _=>True) hx ⟨_,_,rfl,⟨⟨_,_,rfl,rfl,_,_,rfl,rfl,rfl⟩,rfl⟩,rfl⟩).mono fun e W' ⟨rcs,e1,e2,e3⟩=>⟨?_,e2⟩
 obtain⟨c1,cs1,rfl,h1,rfl⟩:=e3;have h1:[c1]=[.bool (decide (a=zA))]:=hv_one h1 rfl;cases h1;rw[e1];rfl
abbrev mW(wr:World)(m:MemT)(o:Option Addr)(k c:Nat):World:=wr.alloc (.cells #[.int .i64 m.1,.string ⟨m.2.1.toArray⟩,.string ⟨m.2.2.1.toArray⟩,.int .i64 m.2.2.2.1,.int .i64 m.2.2.2.2.1,.slice o k c] 39)
abbrev pW(wr:World)(p:PortT)(o:Option Addr)(k c:Nat):World:=wr.alloc (.cells #[.int .i64 p.1,.int .i64 p.2.1,.int .i64 p.2.2.1,.slice o k c,.bool (v4L p).1,.int .u64 (v4L p).2.1,.int .u64 (v4L p).2.2,.bool (v6L p).1,.int .u64 (v6L p).2.1,.int .u64 (v6L p).2.2] 69)
abbrev aW(wr:World)(m:MacT):World:=wr.alloc (.cells #[.int .u8 m.1,.int .u8 m.2.1,.int .u8 m.2.2.1,.int .u8 m.2.2.2.1,.int .u8 m.2.2.2.2.1,.int .u8 m.2.2.2.2.2] 51)
theorem alloc_below(wr:World)(o:Obj):Below wr.heap.size wr (wr.alloc o):=(Below.refl _ _).alloc (Nat.le_refl _) _
theorem alloc_cell(wr:World)(cs:Array Value)(t:TypeId):(wr.alloc (.cells cs t)).heap[wr.heap.size]?=some (.cells cs t):=heap_alloc_new wr _
theorem box_at{w:World}{b i:Nat}{dc:Array Value}{t:TypeId}(h:w.heap[b]?=some (.cells dc t)):w.cell? ⟨b,i,none⟩=dc[i]?:=by
 simp[World.cell?,h]
/-- Within the rounds over ports: the sets,what is read,the port's copy in block b. -/
structure PoS(w w3 W:World)(dc:Array Value)(S:List Int)(N:List (List UInt8))(I:List Int)(D:List MacT)(A:List AddrT)(b:Nat)(p:PortT)(o:Option Addr)(k c:Nat):Prop where
 tw:TwW w W dc S N I D A
 ck:CK w3 W
 cells:W.heap[b]?=some (.cells #[.int .i64 p.1,.int .i64 p.2.1,.int .i64 p.2.2.1,.slice o k c,.bool (v4L p).1,.int .u64 (v4L p).2.1,.int .u64 (v4L p).2.2,.bool (v6L p).1,.int .u64 (v6L p).2.1,.int .u64 (v6L p).2.2] 69)
 lt:w.heap.size+6<=b
section
variable{w w3 W W2:World}{dc:Array Value}{S I:List Int}{N:List (List UInt8)}{D:List MacT}{A:List AddrT}{b k c:Nat}{p:PortT}{o:Option Addr}
theorem PoS.go(h:PoS w w3 W dc S N I D A b p o k c)(hb:Below W.heap.size W W2):PoS w w3 W2 dc S N I D A b p o k c:=
 ⟨h.tw.go hb,h.ck.trans (CK.below hb),(hb.block b (Array.getElem?_eq_some_iff.1 h.cells).1).trans h.cells,h.lt⟩
theorem PoS.at(h:PoS w w3 W dc S N I D A b p o k c):W.cell? ⟨b,3,none⟩=some (.slice o k c)/\W.cell? ⟨b,4,none⟩=some (.bool (v4L p).1)/\W.cell? ⟨b,5,none⟩=some (.int .u64 (v4L p).2.1)/\W.cell? ⟨b,6,none⟩=some (.int .u64 (v4L p).2.2)/\W.cell? ⟨b,7,none⟩=some (.bool (v6L p).1)/\W.cell? ⟨b,8,none⟩=some (.int .u64 (v6L p).2.1)/\W.cell? ⟨b,9,none⟩=some (.int .u64 (v6L p).2.2):=
 ⟨box_at h.cells,box_at h.cells,box_at h.cells,box_at h.cells,box_at h.cells,box_at h.cells,box_at h.cells⟩
theorem PoS.put3(h:PoS w w3 W dc S N I D A b p o k c)(x:Int):∃w',(Instr.mapUpdate 146 (.map (some (w.heap.size+1+1+1))) (.int .i64 x) (.bool true)).run Tryz.prog W=.ok () w'/\PoS w w3 w' dc S N (putS x I) D A b p o k c:=by
 obtain⟨w',q1,q2,q3⟩:=h.tw.s3.put keyI Tryz.underlying146 x;have:=h.lt;exact⟨w',q1,h.tw.put (k:=3) (by omega) q3 (by simp) (by simp) (by simpa using q2) (by simp) (by simp),h.ck.trans (CK.only q3 h.tw.s3),(q3.block b (by omega)).trans h.cells,h.lt⟩
theorem PoS.put5(h:PoS w w3 W dc S N I D A b p o k c)(x:AddrT):∃w',(Instr.mapUpdate 149 (.map (some (w.heap.size+1+1+1+1+1))) (.agg #[.bool x.1,.int .u64 x.2.1,.int .u64 x.2.2]) (.bool true)).run Tryz.prog W=.ok () w'/\PoS w w3 w' dc S N I D (putS x A) b p o k c:=by
 obtain⟨w',q1,q2,q3⟩:=h.tw.s5.put keyA Tryz.underlying149 x;have:=h.lt;exact⟨w',q1,h.tw.put (k:=5) (by omega) q3 (by simp) (by simp) (by simp) (by simp) (by simpa using q2),h.ck.trans (CK.only q3 h.tw.s5),(q3.block b (by omega)).trans h.cells,h.lt⟩
theorem put4_run(h:TwW w W dc S N I D A)(hc:CK w3 W)(x:MacT):∃w',(Instr.mapUpdate 148 (.map (some (w.heap.size+1+1+1+1))) (.agg #[.int .u8 x.1,.int .u8 x.2.1,.int .u8 x.2.2.1,.int .u8 x.2.2.2.1,.int .u8 x.2.2.2.2.1,.int .u8 x.2.2.2.2.2]) (.bool true)).run Tryz.prog W=.ok () w'/\(TwW w w' dc S N I (putS x D) A/\CK w3 w'):=by
 obtain⟨w',q1,q2,q3⟩:=h.s4.put keyM Tryz.underlying148 x;exact⟨w',q1,h.put (k:=4) (by omega) q3 (by simp) (by simp) (by simp) (by simpa using q2) (by simp),hc.trans (CK.only q3 h.s4)⟩
end
set_option maxHeartbeats 8000000 in
set_option maxRecDepth 100000 in
theorem twice_walk(d:DbT)(hd:SmD d)(x0 x1 x2 x3 x4 x5 x6 x7:Value)(o1 o2:Option Addr)(n1 n2 c1 c2:Nat)(w:World)(hv:HC w (fun b=>b<w.heap.size) tyDb d [x0,x1,x2,x3,x4,x5,x6,x7,.slice o1 n1 c1,.slice o2 n2 c2])
  (hS:HC w (fun b=>b<w.heap.size) (.sl tyMe) (srv d) [.slice o1 n1 c1]) (hM:HC w (fun b=>b<w.heap.size) (.sl tyMe) (mem d) [.slice o2 n2 c2]) :
  Calls Tryz.prog 75 #[.agg #[x0,x1,x2,x3,x4,x5,x6,x7,.slice o1 n1 c1,.slice o2 n2 c2]] w (TwPost w (twD d)):=by
 have hmm:=@run_makeMap Tryz.prog;have e49:∀args w,(callFunc 49 args).run Tryz.prog w=.ok (.enter 49 args) w:=fun args w=>by kernel_rfl
 have e115:∀args w,(callFunc 115 args).run Tryz.prog w=.ok (.enter 115 args) w:=fun args w=>by kernel_rfl
 have mixed:Tryz.prog.follows Departure.mixedOrders=true:=by kernel_rfl
 have H0:=Lib.hid (TwW.start w #[x0,x1,x2,x3,x4,x5,x6,x7,.slice o1 n1 c1,.slice o2 n2 c2]);obtain rfl:n1=(srv d).length:=sl_len hS;obtain rfl:n2=(mem d).length:=sl_len hM;have HS:=Lib.hid hS;have HM:=Lib.hid hM;have HVd:=Lib.hid hv;have HD:=Lib.hid hd;clear hS hM hv hd
 go_enter Tryz.func75,Tryz.ntmps75
 go_wp2
 go_loopg [26] (srv d).length (fun gg s26 wr=>∃(i:Nat) (S:List Int),s26=.int .i64 i/\i<=(srv d).length/\(srv d).length-i<=gg/\Aside (TwW w wr #[x0,x1,x2,x3,x4,x5,x6,x7,.slice o1 (srv d).length c1,.slice o2 (mem d).length c2] S [] [] [] [])/\Aside (foldO (twSrv (firstA d)) ((srv d).drop i) S=foldO (twSrv (firstA d)) (srv d) []))
 case atStart=>exact⟨0,[],rfl,by omega,by omega,H0.out,(show Aside _ from rfl)⟩
 case round=>
  obtain⟨i,S,rfl,hin,hgg,I,F⟩:=hrel;by_cases hlt:i<(srv d).length
  .have hltz:(i:Int)<((srv d).length:Int):=by omega
   have h0z:(0:Int)<((srv d).length:Int):=by omega
   have hlen:=HD.out.srv;obtain⟨a,rfl⟩:=sl_some HS.out (by omega);obtain⟨o,k,c',hP,hAt⟩:=mem_at HS.out hlt;obtain⟨o',k',c'',_,hAt0⟩:=mem_at HS.out (show 0<(srv d).length by omega);have hb1:Below w.heap.size w (wr.alloc (.cells #[.int .i64 (srv d)[i].1,.string ⟨(srv d)[i].2.1.toArray⟩,.string ⟨(srv d)[i].2.2.1.toArray⟩,.int .i64 (srv d)[i].2.2.2.1,.int .i64 (srv d)[i].2.2.2.2.1,.slice o k c'] 39)):=I.out.bel.alloc I.out.bel.size _;have hT1:=I.out.go (w2:=wr.alloc (.cells #[.int .i64 (srv d)[i].1,.string ⟨(srv d)[i].2.1.toArray⟩,.string ⟨(srv d)[i].2.2.1.toArray⟩,.int .i64 (srv d)[i].2.2.2.1,.int .i64 (srv d)[i].2.2.2.2.1,.slice o k c'] 39)) ((Below.refl _ _).alloc (Nat.le_refl _) _);obtain⟨l0,l1,l2,l3,l4,l5⟩:=hAt wr (CK.below I.out.bel);have f0:=(hAt0 _ (CK.below hb1)).e0;have f8:(wr.alloc (.cells #[.int .i64 (srv d)[i].1,.string ⟨(srv d)[i].2.1.toArray⟩,.string ⟨(srv d)[i].2.2.1.toArray⟩,.int .i64 (srv d)[i].2.2.2.1,.int .i64 (srv d)[i].2.2.2.2.1,.slice o k c'] 39)).cell? ⟨w.heap.size,8,none⟩=some (.slice (some a) (srv d).length c1):=box_at hT1.box;have hfa:(srv d)[0].1=firstA d:=by
    unfold firstA;split
    .rename_i h;rw[h]at hlt;cases hlt
    .rename_i h;simp[h]
   rw[hfa]at f0;have f0:(wr.alloc (.cells #[.int .i64 (srv d)[i].1,.string ⟨(srv d)[i].2.1.toArray⟩,.string ⟨(srv d)[i].2.2.1.toArray⟩,.int .i64 (srv d)[i].2.2.2.1,.int .i64 (srv d)[i].2.2.2.2.1,.slice o k c'] 39)).cell? a=some (.int .i64 (firstA d)):=f0;have HB:Aside (∀q,Below w.heap.size w ((wr.alloc (.cells #[.int .i64 (srv d)[i].1,.string ⟨(srv d)[i].2.1.toArray⟩,.string ⟨(srv d)[i].2.2.1.toArray⟩,.int .i64 (srv d)[i].2.2.2.1,.int .i64 (srv d)[i].2.2.2.2.1,.slice o k c'] 39)).drewN q)):=fun q=>below_drewN hb1 q
   have HP:Aside (∀q,∃w',(Instr.mapUpdate 146 (.map (some (w.heap.size+1))) (.int .i64 (srv d)[i].1) (.bool true)).run Tryz.prog ((wr.alloc (.cells #[.int .i64 (srv d)[i].1,.string ⟨(srv d)[i].2.1.toArray⟩,.string ⟨(srv d)[i].2.2.1.toArray⟩,.int .i64 (srv d)[i].2.2.2.1,.int .i64 (srv d)[i].2.2.2.2.1,.slice o k c'] 39)).drewN q)=.ok () w'/\TwW w w' #[x0,x1,x2,x3,x4,x5,x6,x7,.slice (some a) (srv d).length c1,.slice o2 (mem d).length c2] (putS (srv d)[i].1 S) [] [] [] []):=fun q=>by
    have hT1:=hT1.go (below_drewN (Below.refl _ _) q);obtain⟨w',q1,q2,q3⟩:=hT1.s1.put keyI Tryz.underlying146 (srv d)[i].1;exact⟨w',q1,hT1.put (k:=1) (by omega) q3 (by simpa using q2) (by simp) (by simp) (by simp) (by simp)⟩
   clear hT1 hb1 hAt hAt0 hP hfa;by_cases he:(srv d)[i].1=firstA d
   .have hst:twSrv (firstA d) (srv d)[i] S=some (putS (srv d)[i].1 S):=by unfold twSrv;rw[if_pos he]
    have HF:=Lib.hid (foldO_ok hlt F.out hst);clear hst;have hz1:((srv d)[i].1 != firstA d)=false:=by simp[he]
    clear he
    go_wp2
    go_quiet (fail)
    go_wp2_with (at_mapUpdate;refine wpList_put_ex (by rfl) _ _ _ 146 (by rfl) _ _ _ (by rfl) (by rfl) (by rfl) (HP.out _) ?_;rintro w7 hp7;have K7:=Lib.hid hp7;clear hp7)
    go_roundg ((srv d).length-(i+1))
    case measure=>omega
    case rel=>exact⟨i+1,_,by go_num,by omega,Nat.le_refl _,K7.out,HF.out⟩
   .have hst:twSrv (firstA d) (srv d)[i] S=none:=by unfold twSrv;rw[if_neg he]
    have HF:=Lib.hid (foldO_no hlt F.out hst);clear hst;have hz1:((srv d)[i].1 != firstA d)=true:=by simp[he]
    clear he
    go_wp2
    go_quiet (fail)
    go_wp2
    go_ret
    refine⟨?_,HB.out _⟩;unfold twD;rw[HF.out];rfl
  .obtain rfl:i=(srv d).length:=by omega
   have hltz:¬((srv d).length:Int)<((srv d).length:Int):=by omega
   have HF1:=Lib.hid (foldO_end F.out);have f9:wr.cell? ⟨w.heap.size,9,none⟩=some (.slice o2 (mem d).length c2):=box_at I.out.box;clear F
   go_wp2
   go_loopg [45] (mem d).length (fun gg s45 wr=>∃(j:Nat) (T:List Int),s45=.int .i64 j/\j<=(mem d).length/\(mem d).length-j<=gg/\Aside (TwW w wr #[x0,x1,x2,x3,x4,x5,x6,x7,.slice o1 (srv d).length c1,.slice o2 (mem d).length c2] T [] [] [] [])/\Aside (foldO twMem ((mem d).drop j) T=foldO twMem (mem d) S))
   case atStart=>exact⟨0,S,rfl,by omega,by omega,I.out,(show Aside _ from rfl)⟩
   case round=>
    clear I;obtain⟨j,T,rfl,hjn,hgg,I,F⟩:=hrel;by_cases hlt:j<(mem d).length
    .have hltz:(j:Int)<((mem d).length:Int):=by omega
     have hlen:=HD.out.mem;obtain⟨a,rfl⟩:=sl_some HM.out (by omega);obtain⟨o,k,c',hP,hAt⟩:=mem_at HM.out hlt;have hb1:Below w.heap.size w (wr.alloc (.cells #[.int .i64 (mem d)[j].1,.string ⟨(mem d)[j].2.1.toArray⟩,.string ⟨(mem d)[j].2.2.1.toArray⟩,.int .i64 (mem d)[j].2.2.2.1,.int .i64 (mem d)[j].2.2.2.2.1,.slice o k c'] 39)):=I.out.bel.alloc I.out.bel.size _;have hT1:=I.out.go (w2:=wr.alloc (.cells #[.int .i64 (mem d)[j].1,.string ⟨(mem d)[j].2.1.toArray⟩,.string ⟨(mem d)[j].2.2.1.toArray⟩,.int .i64 (mem d)[j].2.2.2.1,.int .i64 (mem d)[j].2.2.2.2.1,.slice o k c'] 39)) ((Below.refl _ _).alloc (Nat.le_refl _) _);obtain⟨l0,l1,l2,l3,l4,l5⟩:=hAt wr (CK.below I.out.bel);have HB:=Lib.hid hb1;have hl:(Instr.lookup 146 (.map (some (w.heap.size+1))) (.int .i64 (mem d)[j].1) false).run Tryz.prog (wr.alloc (.cells #[.int .i64 (mem d)[j].1,.string ⟨(mem d)[j].2.1.toArray⟩,.string ⟨(mem d)[j].2.2.1.toArray⟩,.int .i64 (mem d)[j].2.2.2.1,.int .i64 (mem d)[j].2.2.2.2.1,.slice o k c'] 39))=.ok (.bool (decide ((mem d)[j].1∈T))) _:=hT1.s1.look keyI Tryz.underlying146 zeroB (mem d)[j].1
     have HP:Aside (∃w',(Instr.mapUpdate 146 (.map (some (w.heap.size+1))) (.int .i64 (mem d)[j].1) (.bool true)).run Tryz.prog (wr.alloc (.cells #[.int .i64 (mem d)[j].1,.string ⟨(mem d)[j].2.1.toArray⟩,.string ⟨(mem d)[j].2.2.1.toArray⟩,.int .i64 (mem d)[j].2.2.2.1,.int .i64 (mem d)[j].2.2.2.2.1,.slice o k c'] 39))=.ok () w'/\TwW w w' #[x0,x1,x2,x3,x4,x5,x6,x7,.slice o1 (srv d).length c1,.slice (some a) (mem d).length c2] (putS (mem d)[j].1 T) [] [] [] []):=by
      obtain⟨w',q1,q2,q3⟩:=hT1.s1.put keyI Tryz.underlying146 (mem d)[j].1;exact⟨w',q1,hT1.put (k:=1) (by omega) q3 (by simpa using q2) (by simp) (by simp) (by simp) (by simp)⟩
     clear hT1 hb1 hAt hP;by_cases he:(mem d)[j].1∈T
     .have hst:twMem (mem d)[j] T=none:=by unfold twMem;rw[if_pos he]
      have HF:=Lib.hid (foldO_no hlt F.out hst);rw[decide_eq_true he]at hl;clear hst he
      go_wp2
      go_ret
      refine⟨?_,HB.out⟩;unfold twD;rw[HF1.out];unfold twRest;simp only[HF.out];rfl
     .have hst:twMem (mem d)[j] T=some (putS (mem d)[j].1 T):=by unfold twMem;rw[if_neg he]
      have HF:=Lib.hid (foldO_ok hlt F.out hst);rw[decide_eq_false he]at hl;clear hst he
      go_wp2_with (at_mapUpdate;refine wpList_put_ex (by rfl) _ _ _ 146 (by rfl) _ _ _ (by rfl) (by rfl) (by rfl) HP.out ?_;rintro w7 hp7;have K7:=Lib.hid hp7;clear hp7)
      go_roundg ((mem d).length-(j+1))
      case measure=>omega
      case rel=>exact⟨j+1,_,by go_num,by omega,Nat.le_refl _,K7.out,HF.out⟩
    .obtain rfl:j=(mem d).length:=by omega
     have hltz:¬((mem d).length:Int)<((mem d).length:Int):=by omega
     have HF2:=Lib.hid (foldO_end F.out);have HR3:Aside (foldO twMe (allM d) ([],[],[],[])=none->twD d=true):=fun h=>by
      unfold twD;rw[HF1.out];unfold twRest;simp only[HF2.out,h];rfl
     have HR3b:Aside (∀s,foldO twMe (allM d) ([],[],[],[])=some s->twD d=false):=fun s h=>by
      unfold twD;rw[HF1.out];unfold twRest;simp only[HF2.out,h];rfl
     have hhv:HV wr (fun b=>b<w.heap.size) tyDb d (.agg #[x0,x1,x2,x3,x4,x5,x6,x7,.slice o1 (srv d).length c1,.slice o2 (mem d).length c2]):=⟨hc_below I.out.bel (fun _ h=>h) HVd.out,rfl⟩;have hA:=all_calls HD.out hhv;have g0:wr.cell? ⟨w.heap.size,0,none⟩=some x0:=box_at I.out.box;have g1:wr.cell? ⟨w.heap.size,1,none⟩=some x1:=box_at I.out.box;have g2:wr.cell? ⟨w.heap.size,2,none⟩=some x2:=box_at I.out.box;have g3:wr.cell? ⟨w.heap.size,3,none⟩=some x3:=box_at I.out.box;have g4:wr.cell? ⟨w.heap.size,4,none⟩=some x4:=box_at I.out.box;have g5:wr.cell? ⟨w.heap.size,5,none⟩=some x5:=box_at I.out.box;have g6:wr.cell? ⟨w.heap.size,6,none⟩=some x6:=box_at I.out.box;have g7:wr.cell? ⟨w.heap.size,7,none⟩=some x7:=box_at I.out.box;have g8:wr.cell? ⟨w.heap.size,8,none⟩=some (.slice o1 (srv d).length c1):=box_at I.out.box;have g9:wr.cell? ⟨w.heap.size,9,none⟩=some (.slice o2 (mem d).length c2):=box_at I.out.box;clear F hhv HF1 HF2
     go_wp2_with (go_at_fn 49;refine hA.mono ?_;rintro r w3 ⟨u,rfl,hb3,hv3⟩;obtain⟨oA,nA,cA,rfl⟩:=hc_sh (hv_one hv3 rfl);obtain rfl:=sl_len (hv_one hv3 rfl);have K3:=Lib.hid (And.intro (I.out.go hb3) (hv_one hv3 rfl));clear hb3 hv3)
     --L3
     clear I g0 g1 g2 g3 g4 g5 g6 g7 g8 g9 hA
     go_loopg [60] (allM d).length (fun gg s60 wr=>∃(i:Nat) (N:List (List UInt8)) (t:T3),s60=.int .i64 i/\i<=(allM d).length/\(allM d).length-i<=gg/\Aside (TwW w wr #[x0,x1,x2,x3,x4,x5,x6,x7,.slice o1 (srv d).length c1,.slice o2 (mem d).length c2] T N t.1 t.2.2 t.2.1/\CK w3 wr)/\Aside (foldO twMe ((allM d).drop i) (N,t)=foldO twMe (allM d) ([],[],[],[])))
     case atStart=>exact⟨0,[],([],[],[]),rfl,by omega,by omega,(show Aside _ from⟨K3.out.1,CK.refl _⟩),(show Aside _ from rfl)⟩
     case round=>
      obtain⟨i,N,t,rfl,hin3,hgg3,I,F⟩:=hrel;by_cases hlt3:i<(allM d).length
      .have hltz3:(i:Int)<((allM d).length:Int):=by omega
       have hlen3:=HD.out.all;obtain⟨aA,rfl⟩:=sl_some K3.out.2 (by omega);obtain⟨o,k,c',hP,hAt⟩:=mem_at K3.out.2 hlt3;obtain rfl:=sl_len hP;have HP4:=Lib.hid hP;obtain⟨l0,l1,l2,l3,l4,l5⟩:=hAt wr I.out.2;have hT1:=I.out.1.go (w2:=mW wr (allM d)[i] o (poL (allM d)[i]).length c') (alloc_below _ _);have HB:=Lib.hid hT1.bel;have hlT:(allM d)[i].2.1∈N->(Instr.lookup 147 (.map (some (w.heap.size+1+1))) (.string ⟨(allM d)[i].2.1.toArray⟩) false).run Tryz.prog (mW wr (allM d)[i] o (poL (allM d)[i]).length c')=.ok (.bool true) (mW wr (allM d)[i] o (poL (allM d)[i]).length c'):=hT1.s2.lookT keyS Tryz.underlying147 zeroB (allM d)[i].2.1;have hlF:(allM d)[i].2.1∉N->(Instr.lookup 147 (.map (some (w.heap.size+1+1))) (.string ⟨(allM d)[i].2.1.toArray⟩) false).run Tryz.prog (mW wr (allM d)[i] o (poL (allM d)[i]).length c')=.ok (.bool false) (mW wr (allM d)[i] o (poL (allM d)[i]).length c'):=hT1.s2.lookF keyS Tryz.underlying147 zeroB (allM d)[i].2.1;have HPU:Aside (∃w',(Instr.mapUpdate 147 (.map (some (w.heap.size+1+1))) (.string ⟨(allM d)[i].2.1.toArray⟩) (.bool true)).run Tryz.prog (mW wr (allM d)[i] o (poL (allM d)[i]).length c')=.ok () w'/\(TwW w w' #[x0,x1,x2,x3,x4,x5,x6,x7,.slice o1 (srv d).length c1,.slice o2 (mem d).length c2] T (putS (allM d)[i].2.1 N) t.1 t.2.2 t.2.1/\CK w3 w')/\w'.cell? ⟨wr.heap.size,5,none⟩=some (.slice o (poL (allM d)[i]).length c')):=by
        obtain⟨w',q1,q2,q3⟩:=hT1.s2.put keyS Tryz.underlying147 (allM d)[i].2.1;refine⟨w',q1,⟨hT1.put (k:=2) (by omega) q3 (by simp) (by simpa using q2) (by simp) (by simp) (by simp),(I.out.2.trans (CK.below (alloc_below _ _))).trans (CK.only q3 hT1.s2)⟩,?_⟩;have hg:=I.out.1.big;rw[World.cell?_of_block (w:=mW wr (allM d)[i] o (poL (allM d)[i]).length c') (q3.block _ (by show wr.heap.size≠_;omega))];exact box_at (alloc_cell _ _ _)
       clear hT1 hAt hP;by_cases he:(allM d)[i].2.1∈N
       .have hst:twMe (allM d)[i] (N,t)=none:=by unfold twMe;rw[if_pos he]
        have HF:=Lib.hid (foldO_no hlt3 F.out hst);have hl:=hlT he;clear hst he hlT hlF;unfold mW at hl HB
        go_wp2
        go_ret
        refine⟨?_,HB.out⟩;rw[HR3.out HF.out];rfl
       .have HNE:Aside ((allM d)[i].2.1∉N):=he;have HR4:Aside (foldO twPo (poL (allM d)[i]) t=none->twD d=true):=fun h=>HR3.out (foldO_no hlt3 F.out (by unfold twMe;rw[if_neg HNE.out];simp only[h]))
        have HR4b:Aside (∀t',foldO twPo (poL (allM d)[i]) t=some t'->foldO twMe ((allM d).drop (i+1)) (putS (allM d)[i].2.1 N,t')=foldO twMe (allM d) ([],[],[],[])):=fun t' h=>foldO_ok hlt3 F.out (by unfold twMe;rw[if_neg HNE.out];simp only[h])
        have hl:=hlF he;clear he F I hlT hlF;unfold mW at hl
        go_wp2_with (at_mapUpdate;refine wpList_put_ex (by rfl) _ _ _ 147 (by rfl) _ _ _ (by rfl) (by rfl) (by rfl) HPU.out ?_;rintro w7 ⟨hp7,hp8⟩;have K7:=Lib.hid hp7;clear hp7)
        --L4
        go_loopg [74] (poL (allM d)[i]).length (fun gg s74 wr=>∃(q:Nat) (t4:T3),s74=.int .i64 q/\q<=(poL (allM d)[i]).length/\(poL (allM d)[i]).length-q<=gg/\Aside (TwW w wr #[x0,x1,x2,x3,x4,x5,x6,x7,.slice o1 (srv d).length c1,.slice o2 (mem d).length c2] T (putS (allM d)[i].2.1 N) t4.1 t4.2.2 t4.2.1/\CK w3 wr)/\Aside (foldO twPo ((poL (allM d)[i]).drop q) t4=foldO twPo (poL (allM d)[i]) t))
        case atStart=>exact⟨0,t,rfl,by omega,by omega,(show Aside _ from K7.out),(show Aside _ from rfl)⟩
        case round=>
         obtain⟨q,t4,rfl,hq,hgg4,I,F⟩:=hrel;obtain⟨I4,A4,D4⟩:=t4;by_cases hlt4:q<(poL (allM d)[i]).length
         .have hltz4:(q:Int)<((poL (allM d)[i]).length:Int):=by omega
          have hlen4:(poL (allM d)[i]).length<=40:=HD.out.po _ (List.getElem_mem hlt3);obtain⟨a4,rfl⟩:=sl_some HP4.out (by omega);obtain⟨o5,k5,c5,hP,hAt⟩:=po_at HP4.out hlt4;obtain rfl:=sl_len hP;have HP5:=Lib.hid hP;obtain⟨p,hp⟩:∃p,p=(poL (allM d)[i])[q]:=⟨_,rfl⟩;have hpm:p∈allP d:=by rw[hp];exact List.mem_flatMap.2 ⟨_,List.getElem_mem hlt3,List.getElem_mem hlt4⟩
          have hAt:=hAt wr I.out.2;rw[<-hp]at hAt;have HP5:Hid (HC w3 (fun b=>b<w3.heap.size) (.sl tyMac) (maL p) [.slice o5 (maL p).length c5]):=by rw[hp];exact HP5
          obtain⟨l0,l1,l2,l3,l4,l5,l6,l7,l8,l9⟩:=hAt;have hT1:=I.out.1.go (w2:=pW wr p o5 (maL p).length c5) (alloc_below _ _);have HB:=Lib.hid hT1.bel;have KP:Aside (PoS w w3 (pW wr p o5 (maL p).length c5) #[x0,x1,x2,x3,x4,x5,x6,x7,.slice o1 (srv d).length c1,.slice o2 (mem d).length c2] T (putS (allM d)[i].2.1 N) I4 D4 A4 wr.heap.size p o5 (maL p).length c5):=⟨hT1,I.out.2.trans (CK.below (alloc_below _ _)),alloc_cell _ _ _,I.out.1.big⟩;have m1:(Instr.lookup 146 (.map (some (w.heap.size+1+1+1))) (.int .i64 p.1) false).run Tryz.prog (pW wr p o5 (maL p).length c5)=.ok (.bool (decide (p.1∈I4))) (pW wr p o5 (maL p).length c5):=hT1.s3.look keyI Tryz.underlying146 zeroB p.1;have m2T:v4L p∈A4->(Instr.lookup 149 (.map (some (w.heap.size+1+1+1+1+1))) (.agg #[.bool (v4L p).1,.int .u64 (v4L p).2.1,.int .u64 (v4L p).2.2]) false).run Tryz.prog (pW wr p o5 (maL p).length c5)=.ok (.bool true) (pW wr p o5 (maL p).length c5):=hT1.s5.lookT keyA Tryz.underlying149 zeroB (v4L p);have m2F:v4L p∉A4->(Instr.lookup 149 (.map (some (w.heap.size+1+1+1+1+1))) (.agg #[.bool (v4L p).1,.int .u64 (v4L p).2.1,.int .u64 (v4L p).2.2]) false).run Tryz.prog (pW wr p o5 (maL p).length c5)=.ok (.bool false) (pW wr p o5 (maL p).length c5):=hT1.s5.lookF keyA Tryz.underlying149 zeroB (v4L p)
          have m3T:v6L p∈A4->(Instr.lookup 149 (.map (some (w.heap.size+1+1+1+1+1))) (.agg #[.bool (v6L p).1,.int .u64 (v6L p).2.1,.int .u64 (v6L p).2.2]) false).run Tryz.prog (pW wr p o5 (maL p).length c5)=.ok (.bool true) (pW wr p o5 (maL p).length c5):=hT1.s5.lookT keyA Tryz.underlying149 zeroB (v6L p);have m3F:v6L p∉A4->(Instr.lookup 149 (.map (some (w.heap.size+1+1+1+1+1))) (.agg #[.bool (v6L p).1,.int .u64 (v6L p).2.1,.int .u64 (v6L p).2.2]) false).run Tryz.prog (pW wr p o5 (maL p).length c5)=.ok (.bool false) (pW wr p o5 (maL p).length c5):=hT1.s5.lookF keyA Tryz.underlying149 zeroB (v6L p);have HFO:Aside (foldO twPo ((poL (allM d)[i]).drop q) (I4,A4,D4)=foldO twPo (poL (allM d)[i]) t):=F.out;have HPE:Aside (p=(poL (allM d)[i])[q]):=hp;have HRN:Aside (twPo p (I4,A4,D4)=none->twD d=true):=fun h=>HR4.out (foldO_no hlt4 F.out (by rw[<-hp];exact h))
          have HPM:Aside (p∈allP d):=hpm;unfold pW at m1 m2T m2F m3T m3F HB;clear hT1 hP hp hpm F;by_cases hbad:p.1∈I4\/v4L p∈A4\/v6L p∈A4
          .have HRN2:Aside (twD d=true):=HRN.out (by unfold twPo;rw[if_pos hbad]);by_cases b1:p.1∈I4
           .rw[decide_eq_true b1]at m1;clear m2T m2F m3T m3F b1 hbad
            go_wp2
            go_ret
            refine⟨?_,HB.out⟩;rw[HRN2.out];rfl
           .rw[decide_eq_false b1]at m1;by_cases b2:v4L p∈A4
            .have m2:=m2T b2;clear m2T m2F m3T m3F b1 b2 hbad
             go_wp2
             go_ret
             refine⟨?_,HB.out⟩;rw[HRN2.out];rfl
            · have b3 : v6L p ∈ A4 := by
                rcases hbad with h|h|h
                .exact absurd h b1
                .exact absurd h b2
                .exact h
              have m2:=m2F b2;have m3:=m3T b3;clear m2T m2F m3T m3F b1 b2 b3 hbad
              go_wp2
              go_ret
              refine⟨?_,HB.out⟩;rw[HRN2.out];rfl
          .have b1:p.1∉I4:=fun h=>hbad (.inl h)
           have b2:v4L p∉A4:=fun h=>hbad (.inr (.inl h))
           have b3:v6L p∉A4:=fun h=>hbad (.inr (.inr h))
           have HNB:Aside (¬(p.1∈I4\/v4L p∈A4\/v6L p∈A4)):=hbad;rw[decide_eq_false b1]at m1;have m2:=m2F b2;have m3:=m3F b3;clear m2T m2F m3T m3F b1 b2 b3 hbad I
           --L5
           have HRO:Aside (∀D',foldO twMac (maL p) D4=some D'->foldO twPo ((poL (allM d)[i]).drop (q+1)) (putS p.1 I4,putA (v6L p) (putA (v4L p) A4),D')=foldO twPo (poL (allM d)[i]) t):=fun D' h=>foldO_ok hlt4 HFO.out (by rw[<-HPE.out];unfold twPo;rw[if_neg HNB.out];simp only[h])
           have HRN5:Aside (foldO twMac (maL p) D4=none->twD d=true):=fun h=>HRN.out (by unfold twPo;rw[if_neg HNB.out];simp only[h])
           clear HRN HFO HNB;obtain⟨z4,hz4⟩:∃z,decide (v4L p=zA)=z:=⟨_,rfl⟩;obtain⟨z6,hz6⟩:∃z,decide (v6L p=zA)=z:=⟨_,rfl⟩;have Z4:Aside (∀W:World,Calls Tryz.prog 115 #[.agg #[.bool (v4L p).1,.int .u64 (v4L p).2.1,.int .u64 (v4L p).2.2]] W fun e W'=>e=.returned (.bool z4)/\Below W.heap.size W W'):=fun W=>by rw[<-hz4];exact zero_calls _ W
           have Z6:Aside (∀W:World,Calls Tryz.prog 115 #[.agg #[.bool (v6L p).1,.int .u64 (v6L p).2.1,.int .u64 (v6L p).2.2]] W fun e W'=>e=.returned (.bool z6)/\Below W.heap.size W W'):=fun W=>by rw[<-hz6];exact zero_calls _ W
           have HA:Aside (putA (v6L p) (putA (v4L p) A4)=(if z6=true then id else putS (v6L p)) ((if z4=true then id else putS (v4L p)) A4)):=by
            show putA _ _=_;unfold putA;subst hz4;subst hz6;by_cases q4:v4L p=zA<;>by_cases q6:v6L p=zA<;>simp[q4,q6]
           clear hz4 hz6;have hlen5:(maL p).length<=1000:=HD.out.ma p HPM.out;cases z4<;>cases z6
           all_goals
            go_wp2_with (first
             |(at_mapUpdate;refine wpList_put_ex (by rfl) _ _ _ 146 (by rfl) _ _ _ (by rfl) (by rfl) (by rfl) (KP.out.put3 _) ?_;rintro w8 hp8;obtain⟨y3,y4,y5,y6,y7,y8,y9⟩:=hp8.at;have K8:=Lib.hid hp8;clear hp8)
             |(go_at_fn 115;refine(Z4.out _).mono ?_;rintro r w9 ⟨rfl,hb9⟩;have hp9:=K8.out.go hb9;obtain⟨y3,y4,y5,y6,y7,y8,y9⟩:=hp9.at;have K9:=Lib.hid hp9;have K10:=K9;clear hp9 hb9)
             |(at_mapUpdate;refine wpList_put_ex (by rfl) _ _ _ 149 (by rfl) _ _ _ (by rfl) (by rfl) (by rfl) (K9.out.put5 (v4L p)) ?_;rintro w10 hp10;obtain⟨y3,y4,y5,y6,y7,y8,y9⟩:=hp10.at;have K10:=Lib.hid hp10;clear hp10)
             |(go_at_fn 115;refine(Z6.out _).mono ?_;rintro r w11 ⟨rfl,hb11⟩;have hp11:=K10.out.go hb11;obtain⟨y3,y4,y5,y6,y7,y8,y9⟩:=hp11.at;have K11:=Lib.hid hp11;have K12:=K11;clear hp11 hb11)
             |(at_mapUpdate;refine wpList_put_ex (by rfl) _ _ _ 149 (by rfl) _ _ _ (by rfl) (by rfl) (by rfl) (K11.out.put5 (v6L p)) ?_;rintro w12 hp12;obtain⟨y3,y4,y5,y6,y7,y8,y9⟩:=hp12.at;have K12:=Lib.hid hp12;clear hp12))
            have KL:Aside (TwW w _ #[x0,x1,x2,x3,x4,x5,x6,x7,.slice o1 (srv d).length c1,.slice o2 (mem d).length c2] T (putS (allM d)[i].2.1 N) (putS p.1 I4) D4 (putA (v6L p) (putA (v4L p) A4))/\CK w3 _):=⟨by rw[HA.out];exact K12.out.tw,K12.out.ck⟩
            go_loopg [114] (maL p).length (fun gg s114 wr=>∃(r:Nat) (D5:List MacT),s114=.int .i64 r/\r<=(maL p).length/\(maL p).length-r<=gg/\Aside (TwW w wr #[x0,x1,x2,x3,x4,x5,x6,x7,.slice o1 (srv d).length c1,.slice o2 (mem d).length c2] T (putS (allM d)[i].2.1 N) (putS p.1 I4) D5 (putA (v6L p) (putA (v4L p) A4))/\CK w3 wr)/\Aside (foldO twMac ((maL p).drop r) D5=foldO twMac (maL p) D4))
            case atStart=>exact⟨0,D4,rfl,by omega,by omega,KL,(show Aside _ from rfl)⟩
            case round=>
             obtain⟨r,D5,rfl,hr5,hgg5,I,F⟩:=hrel;by_cases hlt5:r<(maL p).length
             .have hltz5:(r:Int)<((maL p).length:Int):=by omega
              obtain⟨a5,rfl⟩:=sl_some HP5.out (by omega);obtain⟨x,hx⟩:∃x,x=(maL p)[r]:=⟨_,rfl⟩;have hAt:=mac_at HP5.out hlt5 wr I.out.2;rw[<-hx]at hAt;obtain⟨l0,l1,l2,l3,l4,l5⟩:=hAt;have hT1:=I.out.1.go (w2:=aW wr x) (alloc_below _ _);have HB:=Lib.hid hT1.bel;have hlT:x∈D5->(Instr.lookup 148 (.map (some (w.heap.size+1+1+1+1))) (.agg #[.int .u8 x.1,.int .u8 x.2.1,.int .u8 x.2.2.1,.int .u8 x.2.2.2.1,.int .u8 x.2.2.2.2.1,.int .u8 x.2.2.2.2.2]) false).run Tryz.prog (aW wr x)=.ok (.bool true) (aW wr x):=hT1.s4.lookT keyM Tryz.underlying148 zeroB x;have hlF:x∉D5->(Instr.lookup 148 (.map (some (w.heap.size+1+1+1+1))) (.agg #[.int .u8 x.1,.int .u8 x.2.1,.int .u8 x.2.2.1,.int .u8 x.2.2.2.1,.int .u8 x.2.2.2.2.1,.int .u8 x.2.2.2.2.2]) false).run Tryz.prog (aW wr x)=.ok (.bool false) (aW wr x):=hT1.s4.lookF keyM Tryz.underlying148 zeroB x;have HPU5:=Lib.hid (put4_run hT1 (I.out.2.trans (CK.below (alloc_below _ _))) x);unfold aW at hlT hlF HB HPU5;have HRN6:Aside (x∈D5->twD d=true):=fun h=>HRN5.out (foldO_no hlt5 F.out (by rw[<-hx];unfold twMac;rw[if_pos h]))
              have HRO6:Aside (x∉D5->foldO twMac ((maL p).drop (r+1)) (putS x D5)=foldO twMac (maL p) D4):=fun h=>foldO_ok hlt5 F.out (by rw[<-hx];unfold twMac;rw[if_neg h])
              clear hT1 F hx I;by_cases he:x∈D5
              .have hl:=hlT he;have HF:=Lib.hid (HRN6.out he);clear hlT hlF he
               go_wp2
               go_ret
               refine⟨?_,HB.out⟩;rw[HF.out];rfl
              .have hl:=hlF he;have HF:=Lib.hid (HRO6.out he);clear hlT hlF he
               go_wp2_with (at_mapUpdate;refine wpList_put_ex (by rfl) _ _ _ 148 (by rfl) _ _ _ (by rfl) (by rfl) (by rfl) HPU5.out ?_;rintro w7 hp7;have K7:=Lib.hid hp7;clear hp7)
               go_roundg ((maL p).length-(r+1))
               case measure=>omega
               case rel=>exact⟨r+1,_,by go_num,by omega,Nat.le_refl _,(show Aside _ from K7.out),(show Aside _ from HF.out)⟩
             .obtain rfl:r=(maL p).length:=by omega
              have hltz:¬((maL p).length:Int)<((maL p).length:Int):=by omega
              have HF5:=Lib.hid (HRO.out _ (foldO_end F.out))
              go_wp2
              go_roundg ((poL (allM d)[i]).length-(q+1))
              case measure=>omega
              case rel=>exact⟨q+1,(putS p.1 I4,(putA (v6L p) (putA (v4L p) A4)),D5),by go_num,by omega,Nat.le_refl _,(show Aside _ from I.out),(show Aside _ from HF5.out)⟩
         .obtain rfl:q=(poL (allM d)[i]).length:=by omega
          have hltz:¬((poL (allM d)[i]).length:Int)<((poL (allM d)[i]).length:Int):=by omega
          have hlen3:=HD.out.all;have HF4:=Lib.hid (HR4b.out _ (foldO_end F.out))
          go_wp2
          go_roundg ((allM d).length-(i+1))
          case measure=>omega
          case rel=>exact⟨i+1,_,(I4,A4,D4),by go_num,by omega,Nat.le_refl _,(show Aside _ from I.out),(show Aside _ from HF4.out)⟩
      .obtain rfl:i=(allM d).length:=by omega
       have hltz:¬((allM d).length:Int)<((allM d).length:Int):=by omega
       have HF3:=Lib.hid (foldO_end F.out)
       go_wp2
       go_ret
       refine⟨?_,I.out.1.bel⟩;rw[HR3b.out _ HF3.out];rfl
end Go.Proofs.YtbpocjclcbjggaaGreatDoor
