/- The walk of the deck's attributes. -/
import Derived.Test.YtgfmodmeimhhpaaDoorHAV
import Derived.Deep.CutBlock
open List(mem_cons_self mem_cons_of_mem)
namespace Go.Proofs.YtgfmodmeimhhpaaDoor
open Go.RowKit Go.Lib Go.VM
def AtPost(G:Gh)(w:World)(dk:Nat)(V0:V)(l:List Int)(a0 asn:Int)(v6:Bool)(e:Ending)(W:World):Prop:=∃v H,e=.returned v/\DkIn G w dk V0 H W (attrsD (l,a0) asn v6).2.2/\RelL W (Adk H w W) [] (enAttrs V0 ((l,a0),asn,v6) (attrsD (l,a0) asn v6).1) [v]
set_option maxHeartbeats 8000000 in
set_option maxRecDepth 100000 in
theorem attrs_walk{G:Gh}{w:World}{dk:Nat}{V0:V}{l:List Int}{a0 asn:Int}{v6:Bool}{H0:Gh}(hC:DkC G w dk V0 l)(hA:AS G w dk V0 w a0 [] H0)(hd:DK (l,a0))(hv:DkV l V0) :
  Calls Tryd.prog 20 #[.pointer (some ⟨dk,0,none⟩),.int .i64 asn,.bool v6] w (AtPost G w dk V0 l a0 asn v6):=by
 have e8:∀args w,(callFunc 13 args).run Tryd.prog w=.ok (.enter 13 args) w:=fun args w=>by kernel_rfl
 have e30:∀args w,(callFunc 30 args).run Tryd.prog w=.ok (.enter 30 args) w:=fun args w=>by kernel_rfl
 have e31:∀args w,(callFunc 31 args).run Tryd.prog w=.ok (.enter 31 args) w:=fun args w=>by kernel_rfl
 have e32:∀args w,(callFunc 32 args).run Tryd.prog w=.ok (.enter 32 args) w:=fun args w=>by kernel_rfl
 have e33:∀args w,(callFunc 33 args).run Tryd.prog w=.ok (.enter 33 args) w:=fun args w=>by kernel_rfl
 have HC:Aside _:=hC;have HA:Aside _:=hA;have HD:Aside _:=hd;have HV:Aside _:=hv;clear hC hA hd hv
 go_enter Tryd.func20,Tryd.ntmps20
 have T1:=Lib.hid (trivial:True);have T2:=Lib.hid (trivial:True)
 go_wp2_with (first
  |(go_at_fn 30;refine(empty_call _).mono ?_;rintro r w1 ⟨rfl,hb⟩;have K1:=Lib.hid hb;clear hb)
  |(go_at_fn 13;clear T1;refine(HC.out.next _ _ _ 3 _ (as_one HA.out w1 K1.out) HD.out (by decide) (by decide)).mono ?_;rintro r w2 ⟨H2,o,a1,rfl,N1,hq,_⟩;obtain⟨q0,q1,q2,q3,q4,q5,q6,q7,q8,q9,q10⟩:=(c11_of (hq.own _ _ _ (mem_cons_self)).1).1;have qf:=(c11_of (hq.own _ _ _ (mem_cons_self)).1).2 0;have K2:=Lib.hid hq;clear hq)
  |(go_at_fn 13;clear T2;refine(HC.out.next _ _ _ 4 _ (as_two K2.out (ne_one K1.out) o asn) (dk_step HD.out N1.out) (by decide) (by decide)).mono ?_;rintro r w3 ⟨H3,k,a2,rfl,N2,hq,_⟩;obtain⟨kk,rfl,hk4⟩:=nx_nat N2.out (by decide);have K3:=Lib.hid hq;clear hq))
 have HL0:Aside (LInv G w dk V0 l w1.heap.size o asn (pathD asn kk [asn] (l,a2)) w3 w2.heap.size 1 [asn] kk):=loop_start K3.out K1.out K2.out (dk_step (dk_step HD.out N1.out) N2.out) hk4
 go_loopg [8,9] kk (fun gg s8 s9 wr=>∃(j pb cap:Nat) (p:List Int),s9=.int .i64 j/\s8=.slice (some ⟨pb,0,none⟩) p.length cap/\j<=gg/\Aside (LInv G w dk V0 l w1.heap.size o asn (pathD asn kk [asn] (l,a2)) wr pb cap p j))
 case atStart=>exact⟨kk,_,1,[asn],rfl,rfl,Nat.le_refl _,HL0⟩
 case round=>
  obtain⟨j,pb,cap,p,rfl,rfl,hgg,I⟩:=hrel;obtain⟨cur,a,H,hS,hdk,hrow,hlen,hpath,n1,n2,n3⟩:=I.out;clear I;have I1:=Lib.hid hS;have I2:Aside _:=hdk;have I3:=Lib.hid hrow;have I4:Aside _:=hlen;have I5:Aside _:=hpath;have I6:Aside _:=n1;have I7:Aside _:=n2;have I8:Aside _:=n3;clear hS hdk hrow hlen hpath n1 n2 n3;cases j with
  |succ j=>
   have hgt:(0:Int)<(j:Int)+1:=by omega
   have hw9:IntKind.i64.wrap (j:Int)=(j:Int):=by rw[IntKind.wrap_i64];have:=I4.out;omega
   go_wp2_with (first
    |(go_at_fn 13;refine(HC.out.next _ _ _ 7 _ (I1.out.alloc (arr7 asn) 3) I2.out (by decide) (by decide)).mono ?_;rintro r w4 ⟨H4,v,a4,rfl,N4,hq,_⟩;obtain⟨vn,rfl,hv7⟩:=nx_nat N4.out (by decide);have hv0:(0:Int)<=(vn:Int):=Int.natCast_nonneg _;have l4:=pick_cell hq hv7;have K4:=Lib.hid hq;clear hq)
    |(at_builtin;refine wpList_append_ex (by rfl) _ _ 22 22 (by rfl) _ _ (by rfl) (by rfl) (round_push I1.out K4.out I2.out N4.out I3.out I4.out I5.out I6.out I7.out I8.out _) ?_;rintro v7 w7 ⟨pb',cap',rfl,hp7⟩;have K7:Aside _:=hp7;clear hp7))
   go_roundg j
   case measure=>omega
   case rel=>exact⟨j,pb',cap',p++[pickD asn vn],rfl,by rw[List.length_append];rfl,Nat.le_refl _,(show Aside _ from K7)⟩
  |zero=>
   obtain⟨q0,q1,q2,q3,q4,q5,q6,q7,q8,q9,q10⟩:=(c11_of ((I1.out.alloc #[.bool false,.slice (some ⟨pb,0,none⟩) p.length cap] 63).own w1.heap.size (aCells o nilV false 0 0 (-1) (-1) (-1) nilV nilV nilV) 48 (by simp)).1).1;have qf:=(c11_of ((I1.out.alloc #[.bool false,.slice (some ⟨pb,0,none⟩) p.length cap] 63).own w1.heap.size (aCells o nilV false 0 0 (-1) (-1) (-1) nilV nilV nilV) 48 (by simp)).1).2 1;have T3:=Lib.hid (trivial:True);have M0:Aside _:=m_start I1.out I2.out I3.out I4.out I6.out I7.out I8.out
   go_upto_if 41 with(first
    |(go_at_fn 31;refine(port_call asn v6 _).mono ?_;rintro r w5 ⟨rfl,hb⟩;have M1:=M0.out.quiet hb;obtain⟨t0,t1,t2,t3,t4,t5,t6,t7,t8,t9,t10⟩:=(c11_of (M1.st.own _ _ _ mem_cons_self).1).1;have tf2:=(c11_of (M1.st.own _ _ _ mem_cons_self).1).2 2;have tf3:=(c11_of (M1.st.own _ _ _ mem_cons_self).1).2 3;have tf4:=(c11_of (M1.st.own _ _ _ mem_cons_self).1).2 4;have M2:=Lib.hid M1;clear M1 hb)
    |(go_at_fn 13;clear T3;refine(HC.out.next _ _ _ 3 _ (m_port M2.out _ _ _).st M2.out.dk (by decide) (by decide)).mono ?_;rintro r w6 ⟨H6,vm,a6,rfl,N6,hq,_⟩;have M6:=Lib.hid ((m_port M2.out _ _ _).step hq (dk_step M2.out.dk N6.out));clear hq))
   go_cut []from 41 (fun wx=>∃m a7 H7,Aside (optD (l,a) 3 3=(m,l,a7))/\Aside (mG G w dk V0 l w1.heap.size wr.heap.size pb cap cur p (aCells o (.slice (some ⟨wr.heap.size,0,none⟩) 1 1) (portD asn v6).1 (portD asn v6).2.1 (portD asn v6).2.2 m (-1) (-1) nilV nilV nilV) wx a7 H7))
   case first=>
    by_cases hv:vm=0
    .subst hv
     go_wp2_with (go_at_fn 13;refine(HC.out.next _ _ _ 3 _ M6.out.st M6.out.dk (by decide) (by decide)).mono ?_;rintro r w7 ⟨H7,vx,a7,rfl,N7,hq,_⟩;have M7:=M6.out.step hq (dk_step M6.out.dk N7.out);obtain⟨y0,y1,y2,y3,y4,y5,y6,y7,y8,y9,y10⟩:=(c11_of (M7.st.own _ _ _ mem_cons_self).1).1;have yf:=(c11_of (M7.st.own _ _ _ mem_cons_self).1).2 5;have M8:=Lib.hid M7;clear M7 hq)
     go_meet
     exact⟨vx,a7,H7,opt_yes N6.out N7.out,M8.out.set rfl⟩
    .go_wp2_with fail
     go_meet
     exact⟨-1,a6,H6,opt_no N6.out hv,M6.out⟩
   case rest=>
    obtain⟨m,a7,H7,O7,M7⟩:=hcut;have M8:=Lib.hid M7.out;clear M7;have T4:=Lib.hid (trivial:True)
    go_upto_if 47 with(go_at_fn 13;clear T4;refine(HC.out.next _ _ _ 6 _ M8.out.st M8.out.dk (by decide) (by decide)).mono ?_;rintro r w8 ⟨H8,vm8,a8,rfl,N8,hq,_⟩;have M9:=Lib.hid (M8.out.step hq (dk_step M8.out.dk N8.out));clear hq)
    go_cut []from 47 (fun wx=>∃rr a9 H9,Aside (optD (l,a7) 6 300=(rr,l,a9))/\Aside (mG G w dk V0 l w1.heap.size wr.heap.size pb cap cur p (aCells o (.slice (some ⟨wr.heap.size,0,none⟩) 1 1) (portD asn v6).1 (portD asn v6).2.1 (portD asn v6).2.2 m rr (-1) nilV nilV nilV) wx a9 H9))
    case first=>
     by_cases hv:vm8=0
     .subst hv
      go_wp2_with (go_at_fn 13;refine(HC.out.next _ _ _ 300 _ M9.out.st M9.out.dk (by decide) (by decide)).mono ?_;rintro r w9 ⟨H9,vx,a9,rfl,N9,hq,_⟩;have M10:=M9.out.step hq (dk_step M9.out.dk N9.out);obtain⟨y0,y1,y2,y3,y4,y5,y6,y7,y8,y9,y10⟩:=(c11_of (M10.st.own _ _ _ mem_cons_self).1).1;have yf:=(c11_of (M10.st.own _ _ _ mem_cons_self).1).2 6;have M11:=Lib.hid M10;clear M10 hq)
      go_meet
      exact⟨vx,a9,H9,opt_yes N8.out N9.out,M11.out.set rfl⟩
     .go_wp2_with fail
      go_meet
      exact⟨-1,a8,H8,opt_no N8.out hv,M9.out⟩
    case rest=>
     obtain⟨rr,a9,H9,O9,M9'⟩:=hcut;have M10:=Lib.hid M9'.out;clear M9';have T5:=Lib.hid (trivial:True)
     go_upto_block 2 with(first
      |(go_at_fn 32;refine(HC.out.comm _ _ _ _ M10.out.st M10.out.dk).mono ?_;rintro r w10 ⟨H10,oc,nc,cc,xc,a10,rfl,N10,hq,R10⟩;have M11:=Lib.hid (M10.out.step hq (dk_comm M10.out.dk N10));clear hq)
      |(go_at_fn 33;refine(HC.out.large _ _ _ _ M11.out.st M11.out.dk).mono ?_;rintro r w11 ⟨H11,ol,nl,cl,xl,a11,rfl,N11,hq,R11,S11⟩;have M12:=M11.out.step hq (dk_large M11.out.dk N11);obtain⟨y0,y1,y2,y3,y4,y5,y6,y7,y8,y9,y10⟩:=(c11_of (M12.st.own _ _ _ mem_cons_self).1).1;have yf8:=(c11_of (M12.st.own _ _ _ mem_cons_self).1).2 8;have yf9:=(c11_of (M12.st.own _ _ _ mem_cons_self).1).2 9;have M13:=Lib.hid M12;clear M12 hq)
      |(go_at_fn 13;clear T5;refine(HC.out.next _ _ _ 24 _ (m_cl M13.out _ _).st M13.out.dk (by decide) (by decide)).mono ?_;rintro r w12 ⟨H12,sv,a12,rfl,N12,hq,S12⟩;have M14:=Lib.hid ((m_cl M13.out _ _).step hq (dk_step M13.out.dk N12.out));clear hq))
     have hp0:0<p.length:=by have e:=(pathD_facts asn kk [asn] (l,a2) (dk_step (dk_step HD.out N1.out) N2.out)).1;rw[<-I5.out]at e;have e:p.length=_:=e;rw[e];simp;omega
     have HCN:Aside ((commW V0 a9).names=[]/\(largeW V0 a10).names=[]):=⟨comm_names M10.out.dk HV.out,large_names M11.out.dk HV.out⟩;have RC:Aside (Rel w12 (A0 H12 w12) [] (commW V0 a9) (.slice oc nc cc)):=(m_cl M13.out _ _).st.keep (rest_set (M13.out.set rfl) (rest_set M13.out (M11.out.st.keep R10.out HCN.out.1 S11.out) HCN.out.1) HCN.out.1) HCN.out.1 S12.out;have RL:Aside (Rel w12 (A0 H12 w12) [] (largeW V0 a10) (.slice ol nl cl)):=(m_cl M13.out _ _).st.keep (rest_set (M13.out.set rfl) (rest_set M13.out R11.out HCN.out.2) HCN.out.2) HCN.out.2 S12.out;clear R10 R11 S11 S12 M10 M11 M13
     go_cut []from 59 (fun wx=>∃a' path P c other pv ot H' L,Aside (swD o p m rr xc xl asn v6 (sv,l,a12)=((o,path,P,m,rr,c,xc,xl,other),l,a'))/\Aside (SwInv G w dk V0 w1.heap.size o m rr (.slice oc nc cc) (.slice ol nl cl) (commW V0 a9) (largeW V0 a10) wx a' path P c other pv ot H' L))
     case first=>
      have hs:sv=0\/sv=1\/sv=2\/sv=3\/sv=4\/sv=5\/sv=6\/sv=7\/(sv≠0/\sv≠1/\sv≠2/\sv≠3/\sv≠4/\sv≠5/\sv≠6/\sv≠7):=by omega
      rcases hs with rfl|rfl|rfl|rfl|rfl|rfl|rfl|rfl|⟨s0,s1,s2,s3,s4,s5,s6,s7⟩
      .go_wp2_with (go_at_fn 13;refine(HC.out.next _ _ _ 300 _ M14.out.st M14.out.dk (by decide) (by decide)).mono ?_;rintro r w13 ⟨H13,vx,a13,rfl,N13,hq,S13⟩;obtain⟨vn,rfl,hv3⟩:=nx_nat N13.out (by decide);have hw1:IntKind.i64.wrap (1+(vn:Int))=1+(vn:Int):=(by rw[IntKind.wrap_i64];omega);have M15:=M14.out.step hq (dk_step M14.out.dk N13.out);obtain⟨y0,y1,y2,y3,y4,y5,y6,y7,y8,y9,y10⟩:=(c11_of (M15.st.own _ _ _ mem_cons_self).1).1;have yf:=(c11_of (M15.st.own _ _ _ mem_cons_self).1).2 7;have M16:=Lib.hid M15;clear M15 hq)
       go_meet
       exact⟨a13,_,portD asn v6,_,_,_,_,H13,_,sw0 N13.out,sw_base (M16.out.set rfl) hp0 (rest_set M16.out (M14.out.st.keep RC.out HCN.out.1 S13.out) HCN.out.1) (rest_set M16.out (M14.out.st.keep RL.out HCN.out.2 S13.out) HCN.out.2)⟩
      .obtain⟨z0,z1,z2,z3,z4,z5,z6,z7,z8,z9,z9⟩:=(c11_of (M14.out.st.own _ _ _ mem_cons_self).1).1;have zf1:=(c11_of (M14.out.st.own _ _ _ mem_cons_self).1).2 1;have hp0z:(0:Int)<(p.length:Int):=by omega
       have c1:=M14.out.st.cell (b:=wr.heap.size) (j:=1) (v:=.slice (some ⟨pb,0,none⟩) p.length cap) (cs:=#[.bool false,.slice (some ⟨pb,0,none⟩) p.length cap]) (t:=63) (by simp) rfl;obtain⟨⟨pq,c2⟩,c3,hm0⟩:=m_set0 M14.out hp0 103;have M15:=Lib.hid hm0;clear hm0
       go_wp2_with fail
       go_meet
       exact⟨a12,[(false,p.set 0 103)],portD asn v6,-1,[],_,_,H12,_,sw1,sw_base M15.out (by rw[List.length_set];exact hp0) (rest_set2 M14.out (b':=pb) (A':=cur) (t':=3) (by simp) RC.out HCN.out.1) (rest_set2 M14.out (b':=pb) (A':=cur) (t':=3) (by simp) RL.out HCN.out.2)⟩
      .have c1:=M14.out.st.alloc #[.int .i64 7,.int .i64 9] 3;have c2:=(c1.alloc #[.bool true,.slice (some ⟨w12.heap.size,0,none⟩) 2 2] 63);have d1:w12.cell? ⟨w1.heap.size,1,none⟩=some (.slice (some ⟨wr.heap.size,0,none⟩) 1 1):=((c11_of (M14.out.st.own _ _ _ mem_cons_self).1).1).2.1;clear c1 c2
       go_wp2_with (at_builtin;refine wpList_append_ex (by rfl) _ _ 43 43 (by rfl) _ _ (by rfl) (by rfl) (push_seg M14.out _) ?_;rintro v7 w7 ⟨sq,cap2,cs,rfl,hp7⟩;obtain⟨y0,y1,y2,y3,y4,y5,y6,y7,y8,y9,y10⟩:=(c11_of (hp7.st.own _ _ _ mem_cons_self).1).1;have yf:=(c11_of (hp7.st.own _ _ _ mem_cons_self).1).2 1;have K7:=Lib.hid hp7;clear hp7)
       go_meet
       exact⟨a12,_,portD asn v6,-1,[],_,_,H12,_,sw2,sw_two M14.out hp0 K7.out RC.out RL.out HCN.out.1 HCN.out.2⟩
      .have hp0z:(0:Int)<(p.length:Int):=by omega
       have mixed:Tryd.prog.follows Departure.mixedOrders=true:=by kernel_rfl
       have hSB:(wr.heap.size,#[Value.bool false,.slice (some ⟨pb,0,none⟩) p.length cap],(63:TypeId))∈[(w1.heap.size,aCells o (.slice (some ⟨wr.heap.size,0,none⟩) 1 1) (portD asn v6).1 (portD asn v6).2.1 (portD asn v6).2.2 m rr (-1) (.slice oc nc cc) (.slice ol nl cl) nilV,(48:TypeId)),(wr.heap.size,#[.bool false,.slice (some ⟨pb,0,none⟩) p.length cap],63),(pb,cur,3),(w.heap.size,zAttr,48)]:=by simp
       have z1:w12.cell? ⟨w1.heap.size,1,none⟩=some (.slice (some ⟨wr.heap.size,0,none⟩) 1 1):=M14.out.st.cell mem_cons_self rfl;have c1:w12.cell? ⟨wr.heap.size,1,none⟩=some (.slice (some ⟨pb,0,none⟩) p.length cap):=M14.out.st.cell hSB rfl;have z2:(w12.alloc (.cells #[.int .i64 99] 3)).cell? ⟨w1.heap.size,1,none⟩=some (.slice (some ⟨wr.heap.size,0,none⟩) 1 1):=(M14.out.st.alloc #[.int .i64 99] 3).cell (mem_cons_of_mem _ mem_cons_self) rfl;have c2:(w12.alloc (.cells #[.int .i64 99] 3)).cell? ⟨wr.heap.size,1,none⟩=some (.slice (some ⟨pb,0,none⟩) p.length cap):=(M14.out.st.alloc #[.int .i64 99] 3).cell (mem_cons_of_mem _ hSB) rfl;clear hSB
       go_upto_region 23 with fail
       go_region_law_o (refine step_append_ex (by rfl) _ _ 22 22 (by rfl) _ _ (by rfl) (by rfl) (push_num M14.out [99] (by decide) (n:=1) rfl (ds:=#[.int .i64 99]) rfl _) ?_;rintro v7 w7 ⟨b2,cap2,cs,rfl,hp7⟩;have y1:=hp7.st.cell (b:=wr.heap.size) (j:=1) mem_cons_self rfl;have y2:=hp7.st.frozen (b:=wr.heap.size) (j:=1) mem_cons_self;have y3:=hp7.st.cell (b:=w1.heap.size) (j:=1) (v:=.slice (some ⟨wr.heap.size,0,none⟩) 1 1) (mem_cons_of_mem _ (mem_cons_of_mem _ mem_cons_self)) rfl;have K7:=Lib.hid hp7;clear hp7)
       all_goals
        go_wp2_with fail
        go_meet
        exact⟨a12,_,portD asn v6,-1,[],_,_,H12,_,sw3,sw_push M14.out hp0 rfl K7.out RC.out RL.out HCN.out.1 HCN.out.2⟩
      .go_wp2_with (go_at_fn 31;refine(port_call 104 v6 _).mono ?_;rintro r w13 ⟨rfl,hb⟩;have M15:=M14.out.quiet hb;have RC2:Aside _:=rest_quiet M14.out hb RC.out HCN.out.1;have RL2:Aside _:=rest_quiet M14.out hb RL.out HCN.out.2;obtain⟨y0,y1,y2,y3,y4,y5,y6,y7,y8,y9,y10⟩:=(c11_of (M15.st.own _ _ _ mem_cons_self).1).1;have yf2:=(c11_of (M15.st.own _ _ _ mem_cons_self).1).2 2;have yf3:=(c11_of (M15.st.own _ _ _ mem_cons_self).1).2 3;have yf4:=(c11_of (M15.st.own _ _ _ mem_cons_self).1).2 4;have M16:=Lib.hid M15;clear M15 hb)
       go_meet
       exact⟨a12,_,portD 104 v6,_,_,_,_,H12,_,sw4,sw_base (m_port2 M16.out _ _ _) hp0 (rest_port M16.out _ _ _ RC2.out HCN.out.1) (rest_port M16.out _ _ _ RL2.out HCN.out.2)⟩
      .have hp0z:(0:Int)<(p.length:Int):=by omega
       have mixed:Tryd.prog.follows Departure.mixedOrders=true:=by kernel_rfl
       have hSB:(wr.heap.size,#[Value.bool false,.slice (some ⟨pb,0,none⟩) p.length cap],(63:TypeId))∈[(w1.heap.size,aCells o (.slice (some ⟨wr.heap.size,0,none⟩) 1 1) (portD asn v6).1 (portD asn v6).2.1 (portD asn v6).2.2 m rr (-1) (.slice oc nc cc) (.slice ol nl cl) nilV,(48:TypeId)),(wr.heap.size,#[.bool false,.slice (some ⟨pb,0,none⟩) p.length cap],63),(pb,cur,3),(w.heap.size,zAttr,48)]:=by simp
       have z1:w12.cell? ⟨w1.heap.size,1,none⟩=some (.slice (some ⟨wr.heap.size,0,none⟩) 1 1):=M14.out.st.cell mem_cons_self rfl;have c1:w12.cell? ⟨wr.heap.size,1,none⟩=some (.slice (some ⟨pb,0,none⟩) p.length cap):=M14.out.st.cell hSB rfl;have z2:(w12.alloc (.cells #[.int .i64 64512,.int .i64 701] 3)).cell? ⟨w1.heap.size,1,none⟩=some (.slice (some ⟨wr.heap.size,0,none⟩) 1 1):=(M14.out.st.alloc #[.int .i64 64512,.int .i64 701] 3).cell (mem_cons_of_mem _ mem_cons_self) rfl;have c2:(w12.alloc (.cells #[.int .i64 64512,.int .i64 701] 3)).cell? ⟨wr.heap.size,1,none⟩=some (.slice (some ⟨pb,0,none⟩) p.length cap):=(M14.out.st.alloc #[.int .i64 64512,.int .i64 701] 3).cell (mem_cons_of_mem _ hSB) rfl;clear hSB
       go_upto_region 27 with fail
       go_region_law_o (refine step_append_ex (by rfl) _ _ 22 22 (by rfl) _ _ (by rfl) (by rfl) (push_num M14.out [64512,701] (by decide) (n:=2) rfl (ds:=#[.int .i64 64512,.int .i64 701]) rfl _) ?_;rintro v7 w7 ⟨b2,cap2,cs,rfl,hp7⟩;have y1:=hp7.st.cell (b:=wr.heap.size) (j:=1) mem_cons_self rfl;have y2:=hp7.st.frozen (b:=wr.heap.size) (j:=1) mem_cons_self;have y3:=hp7.st.cell (b:=w1.heap.size) (j:=1) (v:=.slice (some ⟨wr.heap.size,0,none⟩) 1 1) (mem_cons_of_mem _ (mem_cons_of_mem _ mem_cons_self)) rfl;have K7:=Lib.hid hp7;clear hp7)
       all_goals
        go_wp2_with fail
        go_meet
        exact⟨a12,_,portD asn v6,-1,[],_,_,H12,_,sw5,sw_push M14.out hp0 rfl K7.out RC.out RL.out HCN.out.1 HCN.out.2⟩
      .obtain⟨z0,z1,z2,z3,z4,z5,z6,z7,z8,z9,z9⟩:=(c11_of (M14.out.st.own _ _ _ mem_cons_self).1).1;have zf1:=(c11_of (M14.out.st.own _ _ _ mem_cons_self).1).2 1
       go_wp2_with fail
       go_meet
       exact⟨a12,[],portD asn v6,-1,[],nilV,nilV,H12,[],sw6,sw_nil (M14.out.set rfl) (rest_set M14.out RC.out HCN.out.1) (rest_set M14.out RL.out HCN.out.2)⟩
      .go_wp2_with (go_at_fn 13;refine(HC.out.next _ _ _ 256 _ M14.out.st M14.out.dk (by decide) (by decide)).mono ?_;rintro r w13 ⟨H13,vx,a13,rfl,N13,hq,S13⟩;obtain⟨vn,rfl,hv3⟩:=nx_nat N13.out (by decide);have hw8:IntKind.u8.wrap (vn:Int)=(vn:Int):=(by rw[IntKind.wrap_u8];omega);have M15:=M14.out.step hq (dk_step M14.out.dk N13.out);obtain⟨y0,y1,y2,y3,y4,y5,y6,y7,y8,y9,y10⟩:=(c11_of (((M15.st.alloc #[.int .u8 1,.int .u8 (vn:Int)] 5).alloc #[.int .i64 224,.int .i64 99,.slice (some ⟨w13.heap.size,0,none⟩) 2 2] 71).own w1.heap.size (aCells o (.slice (some ⟨wr.heap.size,0,none⟩) 1 1) (portD asn v6).1 (portD asn v6).2.1 (portD asn v6).2.2 m rr (-1) (.slice oc nc cc) (.slice ol nl cl) nilV) 48 (by simp)).1).1;have yf:=(c11_of (((M15.st.alloc #[.int .u8 1,.int .u8 (vn:Int)] 5).alloc #[.int .i64 224,.int .i64 99,.slice (some ⟨w13.heap.size,0,none⟩) 2 2] 71).own w1.heap.size (aCells o (.slice (some ⟨wr.heap.size,0,none⟩) 1 1) (portD asn v6).1 (portD asn v6).2.1 (portD asn v6).2.2 m rr (-1) (.slice oc nc cc) (.slice ol nl cl) nilV) 48 (by simp)).1).2 10;have M16:=Lib.hid M15;clear M15 hq)
       go_meet
       exact⟨a13,_,portD asn v6,_,_,_,_,H13,_,sw7 N13.out,sw_oth M16.out hp0 (M14.out.st.keep RC.out HCN.out.1 S13.out) (M14.out.st.keep RL.out HCN.out.2 S13.out) HCN.out.1 HCN.out.2 _⟩
      .have b0:(sv==0)=false:=beq_eq_false_iff_ne.2 s0;have b1:(sv==1)=false:=beq_eq_false_iff_ne.2 s1;have b2:(sv==2)=false:=beq_eq_false_iff_ne.2 s2;have b3:(sv==3)=false:=beq_eq_false_iff_ne.2 s3;have b4:(sv==4)=false:=beq_eq_false_iff_ne.2 s4;have b5:(sv==5)=false:=beq_eq_false_iff_ne.2 s5;have b6:(sv==6)=false:=beq_eq_false_iff_ne.2 s6;have b7:(sv==7)=false:=beq_eq_false_iff_ne.2 s7;have SE:Aside (swD o p m rr xc xl asn v6 (sv,l,a12)=_):=swE s0 s1 s2 s3 s4 s5 s6 s7;clear s0 s1 s2 s3 s4 s5 s6 s7
       go_wp2_with fail
       go_meet
       exact⟨a12,_,portD asn v6,-1,[],_,_,H12,_,SE.out,sw_base M14.out hp0 RC.out RL.out⟩
     case rest=>
      obtain⟨a',path,P,c,other,pv,ot,H',L,E1,SI⟩:=hcut;obtain⟨⟨x1,x2,x3,rfl⟩,⟨x4,x5,x6,rfl⟩⟩:=SI.out.shape;obtain⟨s0,s1,s2,s3,s4,s5,s6,s7,s8,s9,s10⟩:=(c11_of (SI.out.st.own _ _ _ mem_cons_self).1).1;obtain⟨⟨u0,u1,u2,u3,u4,u5,u6,u7,u8,u9,u10⟩,uf⟩:=c11_of (SI.out.st.own w.heap.size zAttr 48 (by simp)).1;have uf0:=uf 0;have uf1:=uf 1;have uf2:=uf 2;have uf3:=uf 3;have uf4:=uf 4;have uf5:=uf 5;have uf6:=uf 6;have uf7:=uf 7;have uf8:=uf 8;have uf9:=uf 9;have uf10:=uf 10;clear uf
      go_wp2_with fail
      (try simp only[Exit.inBlock,Exit.then])
      have hz:blk11 wc w.heap.size (.int .i64 0) (.slice none 0 0) (.bool false) (.int .u64 0) (.int .u64 0) (.int .i64 0) (.int .i64 0) (.int .i64 0) (.slice none 0 0) (.slice none 0 0) (.slice none 0 0):=(SI.out.st.own w.heap.size zAttr 48 (by simp)).1;have hset:=set11 wc w.heap.size (.int .i64 o) (.slice x1 x2 x3) (.bool P.1) (.int .u64 P.2.1) (.int .u64 P.2.2) (.int .i64 m) (.int .i64 rr) (.int .i64 c) (.slice oc nc cc) (.slice ol nl cl) (.slice x4 x5 x6) _ _ _ _ _ _ _ _ _ _ _ hz;refine bodyPost_ret (v:=.agg #[.int .i64 o,.slice x1 x2 x3,.bool P.1,.int .u64 P.2.1,.int .u64 P.2.2,.int .i64 m,.int .i64 rr,.int .i64 c,.slice oc nc cc,.slice ol nl cl,.slice x4 x5 x6]) ?_ rfl ?_
      .exact res28 _ w.heap.size _ (.int .i64 o) (.slice x1 x2 x3) (.bool P.1) (.int .u64 P.2.1) (.int .u64 P.2.2) (.int .i64 m) (.int .i64 rr) (.int .i64 c) (.slice oc nc cc) (.slice ol nl cl) (.slice x4 x5 x6) rfl hset
      .have hrest:=set11_rest wc w.heap.size (.int .i64 o) (.slice x1 x2 x3) (.bool P.1) (.int .u64 P.2.1) (.int .u64 P.2.2) (.int .i64 m) (.int .i64 rr) (.int .i64 c) (.slice oc nc cc) (.slice ol nl cl) (.slice x4 x5 x6);obtain⟨f1,f2,f3⟩:=attrs_facts N1.out N2.out I5.out O7.out O9.out N10.out N11.out N12.out E1.out;obtain⟨g1,g2⟩:=SI.out.fin ⟨_,hset⟩ hrest HCN.out.1 HCN.out.2;unfold AtPost;rw[f1];refine⟨_,H',rfl,g1,?_⟩;unfold enAttrs;rw[f2,f3];exact g2
end Go.Proofs.YtgfmodmeimhhpaaDoor
