/- The deck, plainly: numbers taken one after the other (table Z). -/
import Derived.Test.YtgfmodmeimhhpaaDoorGA
namespace Go.Proofs.YtgfmodmeimhhpaaDoor
open Go.VM
set_option maxRecDepth 10000
abbrev Dk:=List Int×Int
def DK(d:Dk):Prop:=0<=d.2/\d.2<=d.1.length/\d.1.length<=9223372036854775807
def dkB(d:Dk):Bool:=decide (0<=d.2)&&decide (d.2<=d.1.length)&&decide (d.1.length<=9223372036854775807)
theorem dkB_iff{d:Dk}:dkB d=true↔DK d:=by unfold dkB DK;rw[Bool.and_eq_true,Bool.and_eq_true,decide_eq_true_eq,decide_eq_true_eq,decide_eq_true_eq,and_assoc]
def nx(d:Dk)(b:Int):Int×Dk:=if(d.1.length:Int)<=d.2 then(0,d)else(d.1.getD d.2.toNat 0%b,(d.1,d.2+1))
theorem nx_DK{d:Dk}(h:DK d)(b:Int):DK (nx d b).2:=by unfold nx;split;exact h;obtain⟨h1,h2,h3⟩:=h;exact⟨by show 0<=d.2+1;omega,by show d.2+1<=(d.1.length:Int);omega,h3⟩
theorem nx_list(d:Dk)(b:Int):(nx d b).2.1=d.1:=by unfold nx;split<;>rfl
theorem nx_rng(d:Dk){b:Int}(hb:0<b):0<=(nx d b).1/\(nx d b).1<b:=by unfold nx;split;exact⟨Int.le_refl _,hb⟩;exact⟨Int.emod_nonneg _ (by omega),Int.emod_lt_of_pos _ hb⟩
namespace Z
theorem mod_eq(N:Nat){a b:Int}(hb:0<b)(hb2:b<=9223372036854775807):n9 (N+1) (a,b)=some (a%b):=by
 rw[e9];have h0:b≠0:=by omega
 simp only[↓aKO,h0,if_false,aKI,aJY,aJz,decide_eq_true_eq];have h1:=Int.mul_tdiv_add_tmod a b;have h2:=Int.tmod_lt_of_pos a hb;have h3:=Int.lt_tmod_of_pos a hb;have h4:a%b=a.tmod b%b:=by conv=>lhs;rw[<-h1,Int.add_comm,Int.add_mul_emod_self_left]
 by_cases hn:a.tmod b<0;rw[if_pos hn,pV (by omega) (by omega),h4];rw[<-Int.add_emod_right,Int.emod_eq_of_lt (by omega) (by omega)];rw[if_neg hn,h4,Int.emod_eq_of_lt (by omega) (by omega)]
theorem next_eq(N:Nat){d:Dk}(hd:DK d){b:Int}(hb:0<b)(hb2:b<=9223372036854775807):n13 (N+2) (d,b)=some (nx d b):=by
 obtain⟨l,i⟩:=d;obtain⟨h1,h2,h3⟩:=hd;simp only at h1 h2 h3;rw[e13];unfold nx;simp only[↓aKO,aJz,decide_eq_true_eq,aJO,ge_iff_le];by_cases hi:(l.length:Int)<=i;rw[if_pos hi,if_pos hi];rw[if_neg hi,if_neg hi,pV (n:=i+1) (by omega) (by omega),pV (n:=i+1-1) (by omega) (by omega)];obtain⟨n,rfl⟩:=Int.eq_ofNat_of_zero_le h1;have hn:n<l.length:=by omega
 rw[show(n:Int)+1-1=(n:Int) by omega,aJo (l:=l) (n:=n) hn];simp only[↓aKO,aKI,mod_eq N (a:=l[n]) hb hb2];rw[show((n:Int)).toNat=n from rfl,List.getD,List.getElem?_eq_getElem hn];rfl
def allC:List (Int×Int):=[(0,99),(0,101),(0,102),(99,101),(99,103),(500,1),(65535,666),(65535,65282)]
def allL:List (Int×Int×Int):=[(5,5,5),(99,0,0),(99,0,103),(99,1,102),(99,101,0),(99,102,104),(99,103,101)]
theorem comm_ok(N:Nat)(hN:20<N){d:Dk}(hd:DK d):Ok (n32 (N+3) d) fun r=>r.1.Sublist allC/\r.2.1=d.1/\DK r.2:=by
 rw[e32];refine ok_let (ok_bind (next_eq (N:=N) hd (by decide) (by decide)) (ok_join (fun r=>r.1.Sublist allC/\r.2.1=d.1/\DK r.2) (fun p hp=>ok_some hp) fun g hg=>?_));refine ok_loop (fun i q=>q.1.Sublist (allC.take i)/\q.2.2.1=allC/\q.2.2.2.1=8/\q.2.2.2.2.1=(i:Int)/\i<=8/\q.2.2.2.2.2.1=d.1/\DK q.2.2.2.2.2) 8 (fun i q ⟨q1,q2,q3,q4,q5,q6,q7⟩=>?_) ⟨List.nil_sublist _,rfl,rfl,rfl,Nat.zero_le _,nx_list _ _,nx_DK hd _⟩ (by omega);refine ok_let (ok_if (fun hc=>?_) fun hc=>?_);have hi:i<8:=by have:=of_decide_eq_true hc;omega
 have hsub:∀{l:List (Int×Int)},l.Sublist (allC.take i)->l.Sublist (allC.take (i+1)):=fun h=>h.trans (List.take_sublist_take_left (by omega))
 refine ok_join (fun p=>p.1.Sublist (allC.take (i+1))/\p.2.2.1=allC/\p.2.2.2.1=8/\p.2.2.2.2.1=(i:Int)/\p.2.2.2.2.2.1=d.1/\DK p.2.2.2.2.2) (fun p ⟨p1,p2,p3,p4,p5,p6⟩=>?_) fun g1 hg1=>?_
 exact ok_letE (w:=((i+1:Nat):Int)) (wv _ (by rw[p4];rfl) (by omega) (by omega)) (ok_again hi ⟨p1,p2,p3,rfl,hi,p5,p6⟩);rw[q2,q4];refine ok_bind (aJo (l:=allC) hi) (ok_letE (w:=((2*i:Nat):Int)) (wv _ (by omega) (by omega) (by omega)) (ok_bind' (P:=fun _=>True) ?_ fun v _=>ok_let (ok_let (ok_bind' (P:=fun r=>r.2.1=d.1/\DK r.2) ?_ fun r ⟨r1,r2⟩=>ok_let (ok_let ?_)))));have hu:IntKind.u64.wrap ((2*i:Nat):Int)=((2*i:Nat):Int):=by rw[IntKind.wrap_u64];omega
 rw[hu,if_neg (by omega)];exact ok_some trivial;refine ok_if (fun _=>ok_eq (next_eq (N:=N) q7 (by decide) (by decide)) ⟨(nx_list _ _).trans q6,nx_DK q7 _⟩) fun _=>ok_some ⟨q6,q7⟩
 refine ok_join (fun p=>p.1.Sublist (allC.take (i+1))/\p.2.2.1=allC/\p.2.2.2.1=8/\p.2.2.2.2.1=(i:Int)/\p.2.2.2.2.2.1=d.1/\DK p.2.2.2.2.2) (fun p hp=>hg1 _ hp) fun g2 hg2=>ok_if (fun _=>?_) fun _=>hg2 _ ⟨hsub q1,rfl,q3,rfl,r1,r2⟩
 have hl:=q1.length_le;rw[List.length_take]at hl;refine ok_bind (aJm (by simp;omega) (by simp;omega)) (hg2 _ ⟨?_,rfl,q3,rfl,r1,r2⟩);show(q.1++[_]).Sublist _;rw[List.take_succ_eq_append_getElem (show i<allC.length from hi)];exact q1.append (List.Sublist.refl _)
 · have : i = 8 := by
     have:¬q.2.2.2.2.1<q.2.2.2.1:=of_decide_eq_false hc;omega
   subst this;exact ok_leave (hg _ ⟨by have:=q1;rwa [List.take_of_length_le (by decide)]at this,q6,q7⟩)
theorem large_ok(N:Nat)(hN:20<N){d:Dk}(hd:DK d):Ok (n33 (N+3) d) fun r=>r.1.Sublist allL/\r.2.1=d.1/\DK r.2:=by
 rw[e33];refine ok_let (ok_bind (next_eq (N:=N) hd (by decide) (by decide)) (ok_join (fun r=>r.1.Sublist allL/\r.2.1=d.1/\DK r.2) (fun p hp=>ok_some hp) fun g hg=>?_));refine ok_loop (fun i q=>q.1.Sublist (allL.take i)/\q.2.2.1=allL/\q.2.2.2.1=7/\q.2.2.2.2.1=(i:Int)/\i<=7/\q.2.2.2.2.2.1=d.1/\DK q.2.2.2.2.2) 7 (fun i q ⟨q1,q2,q3,q4,q5,q6,q7⟩=>?_) ⟨List.nil_sublist _,rfl,rfl,rfl,Nat.zero_le _,nx_list _ _,nx_DK hd _⟩ (by omega);refine ok_let (ok_if (fun hc=>?_) fun hc=>?_);have hi:i<7:=by have:=of_decide_eq_true hc;omega
 have hsub:∀{l:List (Int×Int×Int)},l.Sublist (allL.take i)->l.Sublist (allL.take (i+1)):=fun h=>h.trans (List.take_sublist_take_left (by omega))
 refine ok_join (fun p=>p.1.Sublist (allL.take (i+1))/\p.2.2.1=allL/\p.2.2.2.1=7/\p.2.2.2.2.1=(i:Int)/\p.2.2.2.2.2.1=d.1/\DK p.2.2.2.2.2) (fun p ⟨p1,p2,p3,p4,p5,p6⟩=>?_) fun g1 hg1=>?_
 exact ok_letE (w:=((i+1:Nat):Int)) (wv _ (by rw[p4];rfl) (by omega) (by omega)) (ok_again hi ⟨p1,p2,p3,rfl,hi,p5,p6⟩);rw[q2,q4];refine ok_bind (aJo (l:=allL) hi) (ok_letE (w:=((2*i:Nat):Int)) (wv _ (by omega) (by omega) (by omega)) (ok_bind' (P:=fun _=>True) ?_ fun v _=>ok_let ?_));have hu:IntKind.u64.wrap ((2*i:Nat):Int)=((2*i:Nat):Int):=by rw[IntKind.wrap_u64];omega
 rw[hu,if_neg (by omega)];exact ok_some trivial;refine ok_join (fun p=>p.1.Sublist (allL.take (i+1))/\p.2.2.1=allL/\p.2.2.2.1=7/\p.2.2.2.2.1=(i:Int)/\p.2.2.2.2.2.1=d.1/\DK p.2.2.2.2.2) (fun p hp=>hg1 _ hp) fun g2 hg2=>ok_if (fun _=>ok_let ?_) fun _=>hg2 _ ⟨hsub q1,rfl,q3,rfl,q6,q7⟩
 have hl:=q1.length_le;rw[List.length_take]at hl;refine ok_bind (aJm (by simp;omega) (by simp;omega)) (hg2 _ ⟨?_,rfl,q3,rfl,q6,q7⟩);show(q.1++[_]).Sublist _;rw[List.take_succ_eq_append_getElem (show i<allL.length from hi)];exact q1.append (List.Sublist.refl _)
 · have : i = 7 := by
     have:¬q.2.2.2.2.1<q.2.2.2.1:=of_decide_eq_false hc;omega
   subst this;exact ok_leave (hg _ ⟨by have:=q1;rwa [List.take_of_length_le (by decide)]at this,q6,q7⟩)
end Z
end Go.Proofs.YtgfmodmeimhhpaaDoor
