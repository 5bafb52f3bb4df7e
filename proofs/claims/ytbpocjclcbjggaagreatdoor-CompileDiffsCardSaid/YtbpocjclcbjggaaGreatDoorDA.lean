/- Chapter 09, plainly: rules compared; the difference of two lists of rules, by program and document. -/
import Derived.Test.YtbpocjclcbjggaaGreatDoorCL
namespace Go.Proofs.YtbpocjclcbjggaaGreatDoor
open Go.VM
set_option maxRecDepth 10000
theorem ne_not(b:Bool):(true != b)=!(false != b):=by cases b<;>rfl
theorem eqM_dec(a b:MacT):eqM a b=decide (a=b):=by rw[Bool.eq_iff_iff,eqM_iff,decide_eq_true_iff]
theorem eqA_dec(a b:AddrT):eqA a b=decide (a=b):=by rw[Bool.eq_iff_iff,eqA_iff,decide_eq_true_iff]
theorem take_eq{α:Type}{l m:List α}{i:Nat}(h:l.take i=m.take i)(hi:i<l.length)(hj:i<m.length)(e:l[i]=m[i]):l.take (i+1)=m.take (i+1):=by
 rw[List.take_succ_eq_append_getElem hi,List.take_succ_eq_append_getElem hj,h,e]
theorem macs79{N:Nat}(hN:100<=N){l m:List MacT}(hl:l.length<=28):n79 (N+1) (l,m)=some (decide (l=m)):=by
 refine ok_get ?_;rw[e79];refine ok_if (fun h=>ok_some ?_) fun h=>?_
 · have : l.length ≠ m.length := fun e => by
     have h':((l.length:Int) != (m.length:Int))=true:=h;rw[e]at h';simp at h'
   rw[decide_eq_false (fun e=>this (by rw[e]))]
 · have hlen : l.length = m.length := by
     have h':((l.length:Int) != (m.length:Int))=false:=h;simp at h';omega
   refine ok_join (fun _=>l=m) (fun _ h=>ok_some (by simp[h])) fun g hg=>?_
   refine ok_loop (fun(i:Nat) (q:List MacT×List MacT×Int×Int)=>q=(l,m,(l.length:Int),(i:Int))/\i<=l.length/\l.take i=m.take i) l.length (fun i q hq=>?_) ⟨rfl,Nat.zero_le _,rfl⟩ (by omega);obtain⟨e1,hi,ht⟩:=hq;subst e1;refine ok_let (ok_if (fun hc=>?_) fun hc=>ok_leave (hg _ ?_))
   .have hlt:i<l.length:=by simpa using hc
    have hlt2:i<m.length:=by omega
    refine ok_bind (aJo hlt) (ok_bind (aJo hlt2) (ok_letE (w:=!decide (l[i]=m[i])) ((ne_not _).trans (congrArg not (eqM_dec l[i] m[i]))) (ok_if (fun hd=>ok_leave (ok_some ?_)) fun hd=>ok_letE (w:=((i+1:Nat):Int)) (wv _ rfl (by omega) (by omega)) (ok_again hlt ⟨rfl,hlt,take_eq ht hlt hlt2 ?_⟩))))
    .have hd':¬(l[i]=m[i]):=by simpa using hd
     rw[decide_eq_false (fun e=>hd' (by subst e;rfl))]
    .have e:l[i]=m[i]:=by simpa using hd
     exact e
   .have hle:l.length<=i:=by simpa using hc
    rwa [List.take_of_length_le hle,List.take_of_length_le (by omega)]at ht
theorem adrs80{N:Nat}(hN:100<=N){l m:List AddrT}(hl:l.length<=28):n80 (N+1) (l,m)=some (decide (l=m)):=by
 refine ok_get ?_;rw[e80];refine ok_if (fun h=>ok_some ?_) fun h=>?_
 · have : l.length ≠ m.length := fun e => by
     have h':((l.length:Int) != (m.length:Int))=true:=h;rw[e]at h';simp at h'
   rw[decide_eq_false (fun e=>this (by rw[e]))]
 · have hlen : l.length = m.length := by
     have h':((l.length:Int) != (m.length:Int))=false:=h;simp at h';omega
   refine ok_join (fun _=>l=m) (fun _ h=>ok_some (by simp[h])) fun g hg=>?_
   refine ok_loop (fun(i:Nat) (q:List AddrT×List AddrT×Int×Int)=>q=(l,m,(l.length:Int),(i:Int))/\i<=l.length/\l.take i=m.take i) l.length (fun i q hq=>?_) ⟨rfl,Nat.zero_le _,rfl⟩ (by omega);obtain⟨e1,hi,ht⟩:=hq;subst e1;refine ok_let (ok_if (fun hc=>?_) fun hc=>ok_leave (hg _ ?_))
   .have hlt:i<l.length:=by simpa using hc
    have hlt2:i<m.length:=by omega
    refine ok_bind (aJo hlt) (ok_bind (aJo hlt2) (ok_letE (w:=!decide (l[i]=m[i])) ((ne_not _).trans (congrArg not (eqA_dec l[i] m[i]))) (ok_if (fun hd=>ok_leave (ok_some ?_)) fun hd=>ok_letE (w:=((i+1:Nat):Int)) (wv _ rfl (by omega) (by omega)) (ok_again hlt ⟨rfl,hlt,take_eq ht hlt hlt2 ?_⟩))))
    .have hd':¬(l[i]=m[i]):=by simpa using hd
     rw[decide_eq_false (fun e=>hd' (by subst e;rfl))]
    .have e:l[i]=m[i]:=by simpa using hd
     exact e
   .have hle:l.length<=i:=by simpa using hc
    rwa [List.take_of_length_le hle,List.take_of_length_le (by omega)]at ht
theorem adrs47{N:Nat}(hN:100<=N){l m:List AddrT}(hl:l.length<=28):n47 (N+1) (l,m)=some (decide (l=m)):=by
 refine ok_get ?_;rw[e47];refine ok_if (fun h=>ok_some ?_) fun h=>?_
 · have : l.length ≠ m.length := fun e => by
     have h':((l.length:Int) != (m.length:Int))=true:=h;rw[e]at h';simp at h'
   rw[decide_eq_false (fun e=>this (by rw[e]))]
 · have hlen : l.length = m.length := by
     have h':((l.length:Int) != (m.length:Int))=false:=h;simp at h';omega
   refine ok_join (fun _=>l=m) (fun _ h=>ok_some (by simp[h])) fun g hg=>?_
   refine ok_loop (fun(i:Nat) (q:List AddrT×List AddrT×Int×Int)=>q=(m,l,(l.length:Int),(i:Int))/\i<=l.length/\l.take i=m.take i) l.length (fun i q hq=>?_) ⟨rfl,Nat.zero_le _,rfl⟩ (by omega);obtain⟨e1,hi,ht⟩:=hq;subst e1;refine ok_let (ok_if (fun hc=>?_) fun hc=>ok_leave (hg _ ?_))
   .have hlt:i<l.length:=by simpa using hc
    have hlt2:i<m.length:=by omega
    refine ok_bind (aJo hlt) (ok_bind (aJo hlt2) (ok_letE (w:=!decide (m[i]=l[i])) ((ne_not _).trans (congrArg not (eqA_dec m[i] l[i]))) (ok_if (fun hd=>ok_leave (ok_some ?_)) fun hd=>ok_letE (w:=((i+1:Nat):Int)) (wv _ rfl (by omega) (by omega)) (ok_again hlt ⟨rfl,hlt,take_eq ht hlt hlt2 ?_⟩))))
    .have hd':¬(m[i]=l[i]):=by simpa using hd
     rw[decide_eq_false (fun e=>hd' (by subst e;rfl))]
    .have e:m[i]=l[i]:=by simpa using hd
     exact e.symm
   .have hle:l.length<=i:=by simpa using hc
    rwa [List.take_of_length_le hle,List.take_of_length_le (by omega)]at ht
def eqR(u v:RuT):Bool:=(u.1==v.1)&&(u.2.1==v.2.1)&&(u.2.2.1==v.2.2.1)&&decide (u.2.2.2.1=v.2.2.2.1)&&decide (u.2.2.2.2.1=v.2.2.2.2.1)&&decide (u.2.2.2.2.2.1=v.2.2.2.2.2.1)&&(u.2.2.2.2.2.2.1==v.2.2.2.2.2.2.1)&&(u.2.2.2.2.2.2.2==v.2.2.2.2.2.2.2)
theorem eqR_iff{u v:RuT}:eqR u v=true↔u=v:=by
 obtain⟨a1,a2,a3,a4,a5,a6,a7,a8⟩:=u;obtain⟨b1,b2,b3,b4,b5,b6,b7,b8⟩:=v;simp only[eqR,decide_eq_true_iff,Bool.and_eq_true,beq_iff_eq,Prod.mk.injEq,and_assoc]
theorem eqR_no{u v:RuT}(h:u≠v):eqR u v=false:=by
 rw[<-Bool.not_eq_true,eqR_iff];exact h
theorem same51{N:Nat}(hN:100<=N){u:RuT}(hu:RuOk u)(v:RuT):n51 (N+2) (u,v)=some (eqR u v):=by
 have h1:=macs79 (N:=N) hN (l:=u.2.2.2.1) (m:=v.2.2.2.1) (by have:=hu.ma;omega);have h2:=adrs80 (N:=N) hN (l:=u.2.2.2.2.1) (m:=v.2.2.2.2.1) (by have:=hu.l4;omega);have h3:=adrs80 (N:=N) hN (l:=u.2.2.2.2.2.1) (m:=v.2.2.2.2.2.1) (by have:=hu.l6;omega);rw[e51];unfold eqR;simp only[↓aKO,h1,h2,h3];generalize (u.1==v.1)=b1;generalize (u.2.1==v.2.1)=b2;generalize (u.2.2.1==v.2.2.1)=b3;generalize (u.2.2.2.2.2.2.1==v.2.2.2.2.2.2.1)=b7;generalize (u.2.2.2.2.2.2.2==v.2.2.2.2.2.2.2)=b8;generalize decide (u.2.2.2.1=v.2.2.2.1)=b4;generalize decide (u.2.2.2.2.1=v.2.2.2.2.1)=b5;generalize decide (u.2.2.2.2.2.1=v.2.2.2.2.2.1)=b6;revert b1 b2 b3 b4 b5 b6 b7 b8;decide
theorem same20E{N:Nat}(hN:100<=N){u:RuT}(hu:RuOk u)(v:RuT):n20 (N+2) (u,v)=some (eqR u v):=by
 have hma:=hu.ma;have h2:=adrs47 (N:=N) hN (l:=u.2.2.2.2.1) (m:=v.2.2.2.2.1) (by have:=hu.l4;omega);have h3:=adrs47 (N:=N) hN (l:=u.2.2.2.2.2.1) (m:=v.2.2.2.2.2.1) (by have:=hu.l6;omega);refine ok_get ?_;rw[e20];refine ok_let (ok_if (fun h=>ok_some ?_) fun h=>?_)
 · have : u.2.2.2.1.length ≠ v.2.2.2.1.length := fun e => by
     have h':((u.2.2.2.1.length:Int) != (v.2.2.2.1.length:Int))=true:=h;rw[e]at h';simp at h'
   rw[eqR_no (fun e=>this (by rw[e]))]
 · have hlen : u.2.2.2.1.length = v.2.2.2.1.length := by
     have h':((u.2.2.2.1.length:Int) != (v.2.2.2.1.length:Int))=false:=h;simp at h';omega
   refine ok_join (fun q=>q=(u,v)/\u.2.2.2.1=v.2.2.2.1) (fun q hq=>?_) fun g hg=>?_
   .obtain⟨rfl,h4⟩:=hq;refine ok_eq (r:=eqR u v) ?_ rfl;unfold eqR;rw[decide_eq_true h4];simp only[↓aKO,h2,h3];generalize (u.1==v.1)=b1;generalize (u.2.1==v.2.1)=b2;generalize (u.2.2.1==v.2.2.1)=b3;generalize (u.2.2.2.2.2.2.1==v.2.2.2.2.2.2.1)=b7;generalize (u.2.2.2.2.2.2.2==v.2.2.2.2.2.2.2)=b8;generalize decide (u.2.2.2.2.1=v.2.2.2.2.1)=b5;generalize decide (u.2.2.2.2.2.1=v.2.2.2.2.2.1)=b6;revert b1 b2 b3 b5 b6 b7 b8;decide
   .refine ok_loop (fun(i:Nat) (q:RuT×RuT×List MacT×Int×Int)=>q=(u,v,u.2.2.2.1,(u.2.2.2.1.length:Int),(i:Int))/\i<=u.2.2.2.1.length/\u.2.2.2.1.take i=v.2.2.2.1.take i) u.2.2.2.1.length (fun i q hq=>?_) ⟨rfl,Nat.zero_le _,rfl⟩ (by omega);obtain⟨e1,hi,ht⟩:=hq;subst e1;refine ok_let (ok_if (fun hc=>?_) fun hc=>ok_leave (hg _ ⟨rfl,?_⟩))
    .have hlt:i<u.2.2.2.1.length:=by simpa using hc
     have hlt2:i<v.2.2.2.1.length:=by omega
     refine ok_bind (aJo hlt) (ok_bind (aJo hlt2) (ok_letE (w:=!decide (v.2.2.2.1[i]=u.2.2.2.1[i])) ((ne_not _).trans (congrArg not (eqM_dec v.2.2.2.1[i] u.2.2.2.1[i]))) (ok_if (fun hd=>ok_leave (ok_some ?_)) fun hd=>ok_letE (w:=((i+1:Nat):Int)) (wv _ rfl (by omega) (by omega)) (ok_again hlt ⟨rfl,hlt,take_eq ht hlt hlt2 ?_⟩))))
     .have hd':¬(v.2.2.2.1[i]=u.2.2.2.1[i]):=by simpa using hd
      rw[eqR_no (fun e=>hd' (by subst e;rfl))]
     .have e:v.2.2.2.1[i]=u.2.2.2.1[i]:=by simpa using hd
      exact e.symm
    .have hle:u.2.2.2.1.length<=i:=by simpa using hc
     rwa [List.take_of_length_le hle,List.take_of_length_le (by omega)]at ht
/-- Rules as they are made here: their ports ascend. -/
structure Gd(l:List RuT):Prop where
 sa:l.Pairwise fun u v=>u.1<v.1
 ok:∀u∈l,RuOk u
 le:l.length<=14
def nw(b:List RuT)(r:RuT):Bool:=!(ruleD b r.1).2
def ch(b:List RuT)(r:RuT):Bool:=(ruleD b r.1).2&&!eqR (ruleD b r.1).1 r
def diffD(b a:List RuT):List Int×List Int×List Int:=((a.filter (nw b)).map (·.1),(b.filter (nw a)).map (·.1),(a.filter (ch b)).map (·.1))
theorem ft_le{l:List RuT}(h:l.length<=14)(p:RuT->Bool)(i:Nat):(((l.take i).filter p).map (·.1)).length<=14:=by
 rw[List.length_map];have h1:=List.length_filter_le p (l.take i);rw[List.length_take]at h1;omega
theorem ft_pos{l:List RuT}{p:RuT->Bool}{i:Nat}(h:i<l.length)(e:p l[i]=true):((l.take (i+1)).filter p).map (·.1)=((l.take i).filter p).map (·.1)++[l[i].1]:=by
 rw[List.take_succ_eq_append_getElem h,List.filter_append,List.filter_cons_of_pos e,List.filter_nil,List.map_append,List.map_cons,List.map_nil]
theorem ft_neg{l:List RuT}{p:RuT->Bool}{i:Nat}(h:i<l.length)(e:p l[i]=false):((l.take (i+1)).filter p).map (·.1)=((l.take i).filter p).map (·.1):=by
 rw[List.take_succ_eq_append_getElem h,List.filter_append,List.filter_cons_of_neg (by simp[e]),List.filter_nil,List.append_nil]
theorem diff28{N:Nat}(hN:20000<=N){b a:List RuT}(hb:Gd b)(ha:Gd a):n28 (N+5) (b,a)=some (diffD b a):=by
 have hb14:=hb.le;have ha14:=ha.le;refine ok_get ?_;rw[e28];refine ok_join (fun q=>q=(b,a,(a.filter (nw b)).map (·.1),[],(a.filter (ch b)).map (·.1))) ?_ fun g hg=>?_
 .rintro q rfl;refine ok_join (fun q=>q=diffD b a) (fun q hq=>by subst hq;exact ok_some rfl) fun g hg=>?_
  refine ok_loop (fun(i:Nat) q=>q=(a,(a.filter (nw b)).map (·.1),((b.take i).filter (nw a)).map (·.1),(a.filter (ch b)).map (·.1),b,(b.length:Int),(i:Int))/\i<=b.length) b.length (fun i q hq=>?_) ⟨rfl,Nat.zero_le _⟩ (by omega);obtain⟨e1,hi⟩:=hq;subst e1;refine ok_let (ok_if (fun hc=>?_) fun hc=>ok_leave (hg _ ?_))
  .have hlt:i<b.length:=by simpa using hc
   refine ok_join (fun q=>q=(a,(a.filter (nw b)).map (·.1),((b.take (i+1)).filter (nw a)).map (·.1),(a.filter (ch b)).map (·.1),b,(b.length:Int),(i:Int))) (fun q hq=>?_) fun g1 hg1=>?_
   .subst hq;exact ok_letE (w:=((i+1:Nat):Int)) (wv _ rfl (by omega) (by omega)) (ok_again hlt ⟨rfl,hlt⟩)
   have hf:=ft_le hb14 (nw a) i;refine ok_bind (aJo hlt) (ok_bind (rule18 (N:=N+1) (by omega) (by omega) ha.ok _) (ok_join (fun q=>q=(a,(a.filter (nw b)).map (·.1),((b.take (i+1)).filter (nw a)).map (·.1),(a.filter (ch b)).map (·.1),b,(b.length:Int),(i:Int))) (fun q hq=>hg1 _ hq) fun g2 hg2=>ok_if (fun h=>ok_bind (aJm (by simp only[List.length_singleton];omega) (by simp only[List.length_singleton];omega)) (hg2 _ ?_)) fun h=>hg2 _ ?_))
   .rw[ft_pos hlt (p:=nw a) h]
   .rw[ft_neg hlt (p:=nw a) h]
  .have hle:b.length<=i:=by simpa using hc
   rw[List.take_of_length_le hle];rfl
 .refine ok_loop (fun(i:Nat) q=>q=(b,a,((a.take i).filter (nw b)).map (·.1),[],((a.take i).filter (ch b)).map (·.1),a,(a.length:Int),(i:Int))/\i<=a.length) a.length (fun i q hq=>?_) ⟨rfl,Nat.zero_le _⟩ (by omega);obtain⟨e1,hi⟩:=hq;subst e1;refine ok_let (ok_if (fun hc=>?_) fun hc=>ok_leave (hg _ ?_))
  .have hlt:i<a.length:=by simpa using hc
   refine ok_join (fun q=>q=(b,a,((a.take (i+1)).filter (nw b)).map (·.1),[],((a.take (i+1)).filter (ch b)).map (·.1),a,(a.length:Int),(i:Int))) (fun q hq=>?_) fun g1 hg1=>?_
   .subst hq;exact ok_letE (w:=((i+1:Nat):Int)) (wv _ rfl (by omega) (by omega)) (ok_again hlt ⟨rfl,hlt⟩)
   have hf:=ft_le ha14 (nw b) i;have hf2:=ft_le ha14 (ch b) i;refine ok_bind (aJo hlt) (ok_bind (rule18 (N:=N+1) (by omega) (by omega) hb.ok _) (ok_join (fun q=>q=(b,a,((a.take (i+1)).filter (nw b)).map (·.1),[],((a.take (i+1)).filter (ch b)).map (·.1),a,(a.length:Int),(i:Int))) (fun q hq=>hg1 _ hq) fun g2 hg2=>ok_join (fun q=>q=(b,a,((a.take (i+1)).filter (nw b)).map (·.1),[],((a.take (i+1)).filter (ch b)).map (·.1),a,(a.length:Int),(i:Int))) (fun q hq=>hg2 _ hq) fun g3 hg3=>ok_if (fun h=>ok_bind (aJm (by simp only[List.length_singleton];omega) (by simp only[List.length_singleton];omega)) (hg3 _ ?_)) fun h=>?_))
   · have hc2 : ch b a[i] = false := by
       have h':(ruleD b a[i].1).2=false:=by simpa using h
       unfold ch;rw[h'];rfl
     rw[ft_pos hlt (p:=nw b) h,ft_neg hlt (p:=ch b) hc2]
   .have h':(ruleD b a[i].1).2=true:=by simpa using h
    rw[ft_neg hlt (p:=nw b) h]at hg3;refine ok_bind (same51 (N:=N+2) (by omega) (ruleD_ok hb.ok _) _) (ok_join (fun q=>q=(b,a,((a.take i).filter (nw b)).map (·.1),[],((a.take (i+1)).filter (ch b)).map (·.1),a,(a.length:Int),(i:Int))) (fun q hq=>hg3 _ hq) fun g4 hg4=>ok_if (fun h2=>ok_bind (aJm (by simp only[List.length_singleton];omega) (by simp only[List.length_singleton];omega)) (hg4 _ ?_)) fun h2=>hg4 _ ?_)
    .rw[ft_pos hlt (p:=ch b) (by unfold ch;rw[h'];exact h2)]
    .rw[ft_neg hlt (p:=ch b) (by unfold ch;rw[h'];exact h2)]
  .have hle:a.length<=i:=by simpa using hc
   rw[List.take_of_length_le hle]
theorem diff29{N:Nat}(hN:20000<=N){b a:List RuT}(hb:Gd b)(ha:Gd a):n29 (N+5) (b,a)=some (diffD b a):=by
 have hb14:=hb.le;have ha14:=ha.le;refine ok_get ?_;rw[e29];refine ok_join (fun q=>q=(b,a,(a.filter (nw b)).map (·.1),[],(a.filter (ch b)).map (·.1))) ?_ fun g hg=>?_
 .rintro q rfl;refine ok_join (fun q=>q=diffD b a) (fun q hq=>by subst hq;exact ok_some rfl) fun g hg=>?_
  refine ok_loop (fun(i:Nat) q=>q=(a,(a.filter (nw b)).map (·.1),((b.take i).filter (nw a)).map (·.1),(a.filter (ch b)).map (·.1),b,(b.length:Int),(i:Int))/\i<=b.length) b.length (fun i q hq=>?_) ⟨rfl,Nat.zero_le _⟩ (by omega);obtain⟨e1,hi⟩:=hq;subst e1;refine ok_let (ok_if (fun hc=>?_) fun hc=>ok_leave (hg _ ?_))
  .have hlt:i<b.length:=by simpa using hc
   refine ok_join (fun q=>q=(a,(a.filter (nw b)).map (·.1),((b.take (i+1)).filter (nw a)).map (·.1),(a.filter (ch b)).map (·.1),b,(b.length:Int),(i:Int))) (fun q hq=>?_) fun g1 hg1=>?_
   .subst hq;exact ok_letE (w:=((i+1:Nat):Int)) (wv _ rfl (by omega) (by omega)) (ok_again hlt ⟨rfl,hlt⟩)
   have hf:=ft_le hb14 (nw a) i;refine ok_bind (aJo hlt) (ok_bind (rule19 (N:=N+1) (by omega) (by omega) ha.ok _) (ok_join (fun q=>q=(a,(a.filter (nw b)).map (·.1),((b.take (i+1)).filter (nw a)).map (·.1),(a.filter (ch b)).map (·.1),b,(b.length:Int),(i:Int))) (fun q hq=>hg1 _ hq) fun g2 hg2=>ok_if (fun h=>ok_bind (aJm (by simp only[List.length_singleton];omega) (by simp only[List.length_singleton];omega)) (hg2 _ ?_)) fun h=>hg2 _ ?_))
   .rw[ft_pos hlt (p:=nw a) h]
   .rw[ft_neg hlt (p:=nw a) h]
  .have hle:b.length<=i:=by simpa using hc
   rw[List.take_of_length_le hle];rfl
 .refine ok_loop (fun(i:Nat) q=>q=(b,a,((a.take i).filter (nw b)).map (·.1),[],((a.take i).filter (ch b)).map (·.1),a,(a.length:Int),(i:Int))/\i<=a.length) a.length (fun i q hq=>?_) ⟨rfl,Nat.zero_le _⟩ (by omega);obtain⟨e1,hi⟩:=hq;subst e1;refine ok_let (ok_if (fun hc=>?_) fun hc=>ok_leave (hg _ ?_))
  .have hlt:i<a.length:=by simpa using hc
   refine ok_join (fun q=>q=(b,a,((a.take (i+1)).filter (nw b)).map (·.1),[],((a.take (i+1)).filter (ch b)).map (·.1),a,(a.length:Int),(i:Int))) (fun q hq=>?_) fun g1 hg1=>?_
   .subst hq;exact ok_letE (w:=((i+1:Nat):Int)) (wv _ rfl (by omega) (by omega)) (ok_again hlt ⟨rfl,hlt⟩)
   have hf:=ft_le ha14 (nw b) i;have hf2:=ft_le ha14 (ch b) i;refine ok_bind (aJo hlt) (ok_bind (rule19 (N:=N+1) (by omega) (by omega) hb.ok _) (ok_join (fun q=>q=(b,a,((a.take (i+1)).filter (nw b)).map (·.1),[],((a.take (i+1)).filter (ch b)).map (·.1),a,(a.length:Int),(i:Int))) (fun q hq=>hg1 _ hq) fun g2 hg2=>ok_join (fun q=>q=(b,a,((a.take (i+1)).filter (nw b)).map (·.1),[],((a.take (i+1)).filter (ch b)).map (·.1),a,(a.length:Int),(i:Int))) (fun q hq=>hg2 _ hq) fun g3 hg3=>ok_if (fun h=>ok_bind (aJm (by simp only[List.length_singleton];omega) (by simp only[List.length_singleton];omega)) (hg3 _ ?_)) fun h=>?_))
   · have hc2 : ch b a[i] = false := by
       have h':(ruleD b a[i].1).2=false:=by simpa using h
       unfold ch;rw[h'];rfl
     rw[ft_pos hlt (p:=nw b) h,ft_neg hlt (p:=ch b) hc2]
   .have h':(ruleD b a[i].1).2=true:=by simpa using h
    rw[ft_neg hlt (p:=nw b) h]at hg3;refine ok_bind (same20E (N:=N+2) (by omega) (ruleD_ok hb.ok _) _) (ok_join (fun q=>q=(b,a,((a.take i).filter (nw b)).map (·.1),[],((a.take (i+1)).filter (ch b)).map (·.1),a,(a.length:Int),(i:Int))) (fun q hq=>hg3 _ hq) fun g4 hg4=>ok_if (fun h2=>ok_bind (aJm (by simp only[List.length_singleton];omega) (by simp only[List.length_singleton];omega)) (hg4 _ ?_)) fun h2=>hg4 _ ?_)
    .rw[ft_pos hlt (p:=ch b) (by unfold ch;rw[h'];exact h2)]
    .rw[ft_neg hlt (p:=ch b) (by unfold ch;rw[h'];exact h2)]
  .have hle:a.length<=i:=by simpa using hc
   rw[List.take_of_length_le hle]
end Go.Proofs.YtbpocjclcbjggaaGreatDoor
