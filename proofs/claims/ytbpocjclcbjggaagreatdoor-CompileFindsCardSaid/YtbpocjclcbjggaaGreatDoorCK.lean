/- Chapter 09, plainly: a rule is the same as itself; the law CompileFinds. -/
import Derived.Test.YtbpocjclcbjggaaGreatDoorCJ
namespace Go.Proofs.YtbpocjclcbjggaaGreatDoor
open Go.VM
set_option maxRecDepth 100000
theorem awakeK:n17 2000 ()=some true:=by kernel_rfl
theorem awake'{N:Nat}(h:2000<=N):n17 N ()=some true:=aGj (T:=TN) h 17 () true awakeK
theorem addrs47{N:Nat}(hN:10<=N){l:List AddrT}(hl:l.length<=1):n47 (N+1) (l,l)=some true:=by
 refine ok_get ?_;rw[e47];have e0:(aJO l != aJO l)=false:=by simp
 rw[e0];refine ok_if (fun h=>by cases h) fun _=>ok_join (fun _=>True) (fun _ _=>ok_some rfl) fun g hg=>?_
 refine ok_loop (fun(i:Nat) (q:List AddrT×List AddrT×Int×Int)=>q=(l,l,(l.length:Int),(i:Int))/\i<=l.length) l.length (fun i q hq=>?_) ⟨rfl,Nat.zero_le _⟩ (by omega);obtain⟨e1,hi⟩:=hq;subst e1;refine ok_let (ok_if (fun hc=>?_) fun hc=>ok_leave (hg _ trivial));have hlt:i<l.length:=by simpa using hc
 exact ok_bind (aJo hlt) (ok_bind (aJo hlt) (ok_letE (w:=false) (by simp) (ok_if (fun h=>by cases h) fun _=>ok_letE (w:=((i+1:Nat):Int)) (wv _ rfl (by omega) (by omega)) (ok_again hlt ⟨rfl,hlt⟩))))
theorem same20{N:Nat}(hN:10<=N){u:RuT}(hu:RuOk u):n20 (N+2) (u,u)=some true:=by
 have hma:=hu.ma;refine ok_get ?_;rw[e20];refine ok_letE (w:=false) (by simp) (ok_if (fun h=>by cases h) fun _=>ok_join (fun q=>q=(u,u)) (fun q hq=>?_) fun g hg=>?_)
 .subst hq;refine ok_letE (w:=true) (by simp) (ok_letE (w:=true) (by simp) (ok_letE (w:=true) (by simp) (ok_letE (w:=true) (by simp) (ok_letE (w:=true) rfl (ok_bind (v:=true) (bifT rfl (addrs47 (N:=N) (by omega) hu.l4)) (ok_bind (v:=true) (bifT rfl (addrs47 (N:=N) (by omega) hu.l6)) (ok_letE (w:=true) rfl (ok_some rfl))))))))
 .refine ok_loop (fun(i:Nat) (q:RuT×RuT×List MacT×Int×Int)=>q=(u,u,u.2.2.2.1,(u.2.2.2.1.length:Int),(i:Int))/\i<=u.2.2.2.1.length) u.2.2.2.1.length (fun i q hq=>?_) ⟨rfl,Nat.zero_le _⟩ (by omega);obtain⟨e1,hi⟩:=hq;subst e1;refine ok_let (ok_if (fun hc=>?_) fun hc=>ok_leave (hg _ rfl));have hlt:i<u.2.2.2.1.length:=by simpa using hc
  exact ok_bind (aJo hlt) (ok_bind (aJo hlt) (ok_letE (w:=false) (by simp) (ok_if (fun h=>by cases h) fun _=>ok_letE (w:=((i+1:Nat):Int)) (wv _ rfl (by omega) (by omega)) (ok_again hlt ⟨rfl,hlt⟩))))
theorem mac_any(N:Nat)(v:Int):∃m,n21 (N+1) v=some m:=⟨_,e21 N v⟩
theorem findsE(N:Nat)(hN:100000<N){l:List Int}(hl:l.length<=9223372036854775807)(x:Int)(m:MacT)(a:AddrT)(y:Int):n4 (N+10) (l,x,m,a,y)=some true:=by
 refine ok_get ?_;rw[e4];refine ok_bind (v:=(l,0)) (e8 _ _) (ok_bind' (database_ok (N+5) (by omega) (DK0 hl)) fun v1 ⟨hdb,_⟩=>ok_bind' (rules15 (N:=N+4) (by omega) hdb) fun v2 ⟨h0,hrl,hru⟩=>ok_bind' (bind12 (N:=N+4) (by omega) hdb) fun B ⟨hB0,hBl⟩=>?_);have hBp:0<B.length:=List.length_pos_iff.2 hB0;obtain⟨R,s⟩:=v2;simp only at h0 hrl hru;subst h0;refine ok_if (fun h=>by cases h) fun _=>?_
 obtain⟨v4,hv4,_,_⟩:=mod_ok (N+8) (a:=x) (b:=50) (by decide) (by decide);refine ok_bind hv4 (ok_letE (w:=(2:Int)) rfl (ok_join (fun q=>q=(y,m,a,R,B)) (fun q hq=>?_) fun g hg=>?_))
 .subst hq;obtain⟨v8,hv8,_,_⟩:=mod_ok (N+8) (a:=y) (b:=20) (by decide) (by decide);obtain⟨v10,hv10⟩:=mac_any (N+8) (IntKind.i64.wrap (100+v8));obtain⟨v13,hv13⟩:=mac_any (N+8) (IntKind.i64.wrap (200+v8));refine ok_bind hv8 (ok_let (ok_bind hv10 (ok_bind hv8 (ok_let (ok_bind hv13 (ok_letE (w:=[m,v10,v13]) rfl (ok_join (fun q=>q=(y,a,B)) (fun q hq=>?_) fun g2 hg2=>?_)))))))
  .subst hq;obtain⟨v17,hv17,w1,w2⟩:=mod_ok (N+8) (a:=y) (b:=(B.length:Int)) (by omega) (by omega);obtain⟨v18,_,hv18⟩:=idx_mem (l:=B) w1 w2;refine ok_bind hv17 (ok_bind hv18 (ok_letE (w:=[a,v18.1]) rfl (ok_join (fun _=>True) (fun _ _=>ok_bind (awake' (by omega)) (ok_some rfl)) fun g3 hg3=>?_)));refine ok_loop (fun(i:Nat) (q:List BiT×List AddrT×Int×Int)=>q=(B,[a,v18.1],2,(i:Int))/\i<=2) 2 (fun i q hq=>?_) ⟨rfl,Nat.zero_le _⟩ (by omega);obtain⟨e1,hi⟩:=hq;subst e1;refine ok_let (ok_if (fun hc=>?_) fun hc=>ok_leave (hg3 _ trivial));have hlt:i<2:=by
    have:(i:Int)<2:=of_decide_eq_true hc;omega
   refine ok_bind (aJo (l:=[a,v18.1]) hlt) (ok_bind (bound24 (N:=N+6) (by omega) hBl _) (ok_bind (bound25 (N:=N+6) (by omega) hBl _) (ok_letE (w:=false) (by simp) (ok_letE (w:=false) (by simp) (ok_if (fun h=>by cases h) fun _=>ok_letE (w:=((i+1:Nat):Int)) (wv _ rfl (by omega) (by omega)) (ok_again hlt ⟨rfl,hlt⟩))))))
  .refine ok_loop (fun(i:Nat) (q:Int×AddrT×List RuT×List BiT×List MacT×Int×Int)=>q=(y,a,R,B,[m,v10,v13],3,(i:Int))/\i<=3) 3 (fun i q hq=>?_) ⟨rfl,Nat.zero_le _⟩ (by omega);obtain⟨e1,hi⟩:=hq;subst e1;refine ok_let (ok_if (fun hc=>?_) fun hc=>ok_leave (hg2 _ rfl));have hlt:i<3:=by
    have:(i:Int)<3:=of_decide_eq_true hc;omega
   refine ok_bind (aJo (l:=[m,v10,v13]) hlt) (ok_bind (where22 (N:=N+6) (by omega) hrl hru _) (ok_bind (where23 (N:=N+6) (by omega) hrl hru _) (ok_letE (w:=false) (by simp) (ok_if (fun h=>by cases h) fun _=>ok_letE (w:=((i+1:Nat):Int)) (wv _ rfl (by omega) (by omega)) (ok_again hlt ⟨rfl,hlt⟩)))))
 .refine ok_loop (fun(i:Nat) (q:Int×MacT×AddrT×List RuT×List BiT×List Int×Int×Int)=>q=(y,m,a,R,B,[x,v4],2,(i:Int))/\i<=2) 2 (fun i q hq=>?_) ⟨rfl,Nat.zero_le _⟩ (by omega);obtain⟨e1,hi⟩:=hq;subst e1;refine ok_let (ok_if (fun hc=>?_) fun hc=>ok_leave (hg _ rfl));have hlt:i<2:=by
   have:(i:Int)<2:=of_decide_eq_true hc;omega
  refine ok_bind (aJo (l:=[x,v4]) hlt) (ok_bind (rule18 (N:=N+6) (by omega) hrl hru _) (ok_bind (rule19 (N:=N+6) (by omega) hrl hru _) (ok_bind (same20 (N:=N+7) (by omega) (ruleD_ok hru _)) (ok_letE (w:=false) (by simp) (ok_if (fun h=>by cases h) fun _=>ok_letE (w:=((i+1:Nat):Int)) (wv _ rfl (by omega) (by omega)) (ok_again hlt ⟨rfl,hlt⟩))))))
end Go.Proofs.YtbpocjclcbjggaaGreatDoor
