/- Chapter 09, plainly: a port that is drawn is not wrong. -/
import Derived.Test.YtbpocjclcbjggaaGreatDoorCB
namespace Go.Proofs.YtbpocjclcbjggaaGreatDoor
open Go.VM
set_option maxRecDepth 10000
def PIn(p:PortT):Prop:=∃k,1<=k/\k<=14/\PAt k p
theorem in111(N:Nat){x a b:Int}(h1:a<=x)(h2:x<=b):n111 (N+1) (x,a,b)=some true:=by
 rw[e111];exact letB (v:=true) (bifT (decide_eq_true h1) (decide_eq_true h2)) rfl
def z3:AddrT:=(false,0,0)
theorem z115(N:Nat):n115 (N+1) z3=some true:=e115 N z3
theorem f115(N:Nat){n:Nat}(h:n<256):n115 (N+1) (fourV n)=some false:=
 aGj (T:=TN) (Nat.succ_le_succ (Nat.zero_le N)) 115 (fourV n) false (evN (T:=Bool) (f:=fun n=>n115 1 (fourV n)) (g:=fun _=>false) (b:=256) (by kernel_rfl) h)
theorem s115(N:Nat){n:Nat}(h:n<256):n115 (N+1) (sixV n)=some false:=e115 N (sixV n)
theorem z140(N:Nat):n140 (N+1) z3=some true:=e140 N z3
theorem f140(N:Nat){n:Nat}(h:n<256):n140 (N+1) (fourV n)=some true:=
 aGj (T:=TN) (Nat.succ_le_succ (Nat.zero_le N)) 140 (fourV n) true (evN (T:=Bool) (f:=fun n=>n140 1 (fourV n)) (g:=fun _=>true) (b:=256) (by kernel_rfl) h)
theorem mac139(N:Nat)(n:Nat):n139 (N+1) (macV n)=some false:=e139 N (macV n)
theorem cap_rng{cp:Nat}(h:cp<4):1<=([1,10,100,400]:List Int).getD cp 0/\([1,10,100,400]:List Int).getD cp 0<=400:=by
 match cp,h with
 |0,_=>exact⟨by decide,by decide⟩
 |1,_=>exact⟨by decide,by decide⟩
 |2,_=>exact⟨by decide,by decide⟩
 |3,_=>exact⟨by decide,by decide⟩
theorem macs_mem{k r kd cp ma ad:Nat}{m:MacT}(h:m∈maL (portV k r kd cp ma ad)):∃n,m=macV n:=by
 have h':m∈(bif ma==0 then[macV (100+k)]else[macV (100+k),macV (200+k)]):=h;cases hb:(ma==0)
 .rw[hb,cond_false]at h';simp only[List.mem_cons,List.not_mem_nil,or_false]at h';rcases h' with h'|h'<;>exact⟨_,h'⟩
 .rw[hb,cond_true]at h';simp only[List.mem_cons,List.not_mem_nil,or_false]at h';exact⟨_,h'⟩
theorem macs_len{k r kd cp ma ad:Nat}:1<=(maL (portV k r kd cp ma ad)).length/\(maL (portV k r kd cp ma ad)).length<=2:=by
 show 1<=(bif ma==0 then[macV (100+k)]else[macV (100+k),macV (200+k)]).length/\(bif ma==0 then[macV (100+k)]else[macV (100+k),macV (200+k)]).length<=2;cases(ma==0)<;>exact⟨by simp,by simp⟩
theorem port114{N:Nat}(hN:4<N){p:PortT}(hp:PIn p):n114 (N+2) p=some false:=by
 obtain⟨k,k1,k2,r,kd,cp,ma,ad,l1,l2,l3,l4,l5,rfl⟩:=hp;have hl:=macs_len (k:=k) (r:=r) (kd:=kd) (cp:=cp) (ma:=ma) (ad:=ad);have hm:=@macs_mem k r kd cp ma ad;refine ok_get ?_;rw[e114];refine ok_join (fun q=>q=portV k r kd cp ma ad) (fun q hq=>?_) fun g hg=>?_
 .subst hq;have hc:=cap_rng l3;refine ok_bind (in111 _ (by show(1:Int)<=3*(k:Int)+r;omega) (by show 3*(k:Int)+r<=(999:Int);omega)) (ok_bind (v:=true) (bifT rfl (in111 _ (by show(0:Int)<=kd;omega) (by show(kd:Int)<=7;omega))) (ok_letE (w:=false) rfl (ok_bind (v:=true) (bifT rfl (in111 _ hc.1 hc.2)) (ok_letE (w:=false) rfl ?_))))
  match ad,l5 with
  |0,_=>exact ok_letE (w:=false) rfl (ok_bind (v:=true) (bifT rfl (f140 _ (by omega))) (ok_letE (w:=false) rfl (ok_bind (v:=true) (bifT rfl (z115 _)) (ok_letE (w:=false) rfl (ok_bind (v:=false) (bifT rfl (f115 _ (by omega))) (ok_bind (v:=false) (bifF rfl rfl) (ok_letE (w:=false) rfl (ok_letE (w:=false) rfl (ok_some rfl)))))))))
  |1,_=>exact ok_letE (w:=false) rfl (ok_bind (v:=true) (bifT rfl (z140 _)) (ok_letE (w:=false) rfl (ok_bind (v:=false) (bifT rfl (s115 _ (by omega))) (ok_letE (w:=false) rfl (ok_bind (v:=true) (bifT rfl (z115 _)) (ok_bind (v:=false) (bifT rfl (s115 _ (by omega))) (ok_letE (w:=false) rfl (ok_letE (w:=false) rfl (ok_some rfl)))))))))
  |2,_=>exact ok_letE (w:=false) rfl (ok_bind (v:=true) (bifT rfl (f140 _ (by omega))) (ok_letE (w:=false) rfl (ok_bind (v:=false) (bifT rfl (s115 _ (by omega))) (ok_letE (w:=false) rfl (ok_bind (v:=false) (bifT rfl (f115 _ (by omega))) (ok_bind (v:=false) (bifF rfl rfl) (ok_letE (w:=false) rfl (ok_letE (w:=false) rfl (ok_some rfl)))))))))
 .refine ok_loop (fun i q=>q.1=portV k r kd cp ma ad/\q.2.1=maL (portV k r kd cp ma ad)/\q.2.2.1=((maL (portV k r kd cp ma ad)).length:Int)/\q.2.2.2=(i:Int)/\i<=(maL (portV k r kd cp ma ad)).length) (maL (portV k r kd cp ma ad)).length (fun i q ⟨e1,e2,e3,e4,hi⟩=>?_) ⟨rfl,rfl,rfl,rfl,Nat.zero_le _⟩ (by omega);generalize maL (portV k r kd cp ma ad)=L at *;obtain⟨q1,q2,q3,q4⟩:=q;simp only at e1 e2 e3 e4;subst e1;subst e2;subst e3;subst e4;refine ok_let (ok_if (fun hc=>?_) fun hc=>ok_leave (hg _ rfl));have hlt:i<q2.length:=by simpa using hc
  obtain⟨n,hn⟩:=hm (List.getElem_mem hlt);refine ok_bind (aJo hlt) ?_;rw[hn];exact ok_bind (mac139 N n) (ok_letE (w:=false) rfl (ok_if (fun h=>by cases h) fun _=>ok_letE (w:=((i+1:Nat):Int)) (wv _ rfl (by omega) (by omega)) (ok_again hlt ⟨rfl,rfl,rfl,rfl,hlt⟩)))
end Go.Proofs.YtbpocjclcbjggaaGreatDoor
