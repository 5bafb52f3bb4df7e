/- Chapter 09, plainly: the deck; a member of the database drawn from it. -/
import Derived.Test.YtbpocjclcbjggaaGreatDoorT36
import Derived.Test.YtbpocjclcbjggaaGreatDoorNE1
import Derived.KernelRfl
namespace Go.Proofs.YtbpocjclcbjggaaGreatDoor
open Go.VM
set_option maxRecDepth 10000
theorem ok_get{R:Type}{x:Option R}{v:R}(h:Ok x fun r=>r=v):x=some v:=by
 obtain⟨r,hr,rfl⟩:=h;exact hr
abbrev Dk:=List Int×Int
def DK(d:Dk):Prop:=0<=d.2/\d.2<=d.1.length/\d.1.length<=9223372036854775807
theorem DK0{l:List Int}(h:l.length<=9223372036854775807):DK (l,0):=⟨Int.le_refl _,by show(0:Int)<=l.length;omega,h⟩
theorem mod_ok(N:Nat){a b:Int}(hb:0<b)(hb2:b<=9223372036854775807):∃r,n13 (N+1) (a,b)=some r/\0<=r/\r<b:=by
 refine⟨a%b,?_,Int.emod_nonneg _ (by omega),Int.emod_lt_of_pos _ hb⟩;rw[e13];have h0:b≠0:=by omega
 simp only[↓aKO,h0,if_false,aKI,aJY,aJz,decide_eq_true_eq];have h1:=Int.mul_tdiv_add_tmod a b;have h2:=Int.tmod_lt_of_pos a hb;have h3:=Int.lt_tmod_of_pos a hb;have h4:a%b=a.tmod b%b:=by
  conv=>lhs;rw[<-h1,Int.add_comm,Int.add_mul_emod_self_left]
 by_cases hn:a.tmod b<0
 .rw[if_pos hn,pV (by omega) (by omega),h4];rw[<-Int.add_emod_right,Int.emod_eq_of_lt (by omega) (by omega)]
 .rw[if_neg hn,h4,Int.emod_eq_of_lt (by omega) (by omega)]
theorem next_ok(N:Nat){d:Dk}(hd:DK d){b:Int}(hb:0<b)(hb2:b<=9223372036854775807):Ok (n34 (N+2) (d,b)) fun r=>0<=r.1/\r.1<b/\DK r.2:=by
 obtain⟨l,i⟩:=d;obtain⟨h1,h2,h3⟩:=hd;simp only at h1 h2 h3;rw[e34];simp only[↓aKO,aJz,decide_eq_true_eq,aJO,ge_iff_le];by_cases hi:(l.length:Int)<=i
 .rw[if_pos hi];exact⟨(0,(l,i)),rfl,Int.le_refl _,hb,h1,h2,h3⟩
 .rw[if_neg hi,pV (n:=i+1) (by omega) (by omega),pV (n:=i+1-1) (by omega) (by omega)];obtain⟨n,rfl⟩:=Int.eq_ofNat_of_zero_le h1;rw[show(n:Int)+1-1=(n:Int) by omega,aJo (l:=l) (n:=n) (by omega)];obtain⟨r,hr,r1,r2⟩:=mod_ok N (a:=l[n]'(by omega)) hb hb2;simp only[↓aKO,aKI,hr];exact⟨(r,(l,(n:Int)+1)),rfl,r1,r2,by simp only[DK];omega⟩
theorem next_nat(N:Nat){d:Dk}(hd:DK d)(b:Nat)(hb:0<b)(hb2:b<=9223372036854775807):Ok (n34 (N+2) (d,(b:Int))) fun r=>∃n:Nat,r.1=n/\n<b/\DK r.2:=
 ok_mono (next_ok N hd (by omega) (by omega)) fun r ⟨h1,h2,h3⟩=>by
  obtain⟨n,hn⟩:=Int.eq_ofNat_of_zero_le h1;exact⟨n,hn,by omega,h3⟩
/-- The port of gT k. -/
def macV(v:Nat):MacT:=(2,0,0,0,0,(v:Int))
def fourV(k:Nat):AddrT:=(false,0,3221225985+(k:Int))
def sixV(k:Nat):AddrT:=(true,2306139568115548160,1+(k:Int))
def portV(k r kd cp ma ad:Nat):PortT:=
 (3*(k:Int)+r,(kd:Int),[1,10,100,400].getD cp 0,bif ma==0 then[macV (100+k)]else[macV (100+k),macV (200+k)],bif ad==1 then(false,0,0)else fourV k,bif ad==0 then(false,0,0)else sixV k)
def PAt(k:Nat)(p:PortT):Prop:=∃r kd cp ma ad:Nat,r<3/\kd<4/\cp<4/\ma<2/\ad<3/\p=portV k r kd cp ma ad
def PsAt(k:Nat)(l:List PortT):Prop:=∀(i:Nat) (h:i<l.length),PAt (k+1+i) l[i]
theorem PsAt.nil(k:Nat):PsAt k []:=fun _ h=>by cases h
theorem PsAt.snoc{k:Nat}{l:List PortT}{p:PortT}(h:PsAt k l)(hp:PAt (k+1+l.length) p):PsAt k (l++[p]):=fun i hi=>by
 by_cases h1:i<l.length
 .rw[List.getElem_append_left h1];exact h i h1
 .have h2:i=l.length:=by rw[List.length_append,List.length_singleton]at hi;omega
  subst h2;simpa using hp
theorem PsAt.append{k:Nat}{l m:List PortT}(h:PsAt k l)(hm:PsAt (k+l.length) m):PsAt k (l++m):=fun i hi=>by
 by_cases h1:i<l.length
 .rw[List.getElem_append_left h1];exact h i h1
 .rw[List.getElem_append_right (by omega)];have:=hm (i-l.length) (by rw[List.length_append]at hi;omega)
  rwa [show k+l.length+1+(i-l.length)=k+1+i by omega]at this
def isS{T:Type}[DecidableEq T](x:Option T)(y:T):Bool:=decide (x=some y)
theorem isS_eq{T:Type}[DecidableEq T]{x:Option T}{y:T}(h:isS x y=true):x=some y:=of_decide_eq_true h
theorem evN{T:Type}[DecidableEq T]{f:Nat->Option T}{g:Nat->T}{b n:Nat}(h:(List.range b).all (fun n=>isS (f n) (g n))=true)(hn:n<b):f n=some (g n):=
 of_decide_eq_true (List.all_eq_true.1 h n (List.mem_range.2 hn))
theorem mac21(N:Nat){n:Nat}(h:n<256):n21 (N+1) (n:Int)=some (macV n):=
 aGj (T:=TN) (Nat.succ_le_succ (Nat.zero_le N)) 21 (n:Int) (macV n) (evN (T:=MacT) (f:=fun n=>n21 1 (n:Int)) (g:=macV) (b:=256) (by kernel_rfl) h)
theorem four56(N:Nat){n:Nat}(h:n<256):n56 (N+1) (n:Int)=some (fourV n):=
 aGj (T:=TN) (Nat.succ_le_succ (Nat.zero_le N)) 56 (n:Int) (fourV n) (evN (T:=AddrT) (f:=fun n=>n56 1 (n:Int)) (g:=fourV) (b:=256) (by kernel_rfl) h)
theorem six57(N:Nat){n:Nat}(h:n<256):n57 (N+1) (n:Int)=some (sixV n):=
 aGj (T:=TN) (Nat.succ_le_succ (Nat.zero_le N)) 57 (n:Int) (sixV n) (evN (T:=AddrT) (f:=fun n=>n57 1 (n:Int)) (g:=sixV) (b:=256) (by kernel_rfl) h)
def sets:List (List UInt8):=[[],[65,83,45,65],[65,83,45,66]]
structure MAt(k:Nat)(a:Int)(nm:List UInt8)(m:MemT):Prop where
 asn:m.1=a
 nm:m.2.1=nm
 set:m.2.2.1∈sets
 l4:0<=m.2.2.2.1/\m.2.2.2.1<20
 l6:0<=m.2.2.2.2.1/\m.2.2.2.2.1<20
 len:1<=(poL m).length/\(poL m).length<=2
 ps:PsAt k (poL m)
theorem idx_nat{α:Type}{l:List α}{n:Nat}(h:n<l.length)(z:α):aEU l (n:Int)=some (l.getD n z):=by
 rw[aJo h,List.getD_eq_getElem?_getD,List.getElem?_eq_getElem h];rfl
theorem member_ok(N:Nat)(hN:5<N){d:Dk}(hd:DK d)(a:Int)(nm:List UInt8)(k:Nat)(hk:k<=20):Ok (n35 (N+3) (d,a,nm,(k:Int))) fun r=>MAt k a nm r.1/\DK r.2.1/\r.2.2=((k+(poL r.1).length:Nat):Int):=by
 rw[e35];refine ok_let (ok_bind' (next_nat N hd 3 (by decide) (by decide)) fun v1 ⟨x1,h1,l1,d1⟩=>?_);rw[h1];obtain⟨sx,sm,hs⟩:=idx_mem (l:=sets) (v:=(x1:Int)) (by omega) (by show(x1:Int)<3;omega);refine ok_bind hs (ok_bind' (next_ok N d1 (b:=20) (by decide) (by decide)) fun v3 h3=>ok_bind' (next_ok N h3.2.2 (b:=20) (by decide) (by decide)) fun v4 h4=>ok_let (ok_bind' (next_nat N h4.2.2 2 (by decide) (by decide)) fun v6 ⟨x6,h6,l6,d6⟩=>?_));rw[h6];refine ok_letE (w:=((1+x6:Nat):Int)) (wv _ (by omega) (by omega) (by omega)) ?_;refine ok_join (fun q=>MAt k a nm q.2.1/\DK q.2.2.1/\q.2.2.2=((k+(poL q.2.1).length:Nat):Int)) (fun q hq=>ok_some hq) fun g hg=>?_
 refine ok_loop (fun i q=>∃l,q.2.1=(a,nm,sx,v3.1,v4.1,l)/\l.length=i/\PsAt k l/\q.2.2.1=((1+x6:Nat):Int)-(i:Int)/\DK q.2.2.2.1/\q.2.2.2.2=((k+i:Nat):Int)/\i<=1+x6) (1+x6) (fun i q ⟨l,e1,el,hp,e2,hdk,e3,hi⟩=>?_) ⟨[],rfl,rfl,PsAt.nil k,by simp,d6,rfl,Nat.zero_le _⟩ (by omega);obtain⟨q0,q1,q2,q3,q4⟩:=q;simp only at e1 e2 hdk e3;subst e1;subst e2;subst e3;refine ok_let (ok_if (fun hc=>?_) fun hc=>?_)
 · have hlt : i < 1 + x6 := by
     have:=of_decide_eq_true hc;simp only at this;omega
   refine ok_letE (w:=((k+1+i:Nat):Int)) (wv _ (by show((k+i:Nat):Int)+1=_;omega) (by omega) (by omega)) (ok_letE (w:=((3*(k+1+i):Nat):Int)) (wv _ (by omega) (by omega) (by omega)) ?_);refine ok_bind' (next_nat N hdk 3 (by decide) (by decide)) fun w1 ⟨r,hr,lr,dr⟩=>?_
   rw[hr];refine ok_letE (w:=((3*(k+1+i)+r:Nat):Int)) (wv _ (by omega) (by omega) (by omega)) ?_;refine ok_bind' (next_nat N dr 4 (by decide) (by decide)) fun w2 ⟨kd,hkd,lkd,dkd⟩=>ok_let ?_
   rw[hkd];refine ok_bind' (next_nat N dkd 4 (by decide) (by decide)) fun w3 ⟨cp,hcp,lcp,dcp⟩=>?_
   rw[hcp];refine ok_bind (idx_nat (l:=[(1:Int),10,100,400]) lcp 0) (ok_letE (w:=((100+(k+1+i):Nat):Int)) (wv _ (by omega) (by omega) (by omega)) (ok_bind (mac21 _ (by omega)) (ok_let (ok_bind' (next_nat N dcp 4 (by decide) (by decide)) fun w4 ⟨m4,hm4,lm4,dm4⟩=>?_))));refine ok_join (fun q=>∃(t:Int×Int×Int×List MacT×AddrT×AddrT) (ma:Nat),ma<2/\q.2.1=(a,nm,sx,v3.1,v4.1,l)/\q.2.2.1=((1+x6:Nat):Int)-(i:Int)/\q.2.2.2.1=((k+1+i:Nat):Int)/\q.2.2.2.2.1=t/\DK q.2.2.2.2.2.1/\q.2.2.2.2.2.2=((k+1+i:Nat):Int)/\
    t=(((3*(k+1+i)+r:Nat):Int),(kd:Int),[1,10,100,400].getD cp 0,(bif ma==0 then[macV (100+(k+1+i))]else[macV (100+(k+1+i)),macV (200+(k+1+i))]),(false,0,0),(false,0,0))) ?_ ?_
   .rintro⟨y0,y1,y2,y3,y4,y5,y6⟩ ⟨t,ma,lma,f1,f2,f3,f4,f5,f6,ft⟩;simp only at f1 f2 f3 f4 f5 f6;subst f1;subst f2;subst f3;subst f4;subst f6;subst ft;refine ok_bind' (next_nat N f5 4 (by decide) (by decide)) fun w5 ⟨ad,had,lad,dad⟩=>?_
    rw[had];refine ok_join (fun q=>∃a2:Nat,a2<3/\q.2.1=(a,nm,sx,v3.1,v4.1,l)/\q.2.2.1=((1+x6:Nat):Int)-(i:Int)/\q.2.2.2.1=portV (k+1+i) r kd cp ma a2/\DK q.2.2.2.2.1/\q.2.2.2.2.2=((k+1+i:Nat):Int)) ?_ ?_
    .rintro⟨z0,z1,z2,z3,z4,z5⟩ ⟨a2,la2,g1,g2,g3,g4,g5⟩;simp only at g1 g2 g3 g4 g5;subst g1;subst g2;subst g3;subst g5;refine ok_let (ok_bind (aJm (by simp only[List.length_singleton];omega) (by simp only[List.length_singleton];omega)) (ok_letE (w:=((1+x6:Nat):Int)-((i+1:Nat):Int)) (wv _ (by show((1+x6:Nat):Int)-(i:Int)-1=_;omega) (by omega) (by omega)) (ok_again hlt ⟨l++[portV (k+1+i) r kd cp ma a2],rfl,by rw[List.length_append,el];rfl,hp.snoc ?_,rfl,g4,by show((k+1+i:Nat):Int)=((k+(i+1):Nat):Int);omega,hlt⟩)));rw[el];exact⟨r,kd,cp,ma,a2,lr,lkd,lcp,lma,la2,rfl⟩
    .intro g2 hg2;refine ok_join (fun q=>∃a2:Nat,a2<3/\q.2.1=(a,nm,sx,v3.1,v4.1,l)/\q.2.2.1=((1+x6:Nat):Int)-(i:Int)/\q.2.2.2.1=portV (k+1+i) r kd cp ma a2/\DK q.2.2.2.2.1/\q.2.2.2.2.2=((k+1+i:Nat):Int)) (fun q hq=>hg2 _ hq) fun g3 hg3=>?_
     refine ok_if (fun h=>ok_bind (four56 _ (by omega)) (hg3 _ ⟨0,by decide,rfl,rfl,?_,dad,rfl⟩)) fun h=>ok_join (fun q=>∃a2:Nat,a2<3/\q.2.1=(a,nm,sx,v3.1,v4.1,l)/\q.2.2.1=((1+x6:Nat):Int)-(i:Int)/\q.2.2.2.1=portV (k+1+i) r kd cp ma a2/\DK q.2.2.2.2.1/\q.2.2.2.2.2=((k+1+i:Nat):Int)) (fun q hq=>hg3 _ hq) fun g4 hg4=>ok_if (fun h=>ok_bind (six57 _ (by omega)) (hg4 _ ⟨1,by decide,rfl,rfl,?_,dad,rfl⟩)) fun h=>ok_bind (four56 _ (by omega)) (ok_bind (six57 _ (by omega)) (hg4 _ ⟨2,by decide,rfl,rfl,?_,dad,rfl⟩))
     all_goals simp only[portV,Int.natCast_add,Int.natCast_mul];rfl
   .intro g2 hg2;refine ok_if (fun h=>?_) fun h=>?_
    .exact ok_letE (w:=((200+(k+1+i):Nat):Int)) (wv _ (by omega) (by omega) (by omega)) (ok_bind (mac21 _ (by omega)) (ok_let (ok_bind (aJm (by simp only[List.length_singleton];omega) (by simp only[List.length_singleton];omega)) (hg2 _ ⟨_,1,by decide,rfl,rfl,rfl,rfl,dm4,rfl,rfl⟩))))
    .exact hg2 _ ⟨_,0,by decide,rfl,rfl,rfl,rfl,dm4,rfl,rfl⟩
 · have hle : i = 1 + x6 := by
     have:=of_decide_eq_false hc;simp only at this;omega
   refine ok_leave (hg _ ⟨⟨rfl,rfl,sm,⟨h3.1,h3.2.1⟩,⟨h4.1,h4.2.1⟩,?_,hp⟩,hdk,?_⟩)
   .show 1<=l.length/\l.length<=2;omega
   .show((k+i:Nat):Int)=((k+l.length:Nat):Int);omega
end Go.Proofs.YtbpocjclcbjggaaGreatDoor
