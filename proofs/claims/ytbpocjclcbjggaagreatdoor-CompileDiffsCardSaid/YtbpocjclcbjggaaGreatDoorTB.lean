/- Operations that only answer: comparisons, places, parts of rows, new rows. -/
import Derived.Test.YtbpocjclcbjggaaGreatDoorTA
namespace Go.VM
section
variable{X:Cxt}{D:Nat->SY}{Λ:LS}{C:CC}{e:TE D}{β:Nat->Nat}{σ:St}{t0:Nat->Nat}{mk:List Nat}{sg:Nat->Sg}{cf:NF sg}
theorem aHd(h:RS X D Λ C e β σ){cs:List (Nat×Bool)}(hh:holds e cs){d:Nat}{neq:Bool}{k:EK}{x y:Opd}:mF X D cf Λ C e β σ t0 cs d (.eq neq k x y):=by
 intro ls cp e' hc hv ho;simp only[lA]at hc;split at hc
 .rename_i hr;cases hc;obtain⟨hrx,hry⟩:=nK hr;simp only[dop]at ho;split at ho
  .split at ho
   .rename_i a b ha hb;obtain⟨z,rfl,hx⟩:=bL ho;refine⟨z,_,rfl,?_,VOk.lone (hx eY) trivial⟩;simp only[aB,h.opB hh ha hrx,h.opB hh hb hry,eqV,Option.map_some]
   .exact(fail_out ho).elim
  .rename_i ks;split at ho
   .rename_i t ht;split at ho
    .rename_i hcond;split at ho
     .rename_i a b ha hb;obtain⟨z,rfl,hx⟩:=bL ho;obtain⟨lx,hlx⟩:=Option.isSome_iff_exists.1 hrx;obtain⟨ly,hly⟩:=Option.isSome_iff_exists.1 hry;obtain⟨xs,e1,k1⟩:=nJ hcond.2 (h.opD hh ha hlx).1;obtain⟨ys,e2,k2⟩:=nJ hcond.2 (h.opD hh hb hly).1;refine⟨z,_,rfl,?_,VOk.lone (hx eY) trivial⟩;simp only[aB,e1,e2,eqV,wQ hcond.1 k1 k2,Option.map_some]
     .exact(fail_out ho).elim
    .exact(fail_out ho).elim
   .exact(fail_out ho).elim
  .split at ho
   .rename_i s;split at ho
    .rename_i a ha;obtain⟨z,rfl,hx⟩:=bL ho;obtain⟨lx,hlx⟩:=Option.isSome_iff_exists.1 hrx;refine⟨z,_,rfl,?_,VOk.lone (hx eY) trivial⟩;have hcn:ev (get σ.env) (.const .nili)=.nili:=rfl;rcases aGM (h.opD hh ha hlx).1 with⟨e1,e2⟩|⟨t,u,e1,e2⟩
     .simp only[aB,e1,hcn,eqV,Option.map_some,e2,Bool.not_false]
     .simp only[aB,e1,hcn,eqV,Option.map_some,e2,Bool.not_true]
    .exact(fail_out ho).elim
   .exact(fail_out ho).elim
  .exact(fail_out ho).elim
 .cases hc
theorem aEj(h:RS X D Λ C e β σ){cs:List (Nat×Bool)}(hh:holds e cs){d:Nat}{op:UnOp}{x:Opd}:mF X D cf Λ C e β σ t0 cs d (.unop op x):=by
 intro ls cp e' hc hv ho;simp only[lA]at hc;split at hc
 .rename_i hr;cases hc;have hrx:=kJ hr;simp only[dop]at ho;split at ho
  .split at ho
   .rename_i a ha;obtain⟨z,rfl,hx⟩:=bL ho;refine⟨z,_,rfl,?_,VOk.lone (hx eY) trivial⟩;simp only[aB,h.opB hh ha hrx,unV]
   .exact(fail_out ho).elim
  .split at ho
   .split at ho
    .rename_i k hk a ha;obtain⟨z,rfl,hx⟩:=bL ho;refine⟨z,_,rfl,?_,VOk.lone (hx bN) trivial⟩;simp only[aB,h.opI hh ha hrx,unV]
    .exact(fail_out ho).elim
   .exact(fail_out ho).elim
  .split at ho
   .split at ho
    .rename_i k hk a ha;obtain⟨z,rfl,hx⟩:=bL ho;refine⟨z,_,rfl,?_,VOk.lone (hx bN) trivial⟩;simp only[aB,h.opI hh ha hrx,unV]
    .exact(fail_out ho).elim
   .exact(fail_out ho).elim
  .exact(fail_out ho).elim
 .cases hc
theorem aDF(h:RS X D Λ C e β σ){cs:List (Nat×Bool)}(hh:holds e cs){d:Nat}{k:IntKind}{x:Opd}:mF X D cf Λ C e β σ t0 cs d (.convI k x):=by
 intro ls cp e' hc hv ho;simp only[lA]at hc;split at hc
 .rename_i hr;cases hc;have hrx:=kJ hr;simp only[dop]at ho;split at ho
  .split at ho
   .rename_i k hk a ha;obtain⟨z,rfl,hx⟩:=bL ho;refine⟨z,_,rfl,?_,VOk.lone (hx bN) trivial⟩;simp only[aB,h.opI hh ha hrx]
   .exact(fail_out ho).elim
  .exact(fail_out ho).elim
 .cases hc
theorem nO:∀{l:List (Ty.int .u8).den} {cs:List V},aL (bP (.int .u8)) l cs->gR cs=some (aD8 l)
 |[],_,h=>by cases h;rfl
 |x::l,_,⟨c,r,hcr,h1,h2⟩=>by
  cases h1;rw[hcr];simp only[List.cons_append,List.nil_append,gR,aAV,nO h2];rfl
theorem oT:∀(s:List UInt8),aL (bP (.int .u8)) (iJ s) (gS s)
 |[]=>rfl
 |_::s=>⟨[_],gS s,rfl,rfl,oT s⟩
theorem sF{s:List UInt8}:∀c∈gS s,c.bare0:=by
 intro c hc;unfold gS at hc;obtain⟨b,_,rfl⟩:=List.mem_map.1 hc;trivial
theorem aDG(h:RS X D Λ C e β σ){cs:List (Nat×Bool)}(hh:holds e cs){d:Nat}{av:List Nat}{x:Opd}:mF X D cf Λ C e β σ t0 cs d (.toStr x av):=by
 intro ls cp e' hc hv ho;simp only[lA]at hc;split at hc
 .rename_i l hl;split at hc
  .rename_i hav;cases hc;simp only[dop]at ho;split at ho
   .rename_i a ha;obtain⟨z,rfl,hx⟩:=bL ho;obtain⟨k1,k2,_⟩:=h.opD hh ha hl;refine⟨z,_,rfl,?_,VOk.lone (hx oQ) trivial⟩;rcases eX k1 with⟨e1,e2⟩|⟨lb,rs,e1,e2,e3⟩
    .simp only[aB,e1,e2];rfl
    .rw[e1]at k2;have hfr:=nM (av:=av) (k2 0 (.sl lb _ _ rs) rfl) (nN hav 0);simp only[aB,e1,Ty.size,hfr,if_true,nO e2,Option.map_some]
   .exact(fail_out ho).elim
  .cases hc
 .cases hc
theorem eO{t:Ty}{l:List t.den}{lb:Lab}{rs:List V}(h:aL (bP t) l rs)(hb:∀c∈rs,c.bare0):gP (.sl t) l (.sl lb t.size l.length rs):=
 ⟨.inr ⟨lb,rs,rfl,h,hb⟩,rfl⟩
theorem iB{T:Nat->Nat}{lk:Nat->Bool}{gv:Nat->Prop}{E:Nat->V}{ls:Ls}{lb:Lab}{z n:Nat}{rs:List V}(h:bR T lk gv E (aV ls 0) lb):cD T lk gv E ls (V.sl lb z n rs).kids:=by
 intro i c hc;have hi:i=0/\c=.sl lb z n rs:=by
  simp only[V.kids]at hc;cases i with
  |zero=>simp at hc;exact⟨rfl,hc.symm⟩
  |succ i=>simp at hc
 obtain⟨rfl,rfl⟩:=hi;exact h
theorem oU{T:Nat->Nat}{lk:Nat->Bool}{gv:Nat->Prop}{E:Nat->V}{ls:Ls}{lb:Lab}{n:Nat}{rs:List V}(h:bR T lk gv E (aV ls 0) lb):cD T lk gv E ls (V.ep lb rs n).kids:=by
 intro i c hc;have hi:i=0/\c=.ep lb rs n:=by
  simp only[V.kids]at hc;cases i with
  |zero=>simp at hc;exact⟨rfl,hc.symm⟩
  |succ i=>simp at hc
 obtain⟨rfl,rfl⟩:=hi;exact h
theorem sG{T:Nat->Nat}{lk:Nat->Bool}{gv:Nat->Prop}{E:Nat->V}{ls:Ls}:cD T lk gv E ls V.nils.kids:=by
 refine dY fun c hc=>?_
 have:c=.nils:=by simpa[V.kids]using hc
 subst this;trivial
theorem aEk{E:Nat->V}{bx:BX}{s0 s o c n:Nat}{cs:List V}{y:SY}(hy:y=.rp s o)(hE:E s=.reg c n cs)(x:y.den):cN E β bx s0 y x (.rp s c o):=by
 subst hy;exact⟨c,n,cs,hE,rfl⟩
theorem srel_ptr{E:Nat->V}{bx:BX}{s0 b o:Nat}{y:SY}(hy:y=.ptr b o)(x:y.den):cN E β bx s0 y x (.bp (β b) o):=by
 subst hy;rfl
theorem pZ{E:Nat->V}{cp:Option (Nat×Option Nat)}{lb:Lab}{rs:List V}{o o':Nat}(h:eB E cp (.ep lb rs o)):eB E cp (.ep lb rs o'):=by
 intro r q hq;obtain⟨W,h1,h2⟩:=h r q hq;exact⟨W,h1,h2⟩
theorem qA{x:Opd}{s o:Nat}(h:adO D x=.rp s o\/adO D x=.ptr s o):aCu D Λ C x=none:=by
 cases x with
 |const v=>rfl
 |tmp p=>
  simp only[adO]at h;simp only[aCu];cases hD:D p with
  |d t=>rw[hD]at h;simp at h
  |ep=>rw[hD]at h;simp at h
  |_=>rfl
theorem aBP(h:RS X D Λ C e β σ){cs:List (Nat×Bool)}(hh:holds e cs){d off:Nat}{x:Opd}:mF X D cf Λ C e β σ t0 cs d (.fieldA off x):=by
 intro ls cp e' hc hv ho;simp only[lA]at hc;obtain⟨l,hl,he⟩:=Option.map_eq_some_iff.1 hc;cases he;simp only[dop]at ho;split at ho
 .rename_i s o ha;split at ho
  .rename_i hD;simp only[OD.out]at ho;cases ho;obtain⟨y,k1,k2,k3⟩:=h.ad hh ha rfl hl d;obtain⟨c,n,cells,p1,p2⟩:=k1;rw[qA (.inl ha)];refine⟨e d,_,TE.set_self.symm,?_,VOk.lone (aEk hD p1 _) trivial⟩;simp only[aB,p2]
  .exact(fail_out ho).elim
 .rename_i b o ha;split at ho
  .rename_i hD;simp only[OD.out]at ho;cases ho;obtain⟨y,k1,k2,k3⟩:=h.ad hh ha rfl hl d;have k1:ev (get σ.env) x=.bp (β b) o:=k1;rw[qA (.inr ha)];refine⟨e d,_,TE.set_self.symm,?_,VOk.lone (srel_ptr hD _) trivial⟩;simp only[aB,k1]
  .exact(fail_out ho).elim
 .rename_i t o r ha;split at ho
  .rename_i f c hf hcc;simp only[OD.out]at ho;cases ho;obtain⟨k1,k2,k3,_⟩:=h.opd hh hf hl d;obtain⟨lb,cells,p1,p2,p3,p4⟩:=k1;rw[p1]at k2 k3;refine⟨_,.ep lb cells ((f e).1.2*t.size+(o+off)),rfl,?_,bS hcc ⟨lb,cells,rfl,p2,p3,p4⟩,oU (k2 0 (.ep lb cells _) rfl),pZ k3,rfl⟩;simp only[aB,p1,Nat.add_assoc]
  .exact(fail_out ho).elim
 .rename_i t o ha;split at ho
  .rename_i f c hf hcc;simp only[OD.out]at ho;cases ho;obtain⟨k1,k2,k3,_⟩:=h.opd hh hf hl d;obtain⟨lb,cells,p1,p2,p3,p4⟩:=k1;rw[p1]at k2 k3;refine⟨_,.ep lb cells (o+off),rfl,?_,bS hcc ⟨lb,cells,rfl,p2,p3,p4⟩,oU (k2 0 (.ep lb cells _) rfl),pZ k3,rfl⟩;simp only[aB,p1]
  .exact(fail_out ho).elim
 .exact(fail_out ho).elim
theorem aDH(h:RS X D Λ C e β σ){cs:List (Nat×Bool)}(hh:holds e cs){d off sz:Nat}{agg:Bool}{x:Opd}:mF X D cf Λ C e β σ t0 cs d (.field agg off sz x):=by
 intro ls cp e' hc hv ho;simp only[lA]at hc;split at hc
 .rename_i l u hl hu;obtain⟨hDd,hk⟩:=dty_some hu;split at hc
  .rename_i hcond;obtain⟨hno,rfl,rfl,hta⟩:=hcond;cases hc;simp only[dop]at ho;split at ho
   .rename_i t u' ht hu';rw[hu]at hu';cases hu';rw[ht]at hta;split at ho
    .rename_i f a hf ha;obtain⟨z,rfl,hx⟩:=bL ho;obtain⟨k1,k2,_⟩:=h.opD hh ha hl;obtain⟨cells,e1,e2⟩:=nJ hta k1;rw[e1]at k2;obtain⟨g1,g2⟩:=cK hf;obtain⟨w,w1,w2,w3,w4⟩:=dI (by rw[aF e2];exact g1) (g2 _ _ e2) hk (cD.sub (cells:=cells) k2 off u.size) (wX hno _ _);refine⟨z,w,rfl,?_,hx w2,by rw[w3];exact cD.sub (cells:=cells) k2 off u.size,eB.none,(aG w2).2.2.1⟩;simp only[aB,e1];exact w1
    .exact(fail_out ho).elim
   .exact(fail_out ho).elim
  .cases hc
 .cases hc
theorem aEl(h:RS X D Λ C e β σ){cs:List (Nat×Bool)}(hh:holds e cs){d z:Nat}{x i:Opd}:mF X D cf Λ C e β σ t0 cs d (.idxS z x i):=by
 intro ls cp e' hc hv ho;simp only[lA]at hc;split at hc
 .rename_i l li t hl hli ht;split at hc
  .rename_i hz;cases hc;simp only[dop]at ho;split at ho
   .rename_i t' k ht' hk;rw[ht]at ht';cases ht';split at ho
    .rename_i a j ha hj;split at ho
     .split at ho
      .rename_i r hD c hcc;obtain⟨v,h1,rfl⟩:=Option.map_eq_some_iff.1 ho;obtain⟨i1,i2,i3⟩:=sC h1;obtain⟨k1,k2,k3⟩:=h.opD hh ha hl;have hi:=h.opI hh hj (by rw[hli];rfl);rcases eX k1 with⟨e1,e2⟩|⟨lb,rs,e1,e2,e3⟩
       .rw[e2]at i2;simp at i2;omega
       .rw[e1]at k2 k3;refine⟨_,.ep lb rs ((j e).toNat*z),rfl,?_,bS hcc (x:=((a e,(j e).toNat),v)) ⟨lb,rs,by rw[hz];rfl,e2,e3,i3⟩,oU (k2 0 (.sl lb _ _ rs) rfl),?_,rfl⟩
        .simp only[aB,e1,hi];rw[if_pos ⟨hz.symm,i1,i2⟩]
        .intro r' o hq;obtain⟨W,q1,q2⟩:=k3 r' o hq;have q2:_=W:=q2;exact⟨W,q1,⟨_,_,q2.symm⟩⟩
      .exact(fail_out ho).elim
     .exact(fail_out ho).elim
    .exact(fail_out ho).elim
   .exact(fail_out ho).elim
  .cases hc
 .cases hc
theorem sH{i:Opd}{n:Int}(h:aEZ i=some n){E:Nat->V}:∃k,ev E i=.int k n:=by
 cases i with
 |tmp s=>cases h
 |const v=>
  cases v with
  |int k' n'=>cases h;exact⟨k',rfl⟩
  |_=>cases h
theorem aEm(h:RS X D Λ C e β σ){cs:List (Nat×Bool)}(hh:holds e cs){d len z:Nat}{x i:Opd}:mF X D cf Λ C e β σ t0 cs d (.idxA len z x i):=by
 intro ls cp e' hc hv ho;simp only[lA]at hc;split at hc
 .rename_i l li hl hli;simp only[dop]at ho;split at ho
  .rename_i s o ha;obtain⟨y,k1,k2,k3⟩:=h.ad hh ha rfl hl d;obtain⟨c,n,cells,p1,p2⟩:=k1;split at ho
   .rename_i m hm;split at ho
    .rename_i hcond;simp only[OD.out]at ho;cases ho;obtain⟨ki,hi⟩:=sH hm (E:=get σ.env);have hcp:cp=none:=by
      rw[hcond.2.2]at hc;simp only[Option.some.injEq,Prod.mk.injEq]at hc;rw[<-hc.2,qA (.inl ha)]
     subst hcp;refine⟨e d,_,TE.set_self.symm,?_,VOk.lone (aEk hcond.2.2 p1 _) trivial⟩;simp only[aB,p2,hi];rw[if_pos ⟨hcond.1,hcond.2.1⟩]
    .exact(fail_out ho).elim
   .split at ho
    .rename_i k hk;split at ho
     .rename_i j s' o' len' u hj hD;split at ho
      .rename_i c' hcc;obtain⟨v,h1,rfl⟩:=Option.map_eq_some_iff.1 ho;simp only[aJu]at h1;split at h1
       .rename_i hb;cases h1;rw[hD]at hc;simp only at hc;split at hc
        .rename_i hz;cases hc;have hi:=h.opI hh hj (by rw[hli];rfl);have hlt:(j e).toNat<len:=by
          have hb2:=hb.2;have hb1:=hb.1;omega
         refine⟨_,.rp s c (o+(j e).toNat*z),rfl,?_,VOk.lone (bS hcc (x:=(j e).toNat) ⟨hlt,c,n,cells,p1,by rw[hz]⟩) trivial⟩;simp only[aB,p2,hi];rw[if_pos hb]
        .cases hc
       .cases h1
      .exact(fail_out ho).elim
     .exact(fail_out ho).elim
    .exact(fail_out ho).elim
  .rename_i b o ha;obtain⟨y,k1,k2,k3⟩:=h.ad hh ha rfl hl d;have k1:ev (get σ.env) x=.bp (β b) o:=k1;split at ho
   .rename_i m hm;split at ho
    .rename_i hcond;simp only[OD.out]at ho;cases ho;obtain⟨ki,hi⟩:=sH hm (E:=get σ.env);have hcp:cp=none:=by
      rw[hcond.2.2]at hc;simp only[Option.some.injEq,Prod.mk.injEq]at hc;rw[<-hc.2,qA (.inr ha)]
     subst hcp;refine⟨e d,_,TE.set_self.symm,?_,VOk.lone (srel_ptr hcond.2.2 _) trivial⟩;simp only[aB,k1,hi];rw[if_pos ⟨hcond.1,hcond.2.1⟩]
    .exact(fail_out ho).elim
   .exact(fail_out ho).elim
  .rename_i t o r ha;split at ho
   .rename_i m hm;split at ho
    .rename_i hcond;split at ho
     .rename_i f c hf hcc;simp only[OD.out]at ho;cases ho;obtain⟨hDe,_⟩:=eK hcc;rw[<-hDe]at hc;simp only[Option.some.injEq,Prod.mk.injEq]at hc;obtain⟨rfl,rfl⟩:=hc;obtain⟨ki,hi⟩:=sH hm (E:=get σ.env);obtain⟨k1,k2,k3,_⟩:=h.opd hh hf hl d;obtain⟨lb,cells,p1,p2,p3,p4⟩:=k1;rw[p1]at k2 k3;refine⟨_,.ep lb cells ((f e).1.2*t.size+(o+m.toNat*z)),rfl,?_,bS hcc ⟨lb,cells,rfl,p2,p3,p4⟩,oU (k2 0 (.ep lb cells _) rfl),pZ k3,rfl⟩;simp only[aB,p1,hi,Nat.add_assoc];rw[if_pos hcond]
     .exact(fail_out ho).elim
    .exact(fail_out ho).elim
   .exact(fail_out ho).elim
  .rename_i t o ha;split at ho
   .rename_i m hm;split at ho
    .rename_i hcond;split at ho
     .rename_i f c hf hcc;simp only[OD.out]at ho;cases ho;obtain⟨hDe,_⟩:=eK hcc;rw[<-hDe]at hc;simp only[Option.some.injEq,Prod.mk.injEq]at hc;obtain⟨rfl,rfl⟩:=hc;obtain⟨ki,hi⟩:=sH hm (E:=get σ.env);obtain⟨k1,k2,k3,_⟩:=h.opd hh hf hl d;obtain⟨lb,cells,p1,p2,p3,p4⟩:=k1;rw[p1]at k2 k3;refine⟨_,.ep lb cells (o+m.toNat*z),rfl,?_,bS hcc ⟨lb,cells,rfl,p2,p3,p4⟩,oU (k2 0 (.ep lb cells _) rfl),pZ k3,rfl⟩;simp only[aB,p1,hi];rw[if_pos hcond]
     .exact(fail_out ho).elim
    .exact(fail_out ho).elim
   .exact(fail_out ho).elim
  .exact(fail_out ho).elim
 .cases hc
theorem aGP(h:RS X D Λ C e β σ){cs:List (Nat×Bool)}(hh:holds e cs){d len z:Nat}{agg:Bool}{x i:Opd}:mF X D cf Λ C e β σ t0 cs d (.ixA agg len z x i):=by
 intro ls cp e' hc hv ho;simp only[lA]at hc;split at hc
 .rename_i l li u hl hli hu;obtain⟨hDd,hk⟩:=dty_some hu;split at hc
  .rename_i hcond;obtain⟨rfl,rfl,rfl,hta⟩:=hcond;cases hc;simp only[dop]at ho;split at ho
   .rename_i t u' n ht hu' hn;rw[hu]at hu';cases hu';rw[ht]at hta;split at ho
    .rename_i hb;split at ho
     .rename_i f a hf ha;obtain⟨y,rfl,hx⟩:=bL ho;obtain⟨k1,k2,_⟩:=h.opD hh ha hl;obtain⟨cells,e1,e2⟩:=nJ hta k1;rw[e1]at k2;obtain⟨ki,hi⟩:=sH hn (E:=get σ.env);obtain⟨g1,g2⟩:=cK hf;obtain⟨w,w1,w2,w3,w4⟩:=dI (by rw[aF e2];exact g1) (g2 _ _ e2) hk (cD.nil_sub (cells:=cells) k2 _ u.size) lD;refine⟨y,w,rfl,?_,hx w2,by rw[w3];exact cD.nil_sub (cells:=cells) k2 _ u.size,eB.none,(aG w2).2.2.1⟩;simp only[aB,e1,hi];rw[if_pos hb];exact w1
     .exact(fail_out ho).elim
    .exact(fail_out ho).elim
   .rename_i t u' ht hu' hn;rw[hu]at hu';cases hu';rw[ht]at hta;split at ho
    .rename_i k hkk;split at ho
     .rename_i hcnt;split at ho
      .rename_i f a j hf ha hj;obtain⟨v,y,h1,rfl,hx⟩:=eL ho;obtain⟨i1,i2,i3⟩:=sC h1;obtain⟨k1,k2,_⟩:=h.opD hh ha hl;obtain⟨cells,e1,e2⟩:=nJ hta k1;rw[e1]at k2;have hi:=h.opI hh hj (by rw[hli];rfl);obtain⟨r1,r2⟩:=oO hf _ _ e2;obtain⟨m1,m2⟩:=pX (fun _ _=>aF) r1 i3;obtain⟨w,w1,w2,w3,w4⟩:=dI m2 m1 hk (cD.nil_sub (cells:=cells) k2 _ u.size) lD;refine⟨y,w,rfl,?_,hx w2,by rw[w3];exact cD.nil_sub (cells:=cells) k2 _ u.size,eB.none,(aG w2).2.2.1⟩;simp only[aB,e1,hi];rw[if_pos ⟨i1,by rw[r2,hcnt]at i2;exact i2⟩];exact w1
      .exact(fail_out ho).elim
     .exact(fail_out ho).elim
    .exact(fail_out ho).elim
   .exact(fail_out ho).elim
  .cases hc
 .cases hc
theorem aGQ(h:RS X D Λ C e β σ){cs:List (Nat×Bool)}(hh:holds e cs){d:Nat}{x i:Opd}:mF X D cf Λ C e β σ t0 cs d (.ixS x i):=by
 intro ls cp e' hc hv ho;simp only[lA]at hc;split at hc
 .rename_i hr;cases hc;obtain⟨hrx,hry⟩:=nK hr;simp only[dop]at ho;split at ho
  .rename_i k hk;split at ho
   .rename_i a j ha hj;obtain⟨v,z,h1,rfl,hx⟩:=eL ho;obtain⟨b,h2,rfl⟩:=Option.map_eq_some_iff.1 h1;obtain⟨i1,i2,i3⟩:=sC h2;refine⟨z,_,rfl,?_,VOk.lone (hx bN) trivial⟩;simp only[aB,h.opS hh ha hrx,h.opI hh hj hry];rw[if_pos i1,i3];rfl
   .exact(fail_out ho).elim
  .exact(fail_out ho).elim
 .cases hc
theorem fZ(h:RS X D Λ C e β σ){cs:List (Nat×Bool)}(hh:holds e cs){o:Option Opd}{f:Option (TE D->Int)}(ho:pJ D o=some f)(hr:rdO D Λ C cs o=true) :
  (o=none/\f=none)\/∃x g k,o=some x/\f=some g/\ev (get σ.env) x=.int k (g e):=by
 cases o with
 |none=>cases ho;exact .inl ⟨rfl,rfl⟩
 |some x=>
  simp only[pJ]at ho;split at ho
  .rename_i k hk;obtain⟨g,h1,rfl⟩:=Option.map_eq_some_iff.1 ho;exact .inr ⟨x,g,k,rfl,rfl,h.opI hh h1 hr⟩
  .cases ho
theorem aBQ{α:Type}{E:Nat->V}{l:TE D->List α}{lo hi:Option Opd}{a b:Option (TE D->Int)}{m:List α}
  (ha:(lo=none/\a=none)\/∃x g k,lo=some x/\a=some g/\ev E x=.int k (g e)) (hb:(hi=none/\b=none)\/∃x g k,hi=some x/\b=some g/\ev E x=.int k (g e)) (hm:aH4 l a b e=some m) :
  ∃p q,dV lo hi E (l e).length=some (p,q)/\m=((l e).take q).drop p/\p<=q/\q<=(l e).length/\(wN lo=true->p=0):=by
 have hz:∀(x:Opd) (g:TE D->Int) (k:IntKind) (n:Nat),lo=some x->ev E x=.int k (g e)->(g e).toNat=n->wN lo=true->n=0:=by
  intro x g k n h1 h2 h3 h4;subst h1;cases x with
  |tmp s=>cases h4
  |const v=>
   cases v with
   |int k' n'=>
    have h2:V.int k' n'=.int k (g e):=h2;cases h2;have h5:g e=0:=by
     unfold wN at h4;split at h4<;>simp_all
    omega
   |_=>cases h4
 rcases ha with⟨rfl,rfl⟩|⟨x,g,k,rfl,rfl,hx⟩<;>rcases hb with⟨rfl,rfl⟩|⟨x',g',k',rfl,rfl,hx'⟩
 .cases hm;exact⟨0,(l e).length,rfl,by simp,Nat.zero_le _,Nat.le_refl _,fun _=>rfl⟩
 .simp only[aH4,aEV]at hm;split at hm
  .rename_i hc;cases hm;refine⟨0,(g' e).toNat,?_,by simp,Nat.zero_le _,by omega,fun _=>rfl⟩;simp only[dV,mH,hx'];rw[if_pos hc]
  .cases hm
 .simp only[aH4,aEW]at hm;split at hm
  .rename_i hc;cases hm;refine⟨(g e).toNat,(l e).length,?_,by simp,by omega,Nat.le_refl _,hz x g k _ rfl hx rfl⟩;simp only[dV,mH,hx];rw[if_pos hc]
  .cases hm
 .simp only[aH4,aI9]at hm;split at hm
  .rename_i hc;cases hm;refine⟨(g e).toNat,(g' e).toNat,?_,rfl,by omega,by omega,hz x g k _ rfl hx rfl⟩;simp only[dV,mH,hx,hx'];rw[if_pos (by omega)];simp only;rw[if_pos (by omega)]
  .cases hm
theorem aEn(h:RS X D Λ C e β σ){cs:List (Nat×Bool)}(hh:holds e cs){d:Nat}{x:Opd}{lo hi:Option Opd}:mF X D cf Λ C e β σ t0 cs d (.cutS x lo hi):=by
 intro ls cp e' hc hv ho;simp only[lA]at hc;split at hc
 .rename_i hr;cases hc;simp only[Bool.and_eq_true]at hr;obtain⟨⟨hrx,hrl⟩,hrh⟩:=hr;simp only[dop]at ho;split at ho
  .rename_i a l b ha hl hb;obtain⟨v,z,h1,rfl,hx⟩:=eL ho;obtain⟨p,q,b1,b2,_⟩:=aBQ (fZ h hh hl hrl) (fZ h hh hb hrh) h1;refine⟨z,_,rfl,?_,VOk.lone (hx oQ) trivial⟩;simp only[aB,h.opS hh ha (kJ hrx),b1,b2]
  .exact(fail_out ho).elim
 .cases hc
theorem aDI{T:Nat->Nat}{lk:Nat->Bool}{gv:Nat->Prop}{E:Nat->V}{al:AL}{lb:Lab}{p:Nat}{z:Bool}(h:bR T lk gv E al lb)(hp:z=true->p=0) :
  bR T lk gv E {al with own:=false,pre:=al.pre&&z} (cC p lb):=by
 obtain⟨h1,h2,h3,h4,h5,h6⟩:=h;have hn:(cC p lb).names=lb.names:=by
  cases lb<;>simp only[cC]<;>first|rfl|(split<;>rfl)
 refine⟨by rw[hn];exact h1,fun ht nm k hl=>?_,fun hh=>(by cases hh),fun hq=>?_,fun i hi=>?_,fun s c v hi=>?_⟩
 .refine h2 ht nm k ?_;cases lb with
  |own a b=>
   simp only[cC]at hl;split at hl
   .rcases hl with hl|hl<;>cases hl;exact .inl rfl
   .rcases hl with hl|hl<;>cases hl
  |pre a b=>
   simp only[cC]at hl;split at hl
   .rcases hl with hl|hl<;>cases hl;exact .inr rfl
   .rcases hl with hl|hl<;>cases hl
  |_=>exact hl
 .simp only[Bool.and_eq_true]at hq;have hp0:=hp hq.2;subst hp0;obtain⟨nm,k,hl⟩:=h4 hq.1;rcases hl with rfl|rfl
  .exact⟨nm,k,.inr rfl⟩
  .exact⟨nm,k,.inr rfl⟩
 .cases lb with
  |own a b=>simp only[cC]at hi;split at hi<;>cases hi
  |pre a b=>simp only[cC]at hi;split at hi<;>cases hi
  |_=>exact h5 i hi
 .cases lb with
  |own a b=>simp only[cC]at hi;split at hi<;>cases hi
  |pre a b=>simp only[cC]at hi;split at hi<;>cases hi
  |_=>exact h6 s c v hi
theorem aGR(h:RS X D Λ C e β σ){cs:List (Nat×Bool)}(hh:holds e cs){d z:Nat}{x:Opd}{lo hi:Option Opd}:mF X D cf Λ C e β σ t0 cs d (.cut z x lo hi):=by
 intro ls cp e' hc hv ho;simp only[lA]at hc;split at hc
 .rename_i l t hl ht;split at hc
  .rename_i hr;cases hc;simp only[Bool.and_eq_true,decide_eq_true_eq]at hr;obtain⟨⟨hrl,hrh⟩,rfl⟩:=hr;simp only[dop]at ho;split at ho
   .rename_i t' ht';rw[ht]at ht';cases ht';split at ho
    .rename_i a flo fhi ha hflo hfhi;obtain⟨v,y,h1,rfl,hx⟩:=eL ho;obtain⟨p,q,b1,b2,b3,b4,b5⟩:=aBQ (fZ h hh hflo hrl) (fZ h hh hfhi hrh) h1;obtain⟨k1,k2,_⟩:=h.opD hh ha hl;rcases eX k1 with⟨e1,e2⟩|⟨lb,rs,e1,e2,e3⟩
     .have hv0:v=[]:=by rw[b2,e2];simp
      have b1':dV lo hi (get σ.env) 0=some (p,q):=by rw[e2]at b1;exact b1
      refine⟨y,.nils,rfl,?_,hx (by rw[hv0];exact⟨.inl ⟨rfl,rfl⟩,rfl⟩),sG,eB.none,rfl⟩;simp only[aB,e1,b1']
     .rw[e1]at k2;have r1:=rX (fun _ _=>aF) p (rW (fun _ _=>aF) q e2);have hlen:v.length=q-p:=by
       rw[b2,List.length_drop,List.length_take,Nat.min_eq_left b4]
      have hv:=eO (lb:=cC p lb) r1 (fun c hc=>e3 c (List.mem_of_mem_take (List.mem_of_mem_drop hc)));rw[<-b2,hlen]at hv;refine⟨y,_,rfl,?_,hx hv,iB ?_,eB.none,rfl⟩
      .simp only[aB,e1,b1,if_true]
      .rw[lC (by rfl)];exact aDI (k2 0 (.sl lb _ _ rs) rfl) b5
    .exact(fail_out ho).elim
   .exact(fail_out ho).elim
  .cases hc
 .cases hc
theorem lE:∀{t:Ty} {off sz:Nat} {w:Ty},Ty.subAt t off sz true=some w->w.size=sz
 |.st t,off,sz,w,h=>by
  simp only[Ty.subAt]at h;split at h
  .rename_i hc;cases h;exact hc.2.1
  .exact lE h
 |.pair a b,off,sz,w,h=>by
  simp only[Ty.subAt]at h;split at h
  .exact lE h
  .exact lE h
 |.unit,_,_,_,h=>by cases h
 |.bool,_,_,_,h=>by simp[Ty.subAt]at h
 |.int _,_,_,_,h=>by simp[Ty.subAt]at h
 |.str,_,_,_,h=>by simp[Ty.subAt]at h
 |.fn _,_,_,_,h=>by simp[Ty.subAt]at h
 |.err,_,_,_,h=>by simp[Ty.subAt]at h
 |.sl _,_,_,_,h=>by simp[Ty.subAt]at h
theorem kL{T:Nat->Nat}{lk:Nat->Bool}{gv:Nat->Prop}{E:Nat->V}{ls:Ls}{cells:List V}(hl:cD T lk gv E ls cells)(hc:∀c∈cells,c.cell):∀nm,nm∈aC cells->nm∈aR ls:=by
 intro nm hnm;have:∃c∈cells,nm∈c.names:=by
  clear hl hc
  induction cells with
  |nil=>cases hnm
  |cons c r ih=>
   simp only[aC,List.mem_append]at hnm;rcases hnm with h|h
   .exact⟨c,List.mem_cons_self,h⟩
   .obtain⟨c',h1,h2⟩:=ih h;exact⟨c',List.mem_cons_of_mem _ h1,h2⟩
 obtain⟨c,hm,hn⟩:=this;obtain⟨i,hi⟩:=List.getElem?_of_mem hm;have h1:=hl i c hi;cases c with
 |sl l z n cs=>exact jD (h1.1 nm hn).1
 |ep=>exact(hc _ hm:False).elim
 |agg=>exact(hc _ hm:False).elim
 |tup=>exact(hc _ hm:False).elim
 |reg=>exact(hc _ hm:False).elim
 |_=>simp[V.names]at hn
theorem zU{T:Nat->Nat}{lk:Nat->Bool}{gv:Nat->Prop}{E:Nat->V}{ls:Ls}{cells:List V}(hl:cD T lk gv E ls cells)(hc:∀c∈cells,c.cell)(hn:aR ls=[]):aC cells=[]:=by
 have:=kL hl hc;rw[hn]at this
 match h:aC cells with
 |[]=>rfl
 |x::r=>have:=this x (by rw[h];exact List.mem_cons_self);cases this
theorem aHe{T:Nat->Nat}{lk:Nat->Bool}{gv:Nat->Prop}{E:Nat->V}{ls:Ls}{cells:List V}(hl:cD T lk gv E ls cells)(_:∀c∈cells,c.cell)(hn:aR ls=[])(hr:jN ls=true):∀c∈cells,c.bare0:=by
 intro c hm;obtain⟨i,hi⟩:=List.getElem?_of_mem hm;have h1:=hl i c hi;cases c with
 |sl l z n cs=>
  have h1:bR T lk gv E (aV ls i) l:=h1;have hz:∀nm,nm∉l.names:=fun nm hnm=>by
   have:=jD (h1.1 nm hnm).1;rw[hn]at this;cases this
  cases l with
  |none=>rfl
  |own a b=>exact absurd (by simp[Lab.names]) (hz a)
  |pre a b=>exact absurd (by simp[Lab.names]) (hz a)
  |view a=>exact absurd (by simp[Lab.names]) (hz a)
  |rv s c v=>have:=(h1.2.2.2.2.2 s c v rfl).1;rw[noRv_at hr]at this;cases this
  |arg i=>exact absurd rfl (h1.2.2.2.2.1 i)
 |_=>trivial
theorem aEo(h:RS X D Λ C e β σ){cs:List (Nat×Bool)}(hh:holds e cs){d s len z:Nat}{x:Opd}{lo hi:Option Opd}:mF X D cf Λ C e β σ t0 cs d (.cutR s len z x lo hi):=by
 intro ls cp e' hc hv ho;simp only[lA]at hc;split at hc
 .rename_i l sv u t s' off hl hsv hu ht ha;split at hc
  .rename_i hr;cases hc;simp only[Bool.and_eq_true,decide_eq_true_eq]at hr;obtain⟨⟨hrl,hrh⟩,rfl,hnm,rfl,hz,hno,hcnt⟩:=hr;simp only[dop]at ho;rw[ha,ht,hu]at ho;simp only at ho;split at ho
   .rename_i w hw;rw[hw]at hcnt;split at ho
    .rename_i g f c hg hf hcc;split at ho
     .rename_i flo fhi hflo hfhi;obtain⟨v,y,h1,rfl,hx⟩:=eL ho;obtain⟨p,q,b1,b2,b3,b4,b5⟩:=aBQ (fZ h hh hflo hrl) (fZ h hh hfhi hrh) h1;obtain⟨yy,k1,k2,k3⟩:=h.ad hh ha rfl hl d;obtain⟨k,n,cells,q1,q2,q3⟩:=h.regc hh hsv hcc;obtain⟨k',n',cells',p1,p2⟩:=k1;rw[q1]at p1;cases p1;obtain⟨g1,g2⟩:=cK hg;have hws:=lE hw;obtain⟨r1,r2⟩:=oO hf _ _ (g2 _ _ q2);have hlen:(f (g (c (e s')))).length=len:=by rw[r2];exact hcnt
      simp only[hlen]at b1;have rr:=rX (fun _ _=>aF) p (rW (fun _ _=>aF) q r1);have hvl:v.length=q-p:=by
       rw[b2,List.length_drop,List.length_take,Nat.min_eq_left b4]
      have hbare:∀c∈cells,c.bare0:=aHe q3 (bJ q2) hnm hno;have hql:q<=len:=by rw[<-hlen];exact b4
      have hqs:q*u.size<=len*u.size:=Nat.mul_le_mul_right _ hql;have e1:((cells.drop off).take w.size).take (q*u.size)=(cells.drop off).take (q*u.size):=by
       rw[List.take_take,hws,Nat.min_eq_left hqs]
      rw[e1]at rr;have hv2:=eO (lb:=.rv s' k n) rr (fun c hc=>hbare c (List.mem_of_mem_drop (List.mem_of_mem_take (List.mem_of_mem_drop hc))));rw[<-b2,hvl]at hv2;refine⟨y,_,rfl,?_,hx hv2,iB ?_,eB.none,rfl⟩
      .simp only[aB,p2,q1,b1];rw[if_pos ⟨trivial,trivial,by rw[aF q2];omega,hz,zU q3 (bJ q2) hnm⟩]
      .exact⟨fun nm hnm=>(by simp[Lab.names]at hnm),fun hh=>(by cases hh),fun hh=>(by cases hh),fun hh=>(by cases hh),fun i hh=>(by cases hh),fun a b c hh=>by cases hh;exact⟨rfl,cells,q1⟩⟩
     .exact(fail_out ho).elim
    .exact(fail_out ho).elim
   .exact(fail_out ho).elim
  .cases hc
 .cases hc
theorem aEp{cs:List (Nat×Bool)}{d n:Nat}:mF X D cf Λ C e β σ t0 cs d (.lenC n):=by
 intro ls cp e' hc hv ho;simp only[lA]at hc;cases hc;simp only[dop]at ho;obtain⟨z,rfl,hx⟩:=bL ho;exact⟨z,_,rfl,rfl,VOk.lone (hx bN) trivial⟩
theorem aGS(h:RS X D Λ C e β σ){cs:List (Nat×Bool)}(hh:holds e cs){d:Nat}{st:Bool}{x:Opd}:mF X D cf Λ C e β σ t0 cs d (.len st x):=by
 intro ls cp e' hc hv ho;simp only[lA]at hc;split at hc
 .rename_i hr;cases hc;have hrx:=kJ hr;cases st with
  |true=>
   simp only[dop]at ho;split at ho
   .rename_i a ha;obtain⟨z,rfl,hx⟩:=bL ho;refine⟨z,_,rfl,?_,VOk.lone (hx bN) trivial⟩;simp only[aB,h.opS hh ha hrx];rfl
   .exact(fail_out ho).elim
  |false=>
   simp only[dop]at ho;split at ho
   .split at ho
    .rename_i t ht a ha;obtain⟨z,rfl,hx⟩:=bL ho;obtain⟨lx,hlx⟩:=Option.isSome_iff_exists.1 hrx;obtain⟨k1,_⟩:=h.opD hh ha hlx;refine⟨z,_,rfl,?_,VOk.lone (hx bN) trivial⟩;rcases eX k1 with⟨e1,e2⟩|⟨lb,rs,e1,e2,e3⟩
     .simp only[aB,e1,aJO,e2];rfl
     .simp only[aB,e1,aJO]
    .exact(fail_out ho).elim
   .exact(fail_out ho).elim
 .cases hc
end
end Go.VM
namespace Go.VM
section
variable{X:Cxt}{D:Nat->SY}{Λ:LS}{C:CC}{e:TE D}{β:Nat->Nat}{σ:St}{t0:Nat->Nat}{mk:List Nat}{sg:Nat->Sg}{cf:NF sg}
theorem aBw:∀{ts:List Ty} {i:Nat} {u:Ty} {f:(Ty.row ts).den->u.den} {x:(Ty.row ts).den} {vs:List V},aEX ts i u=some f->iQ ts x vs->
  ∃v,vs[i]?=some v/\gP u (f x) v/\v.cells=((vs.flatMap V.cells).drop (aGz ts i)).take u.size
 |[],_,_,_,_,_,h,_=>by cases h
 |t::r,0,u,f,x,vs,h,hr=>by
  obtain⟨g,h1,rfl⟩:=Option.map_eq_some_iff.1 h;obtain⟨e1,h2⟩:=cU h1;subst e1;obtain⟨v,vs',rfl,k1,k2⟩:=hr;refine⟨v,rfl,⟨h2 _ _ k1.1,k1.2⟩,?_⟩;have hl:=aF k1.1;simp only[aGz,List.flatMap_cons,List.drop_zero];rw[<-hl,List.take_left]
 |t::r,i+1,u,f,x,vs,h,hr=>by
  obtain⟨g,h1,rfl⟩:=Option.map_eq_some_iff.1 h;obtain⟨v,vs',rfl,k1,k2⟩:=hr;obtain⟨w,q1,q2,q3⟩:=aBw h1 k2;refine⟨w,q1,q2,?_⟩;have hl:=aF k1.1;simp only[aGz,List.flatMap_cons];have e1:(v.cells++vs'.flatMap V.cells).drop (t.size+aGz r i)=(vs'.flatMap V.cells).drop (aGz r i):=by
   rw[List.drop_append,List.drop_of_length_le (by omega),List.nil_append];congr 1;omega
  rw[q3,e1]
theorem zV(h:RS X D Λ C e β σ){cs:List (Nat×Bool)}(hh:holds e cs){d i:Nat}{x:Opd}:mF X D cf Λ C e β σ t0 cs d (.extract i x):=by
 intro ls cp e' hc hv ho;simp only[lA]at hc;split at hc
 .rename_i l ts u hl ha hu;split at hc
  .rename_i hno;cases hc;simp only[dop]at ho;rw[ha,hu]at ho;simp only at ho;split at ho
   .rename_i f a hf hfa;obtain⟨z,rfl,hx⟩:=bL ho;obtain⟨k1,k2,_⟩:=h.opd hh hfa hl d;obtain⟨vs,p1,p2⟩:=k1;rw[p1]at k2;obtain⟨v,q1,q2,q3⟩:=aBw hf p2;have hlab:cD σ.tips σ.lk X.gv (get σ.env) (aCt (aGz ts i) u.size l) v.cells:=by
     rw[q3];exact cD.sub (cells:=vs.flatMap V.cells) k2 _ _
    obtain⟨w1,w2,w3,w4,w5⟩:=aG q2;refine⟨z,v,rfl,?_,hx q2,by rw[w1];exact hlab,eB.none,w3⟩;simp only[aB,p1,q1];rw[if_pos (eZ q2 (by rw[w1];exact hlab) (wX hno _ _))]
   .exact(fail_out ho).elim
  .cases hc
 .cases hc
theorem aBS(h:RS X D Λ C e β σ){cs:List (Nat×Bool)}(hh:holds e cs){d n z:Nat}{x:Opd}:mF X D cf Λ C e β σ t0 cs d (.arrptr n z x):=by
 intro ls cp e' hc hv ho;simp only[lA]at hc;split at hc
 .rename_i l w off hl hD;split at hc
  .rename_i u ht;split at hc
   .rename_i hcond;cases hc;simp only[dop]at ho;rw[ht]at ho;simp only at ho;split at ho
    .rename_i a f c ha hf hcc;split at ho
     .rename_i hz;obtain⟨v,h1,rfl⟩:=Option.map_eq_some_iff.1 ho;have h1:(if n<=(List.length (a e))then some (f (List.take n (a e)))else none)=some v:=h1;split at h1
      .rename_i hn;cases h1;obtain⟨k1,k2,k3⟩:=h.opD hh ha hl;rcases eX k1 with⟨e1,e2⟩|⟨lb,rs,e1,e2,e3⟩
       .rw[e2]at hn;simp at hn;omega
       .rw[e1]at k2;have hr:=rW (fun _ _=>aF) n e2;have hcr:=nF hf _ _ (by rw[List.length_take,hcond.1];omega) hr;have hsz:=aF hcr;have hlen:=eI e2;have hle:n*u.size<=(List.length (a e))*u.size:=Nat.mul_le_mul_right _ hn;rw[List.length_take,Nat.min_eq_left (by omega)]at hsz;refine⟨_,.ep lb rs 0,rfl,?_,bS hcc (y:=.vp (.arr n u) 0) (x:=f ((a e).take n)) ⟨lb,rs,rfl,by omega,by rw[<-hsz];exact hcr,e3⟩,oU (k2 0 (.sl lb _ _ rs) rfl),eB.none,rfl⟩;simp only[aB,e1];rw[if_pos ⟨hz.symm,hn⟩]
      .cases h1
     .exact(fail_out ho).elim
    .exact(fail_out ho).elim
   .cases hc
  .cases hc
 .cases hc
theorem aEq(h:RS X D Λ C e β σ){cs:List (Nat×Bool)}(hh:holds e cs){mx:Bool}{k:IntKind}:∀{xs:List Opd} {f g:TE D->Int},mmL D mx k f xs=some g->(xs.all fun x=>(rd D Λ C cs x).isSome)=true->
  dP mx (.int k (f e)) (xs.map (ev (get σ.env)))=some (.int k (g e))
 |[],f,g,hm,_=>by cases hm;rfl
 |x::xs,f,g,hm,hr=>by
  simp only[mmL]at hm;simp only[List.all_cons,Bool.and_eq_true]at hr;split at hm
  .rename_i q hq;have hx:=h.opI hh (f:=q) hq hr.1;have:=aEq h hh hm hr.2;simp only[List.map_cons,hx,dP,if_true];exact this
  .cases hm
theorem aBT(h:RS X D Λ C e β σ){cs:List (Nat×Bool)}(hh:holds e cs){d:Nat}{mx:Bool}{x:Opd}{xs:List Opd}:mF X D cf Λ C e β σ t0 cs d (.minmax mx x xs):=by
 intro ls cp e' hc hv ho;simp only[lA]at hc;split at hc
 .rename_i hr;cases hc;simp only[tQ,List.all_cons,Bool.and_eq_true]at hr;simp only[dop]at ho;split at ho
  .rename_i k hk;split at ho
   .rename_i f hf;split at ho
    .rename_i g hg;obtain⟨z,rfl,hx⟩:=bL ho;refine⟨z,_,rfl,?_,VOk.lone (hx bN) trivial⟩;simp only[aB,h.opI hh hf hr.1,aEq h hh hg hr.2]
    .exact(fail_out ho).elim
   .exact(fail_out ho).elim
  .exact(fail_out ho).elim
 .cases hc
theorem aDJ{v:V}{t:Ty}{x:t.den}(h:gP t x v)(hn:aC v.cells=[]):v.names=[]:=by
 obtain⟨_,h2,h3,h4,h5⟩:=aG h;cases v with
 |agg cs=>simpa[V.cells,aC,V.names]using hn
 |reg=>cases h3
 |tup vs=>exact absurd rfl (h4 vs)
 |sl=>simpa[V.cells,aC,V.names]using hn
 |ep l cs o=>exact(h2 (.ep l cs o) (by simp[V.cells]):False).elim
 |_=>rfl
theorem aHB{v:V}{t:Ty}{x:t.den}(h:gP t x v):v.noBox=true:=by
 obtain⟨_,h2,h3,h4,h5⟩:=aG h;have:=dF h.1;cases v with
 |agg cs=>exact this
 |reg=>cases h3
 |tup vs=>exact absurd rfl (h4 vs)
 |_=>simpa[V.cells,bO]using this
theorem tans_mkiface(h:RS X D Λ C e β σ){cs:List (Nat×Bool)}(hh:holds e cs){d:Nat}{t:TypeId}{x:Opd}:mF X D cf Λ C e β σ t0 cs d (.mkiface t x):=by
 intro ls cp e' hc hv ho;simp only[lA]at hc;split at hc
 .rename_i l u hl hu;split at hc
  .rename_i hcond;cases hc;simp only[dop]at ho;obtain⟨z,rfl,hx⟩:=bL ho;obtain⟨f,hf⟩:=Option.isSome_iff_exists.1 hcond.2.2;obtain⟨k1,k2,_⟩:=h.opD hh hf hl;obtain⟨w1,w2,w3,w4,w5⟩:=aG k1;have hn:aC (ev (get σ.env) x).cells=[]:=by
    rw[w1]at k2;exact zU k2 w2 hcond.1
   refine⟨z,.iface t (ev (get σ.env) x),rfl,?_,VOk.lone (hx ⟨.inr ⟨t,ev (get σ.env) x,rfl,aHB k1,rfl⟩,rfl⟩) trivial⟩;simp only[aB];rw[if_pos ⟨eZ k1 k2 hcond.2.1,aDJ k1 hn⟩]
  .cases hc
 .cases hc
theorem caps_sound(h:RS X D Λ C e β σ){cs:List (Nat×Bool)}(hh:holds e cs):∀{cap:List Opd} {bs:List Nat},capsOk D cap bs=true->tQ D Λ C cs cap=true->cap.map (ev (get σ.env))=bs.map fun b=>V.bp (β b) 0
 |[],[],_,_=>rfl
 |[],_::_,hk,_=>by cases hk
 |_::_,[],hk,_=>by cases hk
 |x::xs,b::bs,hk,hr=>by
  simp only[capsOk,Bool.and_eq_true,decide_eq_true_eq]at hk;simp only[tQ,List.all_cons,Bool.and_eq_true]at hr;obtain⟨l,hl⟩:=Option.isSome_iff_exists.1 hr.1;obtain⟨y,k1,_⟩:=h.ad hh hk.1 rfl hl 0;have k1:ev (get σ.env) x=.bp (β b) 0:=k1;rw[List.map_cons,List.map_cons,k1,caps_sound h hh hk.2 hr.2]
theorem bps_fine(f:Nat->Nat)(bs:List Nat):(bs.map fun b=>V.bp (f b) 0).all V.ok1=true/\aC (bs.map fun b=>V.bp (f b) 0)=[]:=by
 induction bs with
 |nil=>exact⟨rfl,rfl⟩
 |cons b bs ih=>exact⟨by simp only[List.map_cons,List.all_cons,ih.1];rfl,by simp only[List.map_cons,aC,ih.2];rfl⟩
theorem srel_clo{E:Nat->V}{bx:BX}{s0 f:Nat}{bs:List Nat}{y:SY}(hy:y=.clo f bs)(x:y.den):cN E β bx s0 y x (.fn (.func f) [] (bs.map fun b=>.bp (β b) 0)):=by subst hy;rfl
theorem tans_mkfn(h:RS X D Λ C e β σ){cs:List (Nat×Bool)}(hh:holds e cs){d:Nat}{f0:Fn}{a0 cap:List Opd}:mF X D cf Λ C e β σ t0 cs d (.mkfn f0 a0 cap):=by
 intro ls cp e' hc hv ho;simp only[lA]at hc;split at hc
 .rename_i hr;cases hc;unfold dop at ho;split at ho
  all_goals try (exact(fail_out ho).elim)
  all_goals try (rename_i hq;cases hq;done)
  rename_i dd g cap' e1 e2;cases e1;cases e2;split at ho
  .rename_i g' bs hD;split at ho
   .rename_i hk;simp only[OD.out]at ho;cases ho;obtain⟨rfl,hk⟩:=hk;have hm:=caps_sound h hh hk hr;obtain⟨q1,q2⟩:=bps_fine β bs;refine⟨e d,_,TE.set_self.symm,?_,srel_clo hD _,dY fun c hc=>?_,eB.none,rfl⟩
    .simp only[aB,List.map_nil,List.nil_append,hm];rw[if_pos ⟨q1,rfl,q2⟩]
    .simp only[V.kids,List.mem_singleton]at hc;subst hc;exact trivial
   .exact(fail_out ho).elim
  .exact(fail_out ho).elim
 .cases hc
theorem uS(h:RS X D Λ C e β σ){cs:List (Nat×Bool)}(hh:holds e cs){t:Ty}:∀{parts:List (Nat×Nat×Opd)} {g:TE D->t.den->t.den} {ls ls':Ls} {v:t.den} {c0:List V},aGF D t parts=some g->aGI D Λ C cs parts ls=some ls'->bP t v c0->
  cD σ.tips σ.lk X.gv (get σ.env) ls c0->∃c1,fill (get σ.env) c0 parts=some c1/\bP t (g e v) c1/\cD σ.tips σ.lk X.gv (get σ.env) ls' c1
 |[],g,ls,ls',v,c0,h1,h2,h3,h4=>by
  cases h1;cases h2;exact⟨c0,rfl,h3,h4⟩
 |(off,sz,x)::r,g,ls,ls',v,c0,h1,h2,h3,h4=>by
  simp only[aGF]at h1;simp only[aGI]at h2;split at h1
  .rename_i u hu;split at h1
   .rename_i hsz;split at h1
    .rename_i p f g' hp hf hg;cases h1;split at h2
     .rename_i l hl;split at h2
      .rename_i hno;obtain⟨k1,k2,_⟩:=h.opD hh hf hl;obtain⟨w1,w2,w3,w4,w5⟩:=aG k1;rw[w1]at k2;have hlen:=aF k1.1;have hl0:=aF h3;obtain⟨p1,p2⟩:=dL hp;obtain⟨c1,q1,q2,q3⟩:=uS h hh hg h2 (p2 _ _ _ _ h3 k1.1) (h4.put k2 (by rw[hlen,hsz]) (by omega));refine⟨c1,?_,q2,q3⟩;simp only[fill];have hfit:fits (ev (get σ.env) x) sz off c0.length=true:=by
        unfold fits;rw[eZ k1 (by rw[w1];exact k2) hno];simp only[Bool.true_and,Bool.and_eq_true,beq_iff_eq,decide_eq_true_eq];omega
       rw[if_pos hfit];exact q1
      .cases h2
     .cases h2
    .cases h1
   .cases h1
  .cases h1
theorem aDK(h:RS X D Λ C e β σ){cs:List (Nat×Bool)}(hh:holds e cs){d:Nat}{zs:List V}{parts:List (Nat×Nat×Opd)}:mF X D cf Λ C e β σ t0 cs d (.build zs parts):=by
 intro ls cp e' hc hv ho;simp only[lA]at hc;obtain⟨l,hl,he⟩:=Option.map_eq_some_iff.1 hc;cases he;simp only[dop]at ho;split at ho
 .rename_i t ht;split at ho
  .rename_i x f hx hf;obtain⟨z,rfl,hz⟩:=bL ho;obtain⟨q1,q2⟩:=aE8 hx;have hz0:cD σ.tips σ.lk X.gv (get σ.env) (aF6 zs 0) zs:=sE (bJ q1.1) q2;obtain⟨c1,k1,k2,k3⟩:=uS h hh hf hl q1.1 hz0;refine⟨z,.agg c1,rfl,?_,hz ⟨k2,q1.2⟩,k3,eB.none,rfl⟩;simp only[aB];have k1:fill (get σ.env) zs parts=some c1:=k1;rw[k1];rfl
  .exact(fail_out ho).elim
 .exact(fail_out ho).elim
def aEr(ns:List Nat)(c:V):Prop:=c.cell/\c.ok1=true/\∀nm∈c.names,nm∈ns
theorem aEs{c:V}(h:aEr [] c):c.bare0:=by
 obtain⟨h1,h2,h3⟩:=h;cases c with
 |sl l z n cs=>
  cases l with
  |none=>rfl
  |rv=>cases h2
  |arg=>cases h2
  |own a b=>exact absurd (h3 a (by simp[V.names,Lab.names])) (by simp)
  |pre a b=>exact absurd (h3 a (by simp[V.names,Lab.names])) (by simp)
  |view a=>exact absurd (h3 a (by simp[V.names,Lab.names])) (by simp)
 |_=>trivial
theorem sI{c:V}(h:c.cell)(hb:c.bare0)(ns:List Nat):aEr ns c:=by
 cases c with
 |sl l z n cs=>cases hb;exact⟨trivial,rfl,fun nm hn=>by simp[V.names,Lab.names]at hn⟩
 |bool|int|str|nils|nili|iface|fn=>exact⟨trivial,rfl,fun nm hn=>by simp[V.names]at hn⟩
 |_=>exact h.elim
theorem aHf{T:Nat->Nat}{lk:Nat->Bool}{gv:Nat->Prop}{E:Nat->V}{ls:Ls}{cells:List V}(hl:cD T lk gv E ls cells)(hc:∀c∈cells,c.cell)(hr:jN ls=true):∀c∈cells,aEr (aR ls) c:=by
 intro c hm;obtain⟨i,hi⟩:=List.getElem?_of_mem hm;refine⟨hc c hm,aBt (hc c hm) (hl i c hi) (noRv_at hr i),fun nm hnm=>?_⟩;have h1:=hl i c hi;cases c with
 |sl l z n cs=>exact jD (h1.1 nm hnm).1
 |ep=>exact(hc _ hm:False).elim
 |agg=>exact(hc _ hm:False).elim
 |tup=>exact(hc _ hm:False).elim
 |reg=>exact(hc _ hm:False).elim
 |_=>simp[V.names]at hnm
theorem nQ{ns ns':List Nat}{c:V}(h:aEr ns c)(hs:∀x∈ns,x∈ns'):aEr ns' c:=⟨h.1,h.2.1,fun nm hn=>hs nm (h.2.2 nm hn)⟩
theorem oV:∀{cs:List V} {ns:List Nat},(∀c∈cs,aEr ns c)->∀nm∈aC cs,nm∈ns
 |[],_,_,nm,h=>by cases h
 |c::r,ns,h,nm,hm=>by
  simp only[aC,List.mem_append]at hm;rcases hm with hm|hm
  .exact(h c List.mem_cons_self).2.2 nm hm
  .exact oV (fun c hc=>h c (List.mem_cons_of_mem _ hc)) nm hm
theorem sJ(h:RS X D Λ C e β σ){cs:List (Nat×Bool)}(hh:holds e cs){t:Ty}:∀{parts:List (Nat×Nat×Opd)} {g:TE D->List t.den->List t.den} {ns n0:List Nat} {l:List t.den} {c0:List V},aJQ D t t.size parts=some g->zM D Λ C cs parts=some ns->
  aL (bP t) l c0->(∀c∈c0,aEr n0 c)->(parts.all fun p=>decide (p.1<l.length*t.size)&&p.1%t.size==0)=true->0<t.size->
  ∃c1,fill (get σ.env) c0 parts=some c1/\aL (bP t) (g e l) c1/\(g e l).length=l.length/\∀c∈c1,aEr (ns++n0) c
 |[],g,ns,n0,l,c0,h1,h2,h3,h4,h5,h6=>by
  cases h1;cases h2;exact⟨c0,rfl,h3,rfl,h4⟩
 |(off,sz,x)::r,g,ns,n0,l,c0,h1,h2,h3,h4,h5,h6=>by
  simp only[aJQ]at h1;simp only[zM]at h2;simp only[List.all_cons,Bool.and_eq_true,decide_eq_true_eq,beq_iff_eq]at h5;split at h1
  .rename_i hsz;subst hsz;split at h1
   .rename_i f g' hf hg;cases h1;split at h2
    .rename_i lx ns' hl hns;split at h2
     .rename_i hno;cases h2;obtain⟨k1,k2,_⟩:=h.opD hh hf hl;obtain⟨w1,w2,w3,w4,w5⟩:=aG k1;rw[w1]at k2;have hlen:=aF k1.1;have hl0:=eI h3;obtain⟨⟨hlt,hmod⟩,hrest⟩:=h5;have hdiv:off / t.size*t.size=off:=Nat.div_mul_cancel (Nat.dvd_of_mod_eq_zero hmod);have hi:off / t.size<l.length:=Nat.div_lt_of_lt_mul (by rw[Nat.mul_comm];exact hlt);have hrow:=wR (off / t.size) h3 hi k1.1;rw[hdiv]at hrow;have hle:off+t.size<=c0.length:=by
       have:(off / t.size+1)*t.size<=l.length*t.size:=Nat.mul_le_mul_right _ hi;rw[Nat.add_mul,hdiv]at this;omega
      have hlone:∀c∈splice c0 off (ev (get σ.env) x).cells,aEr (aR lx++n0) c:=by
       intro c hc;unfold splice at hc;rcases List.mem_append.1 hc with hc|hc
       .rcases List.mem_append.1 hc with hc|hc
        .exact nQ (h4 c (List.mem_of_mem_take hc)) fun x hx=>List.mem_append_right _ hx
        .exact nQ (aHf k2 w2 hno c hc) fun x hx=>List.mem_append_left _ hx
       .exact nQ (h4 c (List.mem_of_mem_drop hc)) fun x hx=>List.mem_append_right _ hx
      obtain⟨c1,q1,q2,q3,q4⟩:=sJ h hh hg hns hrow hlone (by rw[List.length_set];exact hrest) h6;rw[List.length_set]at q3;refine⟨c1,?_,q2,q3,fun c hc=>nQ (q4 c hc) fun y hy=>?_⟩
      .simp only[fill];have hfit:fits (ev (get σ.env) x) t.size off c0.length=true:=by
        unfold fits;rw[eZ k1 (by rw[w1];exact k2) hno];simp only[Bool.true_and,Bool.and_eq_true,beq_iff_eq,decide_eq_true_eq];omega
       rw[if_pos hfit];exact q1
      .simp only[List.mem_append]at hy ⊢;rcases hy with hy|hy|hy
       .exact .inl (.inr hy)
       .exact .inl (.inl hy)
       .exact .inr hy
     .cases h2
    .cases h2
   .cases h1
  .cases h1
theorem aBU{T:Nat->Nat}{lk:Nat->Bool}{gv:Nat->Prop}{E:Nat->V}{d:Nat}{dt ld:List Nat}(h1:aQ d 0∉dt->t0 (aQ d 0)=T (aQ d 0))(h2:aQ d 0∉ld->lk (aQ d 0)=false) :
  bR T lk gv E ⟨[aQ d 0],!dt.contains (aQ d 0),true,true,!ld.contains (aQ d 0),none⟩ (.own (aQ d 0) (t0 (aQ d 0))):=by
 refine⟨fun nm hnm=>?_,fun ht nm k hl=>?_,fun _=>⟨_,_,rfl⟩,fun _=>⟨_,_,.inl rfl⟩,fun i hi=>(by cases hi),fun s c v hi=>(by cases hi)⟩
 .have:nm=aQ d 0:=by simpa[Lab.names]using hnm
  subst this;refine⟨by simp,fun hu=>h2 ?_,fun hlt=>?_⟩
  .simp only[Bool.not_eq_true',List.contains_eq_mem,decide_eq_false_iff_not]at hu;exact hu
  .unfold aQ at hlt;omega
 .rcases hl with hl|hl<;>cases hl;simp only[Bool.not_eq_true',List.contains_eq_mem,decide_eq_false_iff_not]at ht;exact h1 ht
theorem aBV(h:RS X D Λ C e β σ)(hG:RG Λ t0 mk σ){cs:List (Nat×Bool)}(hh:holds e cs){d z n:Nat}(hm:aQ d 0∈mk){zs:List V}{parts:List (Nat×Nat×Opd)}:mF X D cf Λ C e β σ t0 cs d (.bslice false z n zs parts):=by
 intro ls cp e' hc hv ho;simp only[lA]at hc;split at hc
 .rename_i t ns ht hns;split at hc
  .rename_i hcond;obtain⟨rfl,rfl,hz,hzs,hall⟩:=hcond;cases hc;simp only[dop]at ho;rw[ht]at ho;simp only at ho;split at ho
   .rename_i x0 hx0;split at ho
    .rename_i f hf;obtain⟨y,rfl,hy⟩:=bL ho;obtain⟨q1,q2⟩:=gL hx0;have hb:∀c∈(List.replicate n zs).flatten,aEr [] c:=by
      intro c hc;obtain⟨r,hr,hcr⟩:=List.mem_flatten.1 hc;have:=(List.mem_replicate.1 hr).2;subst this;exact sI (bJ q1 c hcr) (q2 c hcr) _
     obtain⟨c1,k1,k2,k3,k4⟩:=sJ h hh hf hns (dM q1 n) hb (by rw[List.length_replicate];exact hall) hz;rw[List.length_replicate]at k3;have hv2:=eO (lb:=.own (aQ d 0) (t0 (aQ d 0))) k2 (fun c hc=>aEs (k4 c hc));rw[k3]at hv2;refine⟨y,_,rfl,?_,hy hv2,iB ?_,eB.none,rfl⟩
     .simp only[aB,k1];have hnn:aC c1=[]:=by
       have:=oV k4
       match hq:aC c1 with
       |[]=>rfl
       |a::r=>have:=this a (by rw[hq];exact List.mem_cons_self);cases this
      rw[if_pos ⟨hz,by rw[eI k2,k3],hnn⟩]
     .exact aBU (fun hq=>(hG.dt _ hq).symm) (fun hq=>hG.ld _ hm hq)
    .exact(fail_out ho).elim
   .exact(fail_out ho).elim
  .cases hc
 .cases hc
theorem zT(h:RS X D Λ C e β σ)(hG:RG Λ t0 mk σ){cs:List (Nat×Bool)}(hh:holds e cs){d:Nat}(hm:aQ d 0∈mk){x:Opd}:mF X D cf Λ C e β σ t0 cs d (.toBytes x):=by
 intro ls cp e' hc hv ho;simp only[lA]at hc;split at hc
 .rename_i hr;cases hc;have hrx:=kJ hr;simp only[dop]at ho;split at ho
  .rename_i a ha;obtain⟨v,z,h1,rfl,hx⟩:=eL ho;unfold aBq at h1;split at h1
   .rename_i hlen;cases h1;have hv:=eO (t:=.int .u8) (lb:=.own (aQ d 0) (t0 (aQ d 0))) (oT (a e)) sF;refine⟨z,_,rfl,?_,hx hv,iB ?_,eB.none,rfl⟩
    .simp only[aB,h.opS hh ha hrx,if_pos hlen,Ty.size,iJ,List.length_map]
    .exact aBU (fun hq=>(hG.dt _ hq).symm) (fun hq=>hG.ld _ hm hq)
   .cases h1
  .exact(fail_out ho).elim
 .cases hc
theorem zX(h:RS X D Λ C e β σ)(hG:RG Λ t0 mk σ){cs:List (Nat×Bool)}(hh:holds e cs){d z bytes:Nat}(hm:aQ d 0∈mk){zs:List V}{l c:Opd}:mF X D cf Λ C e β σ t0 cs d (.mkslice z bytes zs l c):=by
 intro ls cp e' hc hv ho;simp only[lA]at hc;split at hc
 .rename_i t ht;split at hc
  .rename_i hcond;simp only[Bool.and_eq_true,decide_eq_true_eq]at hcond;obtain⟨hr,rfl,hz,hzs⟩:=hcond;cases hc;obtain⟨hrl,hrc⟩:=nK hr;simp only[dop]at ho;rw[ht]at ho;simp only at ho;split at ho
   .rename_i x fl fc hx hfl hfc;obtain⟨v,y,h1,rfl,hy⟩:=eL ho;unfold aIb at h1;split at h1
    .rename_i hb;cases h1;obtain⟨q1,q2⟩:=gL hx;have hv2:=eO (lb:=.own (aQ d 0) (t0 (aQ d 0))) (dM q1 (fl e).toNat) (fun c hc=>by
      obtain⟨r,hr,hcr⟩:=List.mem_flatten.1 hc;have:=(List.mem_replicate.1 hr).2;subst this;exact q2 c hcr)
     rw[List.length_replicate]at hv2;refine⟨y,_,rfl,?_,hy hv2,iB ?_,eB.none,rfl⟩
     .simp only[aB,h.opI hh hfl hrl,h.opI hh hfc hrc];rw[if_pos ⟨hz,hzs,hb.1,hb.2.1,hb.2.2.1,hb.2.2.2⟩]
     .exact aBU (fun hq=>(hG.dt _ hq).symm) (fun hq=>hG.ld _ hm hq)
    .cases h1
   .exact(fail_out ho).elim
  .cases hc
 .cases hc
theorem aDL(h:RS X D Λ C e β σ)(hG:RG Λ t0 mk σ){cs:List (Nat×Bool)}(hh:holds e cs){d:Nat}{op:VOp}(hm:∀nm∈cB [⟨some d,op,none⟩],nm∈mk):mF X D cf Λ C e β σ t0 cs d op:=by
 cases op with
 |mv x=>exact aHa h hh
 |pick c a b=>exact aEg h hh
 |build zs ps=>exact aDK h hh
 |bslice lky z n zs ps=>cases lky with
  |false=>exact aBV h hG hh (hm _ (by simp[cB]))
  |true=>intro ls cp e' hc;simp[lA]at hc
 |load rt agg sz a=>exact aEh h hh
 |nilck x=>exact aDA h hh
 |bin op x y=>exact aGO h hh
 |eq neq k x y=>exact aHd h hh
 |unop op x=>exact aEj h hh
 |convI k x=>exact aDF h hh
 |convS x=>exact aDB h hh
 |toStr x av=>exact aDG h hh
 |toBytes x=>exact zT h hG hh (hm _ (by simp[cB]))
 |fieldA off x=>exact aBP h hh
 |field agg off sz x=>exact aDH h hh
 |idxS z x i=>exact aEl h hh
 |idxA len z x i=>exact aEm h hh
 |ixA agg len z x i=>exact aGP h hh
 |ixS x i=>exact aGQ h hh
 |cutS x lo hi=>exact aEn h hh
 |cut z x lo hi=>exact aGR h hh
 |cutR s len z x lo hi=>exact aEo h hh
 |mkslice z bytes zs l c=>exact zX h hG hh (hm _ (by simp[cB]))
 |len st x=>exact aGS h hh
 |lenC n=>exact aEp
 |extract i x=>exact zV h hh
 |arrptr n z x=>exact aBS h hh
 |mkiface t x=>exact tans_mkiface h hh
 |minmax mx x xs=>exact aBT h hh
 |mkfn f0 a0 cap=>exact tans_mkfn h hh
 |_=>intro ls cp e' hc;simp[lA]at hc
end
end Go.VM
namespace Go.VM
section
variable{X:Cxt}{D:Nat->SY}{Λ:LS}{C:CC}{e:TE D}{β:Nat->Nat}{σ:St}
theorem RS.bump(h:RS X D Λ C e β σ){N:List Nat}{T':Nat->Nat}(hT:∀nm,nm∉N->T' nm=σ.tips nm):RS X D (Λ.bump N) C e β {σ with tips:=T'}:=by
 refine⟨fun s sv hs hh=>?_,fun s sv hs hh=>?_,h.rg,h.hi,h.nb,fun b sv hb hs=>?_,fun b sv b' sv' hb hs hb' hs'=>?_,h.cc,h.b3⟩
 .obtain⟨u,h1,rfl⟩:=cI hs;obtain⟨k1,k2,k3⟩:=h.yes s u h1 hh;exact⟨k1,k2.bump hT,k3⟩
 .obtain⟨u,h1,rfl⟩:=cI hs;exact h.no s u h1 hh
 .obtain⟨u,h1,_⟩:=cI hs;exact h.b1 b u hb h1
 .obtain⟨u,h1,_⟩:=cI hs;obtain⟨u',h1',_⟩:=cI hs';exact h.b2 b u b' u' hb h1 hb' h1'
theorem RS.lock(h:RS X D Λ C e β σ){N:List Nat}{lk':Nat->Bool}(hT:∀nm,nm∉N->σ.lk nm=false->lk' nm=false):RS X D (Λ.lock N) C e β {σ with lk:=lk'}:=by
 refine⟨fun s sv hs hh=>?_,fun s sv hs hh=>?_,h.rg,h.hi,h.nb,fun b sv hb hs=>?_,fun b sv b' sv' hb hs hb' hs'=>?_,h.cc,h.b3⟩
 .obtain⟨u,h1,rfl⟩:=cI hs;obtain⟨k1,k2,k3⟩:=h.yes s u h1 hh;exact⟨k1,k2.lock hT,k3⟩
 .obtain⟨u,h1,rfl⟩:=cI hs;exact h.no s u h1 hh
 .obtain⟨u,h1,_⟩:=cI hs;exact h.b1 b u hb h1
 .obtain⟨u,h1,_⟩:=cI hs;obtain⟨u',h1',_⟩:=cI hs';exact h.b2 b u b' u' hb h1 hb' h1'
theorem bR.unlock{T:Nat->Nat}{lk lk':Nat->Bool}{gv:Nat->Prop}{E:Nat->V}{al:AL}{l:Lab}(h:bR T lk gv E al l)(hT:∀nm,lk nm=false->lk' nm=false):bR T lk' gv E al l:=
 ⟨fun nm hnm=>⟨(h.1 nm hnm).1,fun hu=>hT nm ((h.1 nm hnm).2.1 hu),(h.1 nm hnm).2.2⟩,h.2⟩
theorem cD.unlock{T:Nat->Nat}{lk lk':Nat->Bool}{gv:Nat->Prop}{E:Nat->V}{ls:Ls}{cells:List V}(h:cD T lk gv E ls cells)(hT:∀nm,lk nm=false->lk' nm=false):cD T lk' gv E ls cells:=by
 intro i c hc;have:=h i c hc;cases c with
 |sl l=>exact bR.unlock this hT
 |ep l=>exact bR.unlock this hT
 |_=>trivial
theorem RS.unlock(h:RS X D Λ C e β σ){lk':Nat->Bool}(hT:∀nm,σ.lk nm=false->lk' nm=false):RS X D Λ C e β {σ with lk:=lk'}:=
 ⟨fun s sv hs hh=>⟨(h.yes s sv hs hh).1,(h.yes s sv hs hh).2.1.unlock hT,(h.yes s sv hs hh).2.2⟩,h.no,h.rg,h.hi,h.nb,h.b1,h.b2,h.cc,h.b3⟩
theorem RS.sub(h:RS X D Λ C e β σ){Λ':LS}(hs:∀p∈Λ'.vs,p∈Λ.vs):RS X D Λ' C e β σ:=
 ⟨fun s sv hm=>h.yes s sv (hs _ hm),fun s sv hm=>h.no s sv (hs _ hm),h.rg,h.hi,h.nb,fun b sv hb hm=>h.b1 b sv hb (hs _ hm),fun b sv b' sv' hb hm hb' hm'=>h.b2 b sv b' sv' hb (hs _ hm) hb' (hs _ hm'),h.cc,h.b3⟩
theorem RS.keep(h:RS X D Λ C e β σ){p:Nat->SV->Bool}:RS X D (Λ.keep p) C e β σ:=h.sub fun _ hm=>(bZ hm).1
theorem aBx{s d:Nat}{x:(D d).den}{w:Bool}(h:D d≠.d .bool):pP (e.set d x) s w=pP e s w:=by
 by_cases hs:s=d
 .subst hs;have:∀(y:SY) (a b:y.den),y≠.d .bool->SY.asB y a=SY.asB y b:=by
   intro y a b hy;cases y with
   |d t=>cases t<;>first|rfl|exact absurd rfl hy
   |_=>rfl
  unfold pP;cases w<;>simp only[this (D s) _ (e s) h]
 .exact wU hs
theorem iK{d:Nat}{x:(D d).den}{c:List (Nat×Bool)}(h:D d≠.d .bool):holds (e.set d x) c↔holds e c:=by
 unfold holds;constructor
 .intro hh s w hs;rw[<-aBx (x:=x) h];exact hh s w hs
 .intro hh s w hs;rw[aBx h];exact hh s w hs
theorem RS.newbox(h:RS X D Λ C e β σ){d:Nat}{x:(D (aH d)).den}{cells:List V}(hd:d<100000)(hC:bU C (some d)=true)(hD:D d=.ptr (aH d) 0)(hreg:aN (get σ.env d)=false)(hcond:bW C d=[])
  (hx:∀{E:Nat->V} {β:Nat->Nat} {bx:BX},bx[β (aH d)]?=some cells->cN E β bx (aH d) (D (aH d)) x .undef) (hb:(D (aH d)).isBox=true) (hn:bO cells=true) :
  RS X D ((((Λ.asg D d).asg D (aH d)).put (aH d) ⟨[],none⟩).put d ⟨[],none⟩) C (e.set (aH d) x) (upd β (aH d) σ.bx.length) {σ with env:=set σ.env d (.bp σ.bx.length 0),bx:=σ.bx++[cells]}:=by
 have hE:get (set σ.env d (.bp σ.bx.length 0))=upd (get σ.env) d (.bp σ.bx.length 0):=bG _ _ _;have hbd:aH d≠d:=by unfold aH;omega
 have hbs:100000<=aH d:=by unfold aH;omega
 have hcb:∀s,∀q∈bW C s,q.1≠aH d:=by
  intro s q hq;rcases eW (C:=C) (s:=s)with e0|e0
  .rw[e0]at hq;cases hq
  .have:=(h.cc _ e0).2 q hq;omega
 have hch:∀s,100000<=s->bW C s=[]:=by
  intro s hs;rcases eW (C:=C) (s:=s)with e0|e0
  .exact e0
  .have:=(h.cc _ e0).1;simp only at this;omega
 have hmem : ∀ s sv, (s, sv) ∈ ((((Λ.asg D d).asg D (aH d)).put (aH d) ⟨[], none⟩).put d ⟨[], none⟩).vs → (s = d ∧ sv = ⟨[], none⟩) ∨ (s = aH d ∧ sv = ⟨[], none⟩) ∨
     ∃u,(s,u)∈Λ.vs/\s≠d/\s≠aH d/\(D s).refs d=false/\(D s).refs (aH d)=false/\tP d u.ls=false/\sv.ls=u.ls/\∀r o,sv.cp=some (r,o)->u.cp=some (r,o)/\r≠d:=by
  intro s sv hs;rcases List.mem_cons.1 hs with hs|hs
  .cases hs;exact .inl ⟨rfl,rfl⟩
  rcases List.mem_cons.1 hs with hs|hs
  .cases hs;exact .inr (.inl ⟨rfl,rfl⟩)
  obtain⟨u1,h1,rfl,k1,k2,k3⟩:=eJ hs;obtain⟨u,h2,rfl,k4,k5,k6⟩:=eJ h1;refine .inr (.inr ⟨u,h2,k4,k1,k5,k2,k6,by rw[jF,jF],fun r o hc=>?_⟩);have:=eV hc;exact eV this.1
 refine⟨fun s sv hs hh=>?_,fun s sv hs hh=>?_,fun s hs=>?_,fun s hs=>?_,?_,fun b sv hb' hs=>?_,fun b sv b' sv' hb1 hs hb2 hs'=>?_,h.cc,?_⟩
 .simp only[hE];rw[fF (hcb s)]at hh;rcases hmem s sv hs with⟨rfl,rfl⟩|⟨rfl,rfl⟩|⟨u,h1,k1,k2,k3,k4,k5,k6,k7⟩
  .have hv:upd (get σ.env) s (.bp σ.bx.length 0) s=.bp σ.bx.length 0:=by simp[upd]
   rw[hv];refine⟨?_,dY fun c hc=>?_,eB.none⟩
   .have:=srel_ptr (E:=upd (get σ.env) s (.bp σ.bx.length 0)) (β:=upd β (aH s) σ.bx.length) (bx:=σ.bx++[cells]) (s0:=s) hD (TE.set e (aH s) x s);simpa[upd]using this
   .have:c=.bp σ.bx.length 0:=by simpa[V.kids]using hc
    subst this;trivial
  · have hv : upd (get σ.env) d (.bp σ.bx.length 0) (aH d) = .undef := by
      simp only[upd,if_neg hbd];exact h.hi _ hbs
    rw[hv,TE.set_eq];refine⟨hx (by simp[upd]),dY fun c hc=>?_,eB.none⟩;have:c=.undef:=by simpa[V.kids]using hc
    subst this;trivial
  .obtain⟨q1,q2,q3⟩:=h.yes s u h1 hh;have hv:upd (get σ.env) d (.bp σ.bx.length 0) s=get σ.env s:=by simp only[upd,if_neg k1]
   rw[hv,TE.set_ne (Ne.symm k2)];refine⟨?_,?_,q3.congr' fun r o hc=>⟨(k7 r o hc).1,by simp only[upd,if_neg (k7 r o hc).2]⟩⟩
   · have q1' : cN (upd (get σ.env) d (.bp σ.bx.length 0)) β σ.bx s (D s) (e s) (get σ.env s) := q1.congr fun s' hr => by
       have:s'≠d:=fun e0=>by rw[e0]at hr;rw[hr]at k3;cases k3
       simp only[upd,if_neg this]
     have key:∀(y:SY) (z:y.den),D s=y->cN (upd (get σ.env) d (.bp σ.bx.length 0)) β σ.bx s y z (get σ.env s)->cN (upd (get σ.env) d (.bp σ.bx.length 0)) (upd β (aH d) σ.bx.length) (σ.bx++[cells]) s y z (get σ.env s):=by
      intro y z hy hz;cases y with
      |box t=>
       obtain⟨z0,cs,z1,z2⟩:=hz;have hlt:=(h.b1 s u (by rw[hy];rfl) h1).1;exact⟨z0,cs,by simp only[upd,if_neg k2];rw[List.getElem?_append_left hlt];exact z1,z2⟩
      |ptr b off=>
       have hne:b≠aH d:=fun e0=>by rw[hy,e0]at k4;simp[SY.refs]at k4
       have hz:get σ.env s=.bp (β b) off:=hz;show get σ.env s=.bp (upd β (aH d) σ.bx.length b) off;simp only[upd,if_neg hne];exact hz
      |clo f bs=>
       have hz:get σ.env s=.fn (.func f) [] (bs.map fun b=>.bp (β b) 0):=hz;show get σ.env s=.fn (.func f) [] (bs.map fun b=>.bp (upd β (aH d) σ.bx.length b) 0);rw[hz];congr 1;refine List.map_congr_left fun b hb=>?_
       have hne:b≠aH d:=fun e0=>by rw[hy]at k4;simp[SY.refs]at k4;exact k4 (e0▸hb)
       simp only[upd,if_neg hne]
      |_=>exact hz
     exact key _ _ rfl q1'
   .rw[k6];exact q2.env fun s' i hi=>by
     have:s'≠d:=fun e0=>nG k5 i (by rw[hi,e0])
     simp only[upd,if_neg this]
 .simp only[hE];rw[fF (hcb s)]at hh;rcases hmem s sv hs with⟨rfl,rfl⟩|⟨rfl,rfl⟩|⟨u,h1,k1,k2,k3,k4,k5,k6,k7⟩
  .rw[hcond]at hh;exact absurd (fun s w hs=>by cases hs) hh
  .rw[hch _ hbs]at hh;exact absurd (fun s w hs=>by cases hs) hh
  .simp only[upd,if_neg k1];exact h.no s u h1 hh
 .simp only[hE,upd]at hs;split at hs
  .cases hs
  .exact h.rg s hs
 .simp only[hE,upd];rw[if_neg (by omega)];exact h.hi s hs
 · have : ∀ l : BX, bX (l ++ [cells]) = (bX l && bO cells) := by
     intro l
     induction l with
     |nil=>simp[bX]
     |cons a r ih=>simp only[List.cons_append,bX,ih,Bool.and_assoc]
   simp only[this,h.nb,hn,Bool.and_self]
 .simp only[List.length_append,List.length_cons,List.length_nil];rcases hmem b sv hs with⟨rfl,rfl⟩|⟨rfl,rfl⟩|⟨u,h1,k1,k2,k3,k4,k5,k6,k7⟩
  .rw[hD]at hb';cases hb'
  .simp only[upd,if_true];exact⟨by omega,.inr ⟨by unfold aH;omega,h.b3.1⟩⟩
  .simp only[upd,if_neg k2];obtain⟨q1,q2⟩:=h.b1 b u hb' h1;exact⟨by omega,q2⟩
 .intro hbe;rcases hmem b sv hs with⟨rfl,rfl⟩|⟨rfl,rfl⟩|⟨u,h1,k1,k2,k3,k4,k5,k6,k7⟩
  .rw[hD]at hb1;cases hb1
  .rcases hmem b' sv' hs' with⟨rfl,rfl⟩|⟨rfl,rfl⟩|⟨u',h1',k1',k2',_⟩
   .rw[hD]at hb2;cases hb2
   .rfl
   .simp only[upd,if_true,if_neg k2']at hbe;have:=(h.b1 b' u' hb2 h1').1;omega
  .rcases hmem b' sv' hs' with⟨rfl,rfl⟩|⟨rfl,rfl⟩|⟨u',h1',k1',k2',_⟩
   .rw[hD]at hb2;cases hb2
   .simp only[upd,if_true,if_neg k2]at hbe;have:=(h.b1 b u hb1 h1).1;omega
   .simp only[upd,if_neg k2,if_neg k2']at hbe;exact h.b2 b u b' u' hb1 h1 hb2 h1' hbe
 .simp only[List.length_append,List.length_cons,List.length_nil];refine⟨by have:=h.b3.1;omega,fun i hi hq=>?_⟩;rw[List.getElem?_append_left (by have:=h.b3.1;omega)];exact h.b3.2 i hi hq
theorem iC{s s':Nat}{sv:SV}(h:(s',sv)∈(Λ.sto s).vs):∃u,(s',u)∈Λ.vs/\sv=u.uncp s/\s'≠s/\tP s u.ls=false:=by
 obtain⟨u,h1,h2⟩:=cI h;obtain⟨h3,h4⟩:=bZ h1;simp only[Bool.and_eq_true,decide_eq_true_eq,Bool.not_eq_true']at h4;exact⟨u,h3,h2,h4.1,h4.2⟩
theorem RS.sto(h:RS X D Λ C e β σ){s c n n':Nat}{cs cs':List V}{t:Ty}{ls:Ls}(hs0:s<100000)(hE:get σ.env s=.reg c n cs)(hD:D s=.reg t){x:(D s).den}(hx:∀{E:Nat->V} {bx:BX},cN E β bx s (D s) x (.reg c n' cs'))
  (hl:cD σ.tips σ.lk X.gv (upd (get σ.env) s (.reg c n' cs')) ls cs') (hcond:bW C s=[]) :
  RS X D ((Λ.sto s).put s ⟨ls,none⟩) C (e.set s x) β {σ with env:=set σ.env s (.reg c n' cs')}:=by
 have hE':get (set σ.env s (.reg c n' cs'))=upd (get σ.env) s (.reg c n' cs'):=bG _ _ _;have hnb:D s≠.d .bool:=by rw[hD];intro q;cases q
 have hbox:(D s).isBox=false:=by rw[hD];rfl
 refine⟨fun s' sv hs hh=>?_,fun s' sv hs hh=>?_,fun s' hs=>?_,fun s' hs=>?_,h.nb,fun b sv hb hs=>?_,fun b sv b' sv' hb hs hb' hs'=>?_,h.cc,h.b3⟩
 .simp only[hE'];rw[iK hnb]at hh;rcases List.mem_cons.1 hs with hs|hs
  .cases hs;have:upd (get σ.env) s (.reg c n' cs') s=.reg c n' cs':=by simp[upd]
   rw[this,TE.set_eq];exact⟨hx,hl,eB.none⟩
  .obtain⟨u,h1,rfl,hne,hrv⟩:=iC hs;obtain⟨k1,k2,k3⟩:=h.yes s' u h1 hh;have hu:∀q,q≠s->upd (get σ.env) s (.reg c n' cs') q=get σ.env q:=fun q hq=>by simp only[upd,if_neg hq]
   rw[TE.set_ne (Ne.symm hne),hu s' hne];refine⟨?_,?_,k3.congr' fun r o hc=>⟨(eV hc).1,hu r (eV hc).2⟩⟩
   · have key : ∀ (y : SY) (z : y.den) (v : V), cN (get σ.env) β σ.bx s' y z v → cN (upd (get σ.env) s (.reg c n' cs')) β σ.bx s' y z v := by
       intro y z v hz;cases y with
       |rp q off=>
        obtain⟨c1,n1,cs1,z1,z2⟩:=hz;by_cases hq:q=s
        .subst hq;rw[hE]at z1;cases z1;exact⟨c,n',cs',by simp[upd],z2⟩
        .exact⟨c1,n1,cs1,by rw[hu q hq];exact z1,z2⟩
       |rx q off len u=>
        obtain⟨z0,c1,n1,cs1,z1,z2⟩:=hz;by_cases hq:q=s
        .subst hq;rw[hE]at z1;cases z1;exact⟨z0,c,n',cs',by simp[upd],z2⟩
        .exact⟨z0,c1,n1,cs1,by rw[hu q hq];exact z1,z2⟩
       |_=>exact hz
     exact key _ _ _ k1
   .rw[jF];exact k2.env fun q i hi=>hu q fun e0=>nG hrv i (by rw[hi,e0])
 .simp only[hE'];rw[iK hnb]at hh;rcases List.mem_cons.1 hs with hs|hs
  .cases hs;rw[hcond]at hh;exact absurd (fun s w hs=>by cases hs) hh
  .obtain⟨u,h1,rfl,hne,hrv⟩:=iC hs;simp only[upd,if_neg hne];exact h.no s' u h1 hh
 .simp only[hE',upd]at hs;split at hs
  .rename_i e0;subst e0;unfold rty;rw[hD];rfl
  .exact h.rg s' hs
 .simp only[hE',upd];rw[if_neg (by omega)];exact h.hi s' hs
 .rcases List.mem_cons.1 hs with hs|hs
  .cases hs;rw[hbox]at hb;cases hb
  .obtain⟨u,h1,_⟩:=iC hs;exact h.b1 b u hb h1
 .rcases List.mem_cons.1 hs with hs|hs
  .cases hs;rw[hbox]at hb;cases hb
  .rcases List.mem_cons.1 hs' with hs'|hs'
   .cases hs';rw[hbox]at hb';cases hb'
   .obtain⟨u,h1,_⟩:=iC hs;obtain⟨u',h1',_⟩:=iC hs';exact h.b2 b u b' u' hb h1 hb' h1'
theorem sK:∀{bx:BX} {i:Nat} {cells:List V},bX bx=true->bO cells=true->bX (bx.set i cells)=true
 |[],_,_,_,_=>rfl
 |a::r,0,_,h,hn=>by
  simp only[bX,Bool.and_eq_true]at h;simp only[List.set_cons_zero,bX,hn,h.2,Bool.and_self]
 |a::r,i+1,_,h,hn=>by
  simp only[bX,Bool.and_eq_true]at h;simp only[List.set_cons_succ,bX,h.1,sK h.2 hn,Bool.and_self]
theorem RS.stob(h:RS X D Λ C e β σ){b:Nat}{sv0:SV}{x:(D b).den}{cells:List V}(hm:(b,sv0)∈Λ.vs)(hb:(D b).isBox=true)
  (hx:∀{E:Nat->V} {bx:BX},bx[β b]?=some cells->cN E β bx b (D b) x (get σ.env b)) (hn:bO cells=true) :
  RS X D Λ C (e.set b x) β {σ with bx:=σ.bx.set (β b) cells}:=by
 have hnb:D b≠.d .bool:=by intro q;rw[q]at hb;cases hb
 have hlt:=(h.b1 b sv0 hb hm).1;refine⟨fun s sv hs hh=>?_,fun s sv hs hh=>?_,h.rg,h.hi,sK h.nb hn,fun b' sv hb' hs=>?_,h.b2,h.cc,?_⟩
 .rw[iK hnb]at hh;obtain⟨k1,k2,k3⟩:=h.yes s sv hs hh;refine⟨?_,k2,k3⟩;by_cases hsb:s=b
  .subst hsb;rw[TE.set_eq];exact hx (by simp[hlt])
  .rw[TE.set_ne (Ne.symm hsb)];have key:∀(y:SY) (z:y.den) (v:V),D s=y->cN (get σ.env) β σ.bx s y z v->cN (get σ.env) β (σ.bx.set (β b) cells) s y z v:=by
    intro y z v hy hz;cases y with
    |box t=>
     obtain⟨z0,cs,z1,z2⟩:=hz;have hne:β b≠β s:=fun e0=>hsb (h.b2 s sv b sv0 (by rw[hy];rfl) hs hb hm e0.symm)
     exact⟨z0,cs,by rw[List.getElem?_set_ne hne];exact z1,z2⟩
    |_=>exact hz
   exact key _ _ _ rfl k1
 .rw[iK hnb]at hh;exact h.no s sv hs hh
 .simp only[List.length_set];exact h.b1 b' sv hb' hs
 .simp only[List.length_set];refine⟨h.b3.1,fun i hi hq=>?_⟩;have hne:β b≠i:=by
   intro e0;rcases(h.b1 b sv0 hb hm).2 with⟨_,q1,q2⟩|⟨_,q1⟩
   .exact hq b q1 (by rw[<-q2];exact e0)
   .omega
  rw[List.getElem?_set_ne hne];exact h.b3.2 i hi hq
theorem lF{nm k:Nat}{cs':List V}{v:V}(h:nm∉v.names):hit nm k cs' v=v:=by
 cases v with
 |sl l z n cs=>
  simp only[hit];rw[if_neg (by simpa[V.names]using h)]
 |ep l cs o=>
  simp only[hit];rw[if_neg (by simpa[V.names]using h)]
 |_=>simp only[hit];rw[if_neg h]
theorem oW{nm k:Nat}{cs':List V}:∀(en:Env) (s:Nat),get (bY nm k cs' en) s=iO nm k cs' (get en s)
 |[],s=>by
  simp only[bY,List.map_nil,get,iO];exact(lF (by simp[V.names])).symm
 |(a,v)::r,s=>by
  have ih:=oW (nm:=nm) (k:=k) (cs':=cs') r s;unfold bY at ih ⊢;simp only[List.map_cons,get];split
  .rfl
  .exact ih
theorem pK{nm k:Nat}{cs':List V}{cs:List V}(h:∀c∈cs,nm∉c.names):cs.map (hit nm k cs')=cs:=by
 conv=>rhs;rw[<-List.map_id cs]
 exact List.map_congr_left fun c hc=>lF (h c hc)
theorem gA{nm:Nat}:∀{cs:List V},nm∈aC cs->∃c∈cs,nm∈c.names
 |c::r,h=>by
  simp only[aC,List.mem_append]at h;rcases h with h|h
  .exact⟨c,List.mem_cons_self,h⟩
  .obtain⟨c',h1,h2⟩:=gA h;exact⟨c',List.mem_cons_of_mem _ h1,h2⟩
theorem uT{nm:Nat}{v:V}(h:∀c∈v.kids,nm∉c.names):match v with
  |.agg cs=>∀c∈cs,nm∉c.names
  |.reg _ _ cs=>∀c∈cs,nm∉c.names
  |.tup vs=>nm∉aC vs
  |v=>nm∉v.names:=by
 cases v with
 |agg cs=>exact h
 |reg c n cs=>exact h
 |tup vs=>
  intro hm;obtain⟨c,h1,h2⟩:=gA hm;cases c with
  |agg cs=>
   simp only[V.names]at h2;obtain⟨c',h3,h4⟩:=gA h2;exact h c' (List.mem_flatMap.2 ⟨_,h1,h3⟩) h4
  |_=>exact h _ (List.mem_flatMap.2 ⟨_,h1,by simp[V.cells]⟩) h2
 |_=>exact h _ (by simp[V.kids])
theorem zY{nm k:Nat}{cs':List V}{v:V}(h:∀c∈v.kids,nm∉c.names):iO nm k cs' v=v:=by
 have:=uT h;cases v with
 |agg cs=>simp only[iO];rw[pK this]
 |reg c n cs=>simp only[iO];rw[pK this]
 |tup vs=>simp only[iO];rw[if_neg this]
 |_=>exact lF (k:=k) (cs':=cs') this
theorem aDM{T:Nat->Nat}{lk:Nat->Bool}{gv:Nat->Prop}{E:Nat->V}{ls:Ls}{v:V}{N:List Nat}{nm:Nat}(hl:cD T lk gv E ls v.kids)(hk:∀c∈v.kids,(∃l z n cs,c=.sl l z n cs)\/(∃l cs o,c=.ep l cs o)\/c.names=[])(hh:tB (aR ls) N=false)(hn:nm∈N):∀c∈v.kids,nm∉c.names:=by
 intro c hc hm;obtain⟨i,hi⟩:=List.getElem?_of_mem hc;have h1:=hl i c hi;rcases hk c hc with⟨l,z,n,cs,rfl⟩|⟨l,cs,o,rfl⟩|h0
 .exact cL hh _ (jD (h1.1 nm hm).1) hn
 .exact cL hh _ (jD (h1.1 nm hm).1) hn
 .rw[h0]at hm;cases hm
theorem kM{c:V}(h:c.cell):(∃l z n cs,c=.sl l z n cs)\/(∃l cs o,c=.ep l cs o)\/c.names=[]:=by
 cases c with
 |sl l z n cs=>exact .inl ⟨_,_,_,_,rfl⟩
 |bool|int|str|nils|nili|iface|fn=>exact .inr (.inr rfl)
 |_=>exact h.elim
theorem oX:∀{ts:List Ty} {x:(Ty.row ts).den} {vs:List V},iQ ts x vs->∀c∈vs.flatMap V.cells,c.cell
 |[],_,_,h=>by cases h;intro c hc;cases hc
 |t::r,x,_,⟨v,vs',e0,h1,h2⟩=>by
  subst e0;intro c hc;rw[List.flatMap_cons]at hc;rcases List.mem_append.1 hc with hc|hc
  .exact bJ h1.1 c hc
  .exact oX h2 c hc
theorem aDN{E:Nat->V}{bx:BX}{s:Nat}{y:SY}{x:y.den}{v:V}(h:cN E β bx s y x v):∀c∈v.kids,(∃l z n cs,c=.sl l z n cs)\/(∃l cs o,c=.ep l cs o)\/c.names=[]:=by
 cases y with
 |d t=>
  have:=aG h;rw[this.1];exact fun c hc=>kM (this.2.1 c hc)
 |reg t=>
  obtain⟨c,n,cs,rfl,h1⟩:=h;exact fun c hc=>kM (bJ h1 c hc)
 |box=>
  have h:v=.undef:=h.1;subst h;intro c hc;have:=List.mem_singleton.1 hc;subst this;exact .inr (.inr rfl)
 |clo=>
  have h:v=_:=h;subst h;intro c hc;have:=List.mem_singleton.1 hc;subst this;exact .inr (.inr rfl)
 |no=>
  have h:v=.undef:=h;subst h;intro c hc;have:=List.mem_singleton.1 hc;subst this;exact .inr (.inr rfl)
 |ptr b off=>
  have h:v=_:=h;subst h;intro c hc;have:c=.bp (β b) off:=by simpa[V.kids]using hc
  subst this;exact .inr (.inr rfl)
 |rp=>
  obtain⟨_,_,_,_,rfl⟩:=h;intro c hc;have:=List.mem_singleton.1 hc;subst this;exact .inr (.inr rfl)
 |rx=>
  obtain⟨_,_,_,_,_,rfl⟩:=h;intro c hc;have:=List.mem_singleton.1 hc;subst this;exact .inr (.inr rfl)
 |ep=>
  obtain⟨_,_,rfl,_⟩:=h;intro c hc;have:=List.mem_singleton.1 hc;subst this;exact .inr (.inl ⟨_,_,_,rfl⟩)
 |vp=>
  obtain⟨_,_,rfl,_⟩:=h;intro c hc;have:=List.mem_singleton.1 hc;subst this;exact .inr (.inl ⟨_,_,_,rfl⟩)
 |tup ts=>
  obtain⟨vs,rfl,h1⟩:=h;exact fun c hc=>kM (oX h1 c hc)
end
end Go.VM
namespace Go.VM
section
variable{X:Cxt}{D:Nat->SY}{Λ:LS}{C:CC}{e:TE D}{β:Nat->Nat}{σ:St}{t0:Nat->Nat}{mk:List Nat}{sg:Nat->Sg}{cf:NF sg}{cfv:cO}{vsg:Nat->Sig}
theorem uU{nm k:Nat}{cs':List V}{v:V}(h:aN (iO nm k cs' v)=true):aN v=true:=by
 cases v with
 |reg=>rfl
 |agg=>cases h
 |tup vs=>
  simp only[iO]at h;split at h<;>cases h
 |sl l z n cs=>
  simp only[iO,hit]at h;split at h
  .split at h<;>cases h
  .cases h
 |ep l cs o=>
  simp only[iO,hit]at h;split at h
  .split at h<;>cases h
  .cases h
 |_=>
  simp only[iO,hit]at h;split at h<;>cases h
theorem sL{nm:Nat}{v:V}(h:∀c∈v.kids,nm∉c.names):nm∉v.names:=by
 have:=uT h;cases v with
 |agg cs=>
  intro hm;simp only[V.names]at hm;obtain⟨c,h1,h2⟩:=gA hm;exact this c h1 h2
 |reg a b cs=>
  intro hm;simp only[V.names]at hm;obtain⟨c,h1,h2⟩:=gA hm;exact this c h1 h2
 |tup vs=>simpa[V.names]using this
 |_=>exact this
theorem RS.hit(h:RS X D Λ C e β σ){nm k:Nat}{cs':List V}{N:List Nat}(hn:nm∈N):RS X D (Λ.keep fun _ w=>!tB (aR w.ls) N) C e β {σ with env:=bY nm k cs' σ.env}:=by
 have hE:get (bY nm k cs' σ.env)=fun s=>iO nm k cs' (get σ.env s):=funext fun s=>oW _ _
 have hreg:∀s c v cs,get σ.env s=.reg c v cs->iO nm k cs' (get σ.env s)=.reg c v (cs.map (Go.VM.hit nm k cs')):=fun s c v cs hq=>by rw[hq];rfl
 refine⟨fun s sv hs hh=>?_,fun s sv hs hh=>?_,fun s hs=>?_,fun s hs=>?_,h.nb,fun b sv hb hs=>?_,fun b sv b' sv' hb hs hb' hs'=>?_,h.cc,h.b3⟩
 .simp only[hE];obtain⟨h1,h2⟩:=bZ hs;simp only[Bool.not_eq_true']at h2;obtain⟨k1,k2,k3⟩:=h.yes s sv h1 hh;have hnk:=aDM k2 (aDN k1) h2 hn;rw[zY hnk];refine⟨?_,fun i c hc=>?_,fun r o hro=>?_⟩
  .generalize hv:get σ.env s=v at k1;have key:∀(y:SY) (z:y.den),cN (get σ.env) β σ.bx s y z v->cN (fun s=>iO nm k cs' (get σ.env s)) β σ.bx s y z v:=by
    intro y z hz;cases y with
    |rp q off=>
     obtain⟨c1,n1,cs1,z1,z2⟩:=hz;exact⟨c1,n1,_,hreg q _ _ _ z1,z2⟩
    |rx q off len u=>
     obtain⟨z0,c1,n1,cs1,z1,z2⟩:=hz;exact⟨z0,c1,n1,_,hreg q _ _ _ z1,z2⟩
    |_=>exact hz
   exact key _ _ k1
  .have:=k2 i c hc;have key:∀l,bR σ.tips σ.lk X.gv (get σ.env) (aV sv.ls i) l->bR σ.tips σ.lk X.gv (fun s=>iO nm k cs' (get σ.env s)) (aV sv.ls i) l:=fun l hl=>
    ⟨hl.1,hl.2.1,hl.2.2.1,hl.2.2.2.1,hl.2.2.2.2.1,fun s c v hq=>by
     obtain⟨q1,cs,q2⟩:=hl.2.2.2.2.2 s c v hq;exact⟨q1,_,hreg s _ _ _ q2⟩⟩
   cases c with
   |sl l=>exact key l this
   |ep l=>exact key l this
   |_=>trivial
  .obtain⟨W,q1,q2⟩:=k3 r o hro;refine⟨W,?_,q2⟩;have hnv:=sL hnk;have hWk:nm∉W.names/\iO nm k cs' W=W:=by
    generalize get σ.env s=v at q2 hnk hnv;cases v with
    |ep lb cs o'=>
     obtain⟨z,n,rfl⟩:=q2;have:nm∉(V.sl lb z n cs).names:=hnv;exact⟨this,lF (k:=k) (cs':=cs') this⟩
    |_=>
     have q2:_=W:=q2;subst q2;exact⟨hnv,zY hnk⟩
   unfold aGL at q1 ⊢;split at q1
   .exact⟨(congrArg (iO nm k cs') q1.1).trans hWk.2,q1.2⟩
   .obtain⟨c,n,cs,z1,z2⟩:=q1;refine⟨c,n,_,hreg r _ _ _ z1,?_⟩;rw[List.getElem?_map,z2];simp only[Option.map_some,Option.some.injEq];exact lF hWk.1
 .simp only[hE];obtain⟨h1,h2⟩:=bZ hs;rw[h.no s sv h1 hh];rfl
 .simp only[hE]at hs;exact h.rg s (uU hs)
 .simp only[hE];rw[h.hi s hs];rfl
 .exact h.b1 b sv hb (bZ hs).1
 .exact h.b2 b sv b' sv' hb (bZ hs).1 hb' (bZ hs').1
theorem RS.reput(h:RS X D Λ C e β σ){s:Nat}{x:(D s).den}{ls:Ls}(hnb:D s≠.d .bool)(hbox:(D s).isBox=false)(hx:cN (get σ.env) β σ.bx s (D s) x (get σ.env s))(hl:cD σ.tips σ.lk X.gv (get σ.env) ls (get σ.env s).kids)(hcond:bW C s=[]) :
  RS X D ((Λ.sto s).put s ⟨ls,none⟩) C (e.set s x) β σ:=by
 refine⟨fun s' sv hs hh=>?_,fun s' sv hs hh=>?_,h.rg,h.hi,h.nb,fun b sv hb hs=>?_,fun b sv b' sv' hb hs hb' hs'=>?_,h.cc,h.b3⟩
 .rw[iK hnb]at hh;rcases List.mem_cons.1 hs with hs|hs
  .cases hs;rw[TE.set_eq];exact⟨hx,hl,eB.none⟩
  .obtain⟨u,h1,rfl,hne,hrv⟩:=iC hs;obtain⟨k1,k2,k3⟩:=h.yes s' u h1 hh;rw[TE.set_ne (Ne.symm hne)];exact⟨k1,by rw[jF];exact k2,k3.congr' fun r o hc=>⟨(eV hc).1,rfl⟩⟩
 .rw[iK hnb]at hh;rcases List.mem_cons.1 hs with hs|hs
  .cases hs;rw[hcond]at hh;exact absurd (fun s w hs=>by cases hs) hh
  .obtain⟨u,h1,rfl,hne,hrv⟩:=iC hs;exact h.no s' u h1 hh
 .rcases List.mem_cons.1 hs with hs|hs
  .cases hs;rw[hbox]at hb;cases hb
  .obtain⟨u,h1,_⟩:=iC hs;exact h.b1 b u hb h1
 .rcases List.mem_cons.1 hs with hs|hs
  .cases hs;rw[hbox]at hb;cases hb
  .rcases List.mem_cons.1 hs' with hs'|hs'
   .cases hs';rw[hbox]at hb';cases hb'
   .obtain⟨u,h1,_⟩:=iC hs;obtain⟨u',h1',_⟩:=iC hs';exact h.b2 b u b' u' hb h1 hb' h1'
def Eff(X:Cxt)(D:Nat->SY)(cf:NF sg)(cfv:cO)(vsg:Nat->Sig)(Λ:LS)(C:CC)(e:TE D)(_:Nat->Nat)(σ:St)(t0:Nat->Nat)(mk:List Nat)(cs:List (Nat×Bool))(dst:Option Nat)(op:VOp):Prop:=
 ∀{Λ' e'},cop D Λ C sg vsg cs dst op=some Λ'->(dop D cf dst op).out e=some e'->
  ∃β' σ',aU cfv vsg σ t0 dst op=some σ'/\RS X D Λ' (oM C dst cs) e' β' σ'/\RG Λ' t0 mk σ'
theorem RG.same{Λ':LS}{σ':St}(h:RG Λ t0 mk σ)(h1:Λ'.dt=Λ.dt)(h2:Λ'.ld=Λ.ld)(h3:σ'.tips=σ.tips)(h4:σ'.lk=σ.lk):RG Λ' t0 mk σ':=
 ⟨fun nm hq=>by rw[h3];exact h.dt nm (by rw[<-h1];exact hq),fun nm hm hq=>by rw[h4];exact h.ld nm hm (by rw[<-h2];exact hq)⟩
theorem RG.bump(h:RG Λ t0 mk σ){N:List Nat}{T':Nat->Nat}(hT:∀nm,nm∉N->T' nm=σ.tips nm):RG (Λ.bump N) t0 mk {σ with tips:=T'}:=
 ⟨fun nm hq=>by
  have hq:nm∉N++Λ.dt:=hq;rw[List.mem_append,not_or]at hq;rw[<-h.dt nm hq.2];exact hT nm hq.1,h.ld⟩
theorem RG.lock(h:RG Λ t0 mk σ){N:List Nat}{lk':Nat->Bool}(hT:∀nm,nm∉N->σ.lk nm=false->lk' nm=false):RG (Λ.lock N) t0 mk {σ with lk:=lk'}:=
 ⟨h.dt,fun nm hm hq=>by
  have hq:nm∉N++Λ.ld:=hq;rw[List.mem_append,not_or]at hq;exact hT nm hq.1 (h.ld nm hm hq.2)⟩
theorem RG.unlock(h:RG Λ t0 mk σ){lk':Nat->Bool}(hT:∀nm,σ.lk nm=false->lk' nm=false):RG Λ t0 mk {σ with lk:=lk'}:=
 ⟨h.dt,fun nm hm hq=>hT nm (h.ld nm hm hq)⟩
theorem eP{α:Type}{f:Nat->α}{v:α}:∀{N:List Nat} {nm:Nat},nm∉N->fB f v N nm=f nm
 |[],_,_=>rfl
 |a::r,nm,h=>by
  simp only[List.mem_cons,not_or]at h;simp only[fB,upd,if_neg h.1];exact eP h.2
theorem aEt{zs:List V}{y:SY}{x:y.den}(h:SY.iniR zs y=some x){E:Nat->V}{bx:BX}{s c:Nat}:cN E β bx s y x (.reg c 0 zs)/\(∀v∈zs,v.cell)/\∀v∈zs,v.bare0:=by
 unfold SY.iniR at h;split at h
 .obtain⟨h1,h2⟩:=gL h;exact⟨⟨c,0,zs,rfl,h1⟩,bJ h1,h2⟩
 .cases h
theorem aDO(h:RS X D Λ C e β σ)(hG:RG Λ t0 mk σ){d:Nat}(hd:d<100000)(hC:bU C (some d)=true){cs:List (Nat×Bool)}{zs:List V}:Eff X D cf cfv vsg Λ C e β σ t0 mk cs (some d) (.allocR zs):=by
 intro Λ' e' hc ho;simp only[cop]at hc;split at hc
 .rename_i hcond;obtain⟨rfl,hr⟩:=hcond;cases hc;simp only[dop]at ho;split at ho
  .rename_i x hx;simp only[OD.out]at ho;cases ho;obtain⟨t,ht⟩:=Option.isSome_iff_exists.1 hr;refine⟨β,{σ with env:=set σ.env d (.reg σ.clk 0 zs)},rfl,h.val hC hd (fun q hq=>by cases hq) (fun q hq=>by cases hq) (by rw[nL ht];rfl) (fun _=>hr) (fun _=>?_) (fun hh=>absurd (fun s w hs=>by cases hs) hh),hG.same rfl rfl rfl rfl⟩;obtain⟨k1,k2,k3⟩:=aEt (E:=upd (get σ.env) d (.reg σ.clk 0 zs)) (bx:=σ.bx) (s:=d) (c:=σ.clk) (β:=β) hx;exact⟨k1,sE k2 k3,eB.none⟩
  .exact(fail_out ho).elim
 .cases hc
theorem cD.rvfree{T:Nat->Nat}{lk:Nat->Bool}{gv:Nat->Prop}{E E':Nat->V}{ls:Ls}{cells:List V}(h:cD T lk gv E ls cells)(hr:jN ls=true):cD T lk gv E' ls cells:=
 h.env fun s i hi=>by rw[noRv_at hr]at hi;cases hi
theorem aGT(h:RS X D Λ C e β σ)(hG:RG Λ t0 mk σ){d:Nat}(hd:d<100000)(hC:bU C (some d)=true){cs:List (Nat×Bool)}(hh:holds e cs){sz:Nat}{x:Opd}:Eff X D cf cfv vsg Λ C e β σ t0 mk cs (some d) (.boxR sz x):=by
 intro Λ' e' hc ho;simp only[cop]at hc;split at hc
 .rename_i l hl;split at hc
  .rename_i hcond;obtain⟨rfl,hr,hno⟩:=hcond;cases hc;simp only[dop]at ho;split at ho
   .rename_i t ht;split at ho
    .rename_i hsz;split at ho
     .rename_i f c hf hcc;simp only[OD.out]at ho;cases ho;obtain⟨k1,k2,_⟩:=h.opD hh hf hl;obtain⟨w1,w2,w3,w4,w5⟩:=aG k1;have hlen:=aF k1.1;have hfit:fits (ev (get σ.env) x) sz 0 sz=true:=by
       unfold fits;rw[eZ k1 k2 hno];simp only[Bool.true_and,Bool.and_eq_true,beq_iff_eq,decide_eq_true_eq];omega
      refine⟨β,{σ with env:=set σ.env d (.reg σ.clk 0 (ev (get σ.env) x).cells)},?_,h.val hC hd (fun q hq=>by cases hq) (fun q hq=>by cases hq) (by rw[nL ht];rfl) (fun _=>hr) (fun _=>?_) (fun hh=>absurd (fun s w hs=>by cases hs) hh),hG.same rfl rfl rfl rfl⟩
      .simp only[aU,aB,hfit,if_true]
      .refine⟨bS hcc (y:=.reg t) ⟨σ.clk,0,_,rfl,k1.1⟩,?_,eB.none⟩;rw[w1]at k2;exact k2.rvfree hno
     .exact(fail_out ho).elim
    .exact(fail_out ho).elim
   .exact(fail_out ho).elim
  .cases hc
 .cases hc
theorem bare_cells{v:V}:v.bare.cells=v.cells.map (V.mapLab1 fun _=>.none):=by
 cases v<;>rfl
theorem fG:∀{t:Ty} {x:t.den} {cs:List V},bP t x cs->bP t x (cs.map (V.mapLab1 fun _=>.none))
 |.unit,_,_,h=>by cases h;rfl
 |.bool,_,_,h=>by cases h;rfl
 |.int _,_,_,h=>by cases h;rfl
 |.str,_,_,h=>by cases h;rfl
 |.fn _,_,_,h=>by cases h;rfl
 |.err,_,_,h=>by
  rcases h with⟨rfl,h2⟩|⟨t,v,rfl,h2⟩
  .exact .inl ⟨rfl,h2⟩
  .exact .inr ⟨t,v,rfl,h2⟩
 |.sl t,l,_,h=>by
  rcases h with⟨rfl,h2⟩|⟨lb,rs,rfl,h2⟩
  .exact .inl ⟨rfl,h2⟩
  .exact .inr ⟨.none,rs,rfl,h2⟩
 |.st t,_,_,h=>fG (t:=t) h
 |.pair a b,_,_,h=>by
  obtain⟨c,d,rfl,h1,h2⟩:=h;exact⟨_,_,List.map_append,fG h1,fG h2⟩
 |.av k n,x,_,⟨h1,h2⟩=>⟨h1,by rw[h2,List.map_map];rfl⟩
theorem iL{cs:List V}(h:∀c∈cs,c.cell):∀c∈cs.map (V.mapLab1 fun _=>.none),c.bare0:=by
 intro c hc;obtain⟨u,h1,rfl⟩:=List.mem_map.1 hc;have:=h u h1;cases u<;>first|trivial|rfl
theorem iM{T:Nat->Nat}{lk:Nat->Bool}{gv:Nat->Prop}{E:Nat->V}{ls:Ls}{v:V}{t:Ty}{x:t.den}(h:gP t x v)(hl:cD T lk gv E ls v.kids):∀nm∈v.names,nm∈aR ls:=by
 obtain⟨h1,h2,h3,h4,h5⟩:=aG h;intro nm hm;by_cases hn:nm∈aR ls
 .exact hn
 .exfalso;refine sL (v:=v) (fun c hc hq=>?_) hm;rw[h1]at hc hl;obtain⟨i,hi⟩:=List.getElem?_of_mem hc;have h6:=hl i c hi;rcases kM (h2 c hc)with⟨l,z,n,cs,rfl⟩|⟨l,cs,o,rfl⟩|h0
  .exact hn (jD (h6.1 nm hq).1)
  .exact hn (jD (h6.1 nm hq).1)
  .rw[h0]at hq;cases hq
theorem aDP(h:RS X D Λ C e β σ)(hG:RG Λ t0 mk σ){d:Nat}(hd:d<100000)(hC:bU C (some d)=true)(hreg:aN (get σ.env d)=false){cs:List (Nat×Bool)}{zs:List V}:Eff X D cf cfv vsg Λ C e β σ t0 mk cs (some d) (.allocB zs):=by
 intro Λ' e' hc ho;simp only[cop]at hc;split at hc
 .rename_i hcond;obtain⟨rfl,hD⟩:=hcond;cases hc;simp only[dop]at ho;split at ho
  .rename_i x hx;simp only[OD.out]at ho;cases ho;have key:(∃t,D (aH d)=.box t)/\(∀{E:Nat->V} {β:Nat->Nat} {bx:BX},bx[β (aH d)]?=some zs->cN E β bx (aH d) (D (aH d)) x .undef)/\bO zs=true:=by
    generalize D (aH d)=y at x hx;unfold SY.iniB at hx;split at hx
    .rename_i t;obtain⟨h1,h2⟩:=gL hx;exact⟨⟨t,rfl⟩,fun{E β bx} hb=>⟨rfl,zs,hb,h1,h2⟩,dF h1⟩
    .cases hx
   obtain⟨⟨t,ht⟩,k2,k3⟩:=key;exact⟨_,_,rfl,h.newbox hd hC hD hreg (fR hC) k2 (by rw[ht];rfl) k3,hG.same rfl rfl rfl rfl⟩
  .exact(fail_out ho).elim
 .cases hc
theorem aGU(h:RS X D Λ C e β σ)(hG:RG Λ t0 mk σ){d:Nat}(hd:d<100000)(hC:bU C (some d)=true)(hreg:aN (get σ.env d)=false){cs:List (Nat×Bool)}(hh:holds e cs){sz:Nat}{x:Opd}:Eff X D cf cfv vsg Λ C e β σ t0 mk cs (some d) (.boxB sz x):=by
 intro Λ' e' hc ho;simp only[cop]at hc;split at hc
 .rename_i l hl;split at hc
  .rename_i hcond;obtain⟨rfl,hD,hno⟩:=hcond;cases hc;simp only[dop]at ho;split at ho
   .rename_i t ht;split at ho
    .rename_i hsz;split at ho
     .rename_i f c hf hcc;simp only[OD.out]at ho;cases ho;obtain⟨k1,k2,_⟩:=h.opD hh hf hl;obtain⟨w1,w2,w3,w4,w5⟩:=aG k1;have hlen:=aF k1.1;have hfit:fits (ev (get σ.env) x) sz 0 sz=true:=by
       unfold fits;rw[eZ k1 k2 hno];simp only[Bool.true_and,Bool.and_eq_true,beq_iff_eq,decide_eq_true_eq];omega
      have hT:∀nm,nm∉aR l->σ.lk nm=false->fB σ.lk true (ev (get σ.env) x).names nm=false:=fun nm hq hlk=>by
       rw[eP (fun hm=>hq (iM k1 k2 nm hm))];exact hlk
      have hL:=h.lock hT;have hcr:bP t (f e) (ev (get σ.env) x).bare.cells:=by rw[bare_cells];exact fG k1.1
      have hbr:∀v∈(ev (get σ.env) x).bare.cells,v.bare0:=by rw[bare_cells];exact iL w2
      refine⟨_,{σ with env:=set σ.env d (.bp σ.bx.length 0),bx:=σ.bx++[(ev (get σ.env) x).bare.cells],lk:=fB σ.lk true (ev (get σ.env) x).names},?_,hL.newbox hd hC hD hreg (fR hC) (fun{E β bx} hb=>bS hcc (y:=.box t) ⟨rfl,_,hb,hcr,hbr⟩) (by rw[aBv ht];rfl) (dF hcr),(hG.lock hT).same rfl rfl rfl rfl⟩;simp only[aU,hfit,if_true]
     .exact(fail_out ho).elim
    .exact(fail_out ho).elim
   .exact(fail_out ho).elim
  .cases hc
 .cases hc
end
end Go.VM
namespace Go.VM
theorem wY{cs ys:List V}{off:Nat}(h:off+ys.length<=cs.length):(splice cs off ys).length=cs.length:=by
 unfold splice;simp only[List.length_append,List.length_take,List.length_drop];omega
theorem nR{cs ys:List V}{off w i:Nat}(h1:i+ys.length<=w)(h2:off+w<=cs.length):splice cs off (splice ((cs.drop off).take w) i ys)=splice cs (off+i) ys:=by
 have hl:((cs.drop off).take w).length=w:=by rw[List.length_take,List.length_drop];omega
 have hl2:(splice ((cs.drop off).take w) i ys).length=w:=by rw[wY (by omega),hl]
 apply List.ext_getElem?;intro k;have e1:=fY (cs:=cs) (ys:=splice ((cs.drop off).take w) i ys) (off:=off) (by omega) k;have e2:=fY (cs:=cs) (ys:=ys) (off:=off+i) (by omega) k;have e3:=fY (cs:=(cs.drop off).take w) (ys:=ys) (off:=i) (by omega) (k-off);rw[e1,e2,hl2];by_cases hk:off<=k/\k<off+w
 .rw[if_pos hk,e3];by_cases hk2:off+i<=k/\k<off+i+ys.length
  .rw[if_pos hk2,if_pos (by omega)];congr 1;omega
  .rw[if_neg hk2,if_neg (by omega),List.getElem?_take_of_lt (by omega),List.getElem?_drop];congr 1;omega
 .rw[if_neg hk,if_neg (by omega)]
section
variable{X:Cxt}{D:Nat->SY}{Λ:LS}{C:CC}{e:TE D}{β:Nat->Nat}{σ:St}{t0:Nat->Nat}{mk:List Nat}{sg:Nat->Sg}{cf:NF sg}{cfv:cO}{vsg:Nat->Sig}
theorem qB{t:Ty}{x:t.den}{v:V}{ls:Ls}{T:Nat->Nat}{lk:Nat->Bool}{gv:Nat->Prop}{E:Nat->V}{sz off len:Nat}(h:gP t x v)(hl:cD T lk gv E ls v.kids)(hr:jN ls=true)(hsz:t.size=sz)(ho:off+sz<=len):fits v sz off len=true:=by
 unfold fits;rw[eZ h hl hr];have:=aF h.1;simp only[Bool.true_and,Bool.and_eq_true,beq_iff_eq,decide_eq_true_eq];omega
theorem kN{cs:List (Nat×Bool)}{s:Nat}{sv:SV}(h:rdS Λ C cs s=some sv):(s,sv)∈Λ.vs/\(cs=[]->bW C s=[]):=by
 unfold rdS LS.has at h;split at h
 .rename_i v hv;split at h
  .rename_i hc;cases h;refine⟨jE hv,fun hcs=>?_⟩;subst hcs;unfold aJR at hc
   match hq:bW C s with
   |[]=>rfl
   |a::r=>rw[hq]at hc;simp at hc
  .cases h
 .cases h
theorem aBW(h:RS X D Λ C e β σ)(hG:RG Λ t0 mk σ){rt:RT}{sz s off:Nat}{a x:Opd}(ha:adO D a=.rp s off):Eff X D cf cfv vsg Λ C e β σ t0 mk [] none (.store rt sz a x):=by
 intro Λ' e' hc ho;have hh:holds e []:=fun s w hs=>by cases hs
 simp only[cop]at hc;split at hc
 .rename_i la lx hla hlx;split at hc
  .rename_i hcond;obtain⟨_,hno⟩:=hcond;rw[ha]at hc;simp only at hc;split at hc
   .rename_i s' sv t hsv ht;split at hc
    .rename_i u hu;split at hc
     .rename_i hs;obtain⟨rfl,hsz,hnr⟩:=hs;cases hc;simp only[dop]at ho;rw[ha]at ho;simp only at ho;rw[ht]at ho;simp only at ho;rw[hu]at ho;simp only at ho;split at ho
      .rename_i p f c c' hp hf hcc hcc';simp only[OD.out]at ho;cases ho;obtain⟨k1,k2,_⟩:=h.opD hh hf hlx;obtain⟨w1,w2,w3,w4,w5⟩:=aG k1;obtain⟨yy,p1,_,_⟩:=h.ad hh ha rfl hla 0;obtain⟨k,n,cells,q1,q2,q3⟩:=h.regc hh hsv hcc;obtain⟨k',n',cells',r1,r2⟩:=p1;rw[q1]at r1;cases r1;obtain⟨g1,g2⟩:=dL hp;have hl0:=aF q2;have hly:=aF k1.1;obtain⟨hm,hcs⟩:=kN hsv;have hs0:s'<100000:=by
        by_cases hq:s'<100000
        .exact hq
        .have:=h.hi s' (by omega);rw[q1]at this;cases this
       have hfit:=qB (off:=off) (len:=cells.length) k1 k2 hno hsz (by omega);rw[w1]at k2;refine⟨β,{σ with env:=set σ.env s' (.reg k (n+1) (splice cells off (ev (get σ.env) x).cells))},?_,h.sto hs0 q1 (nL ht) (fun{E bx}=>bS hcc' (y:=.reg t) ⟨k,n+1,_,rfl,g2 _ _ _ _ q2 k1.1⟩) ((q3.rvfree hnr).put (k2.rvfree hno) (by omega) (by omega)) (hcs rfl),hG.same rfl rfl rfl rfl⟩;simp only[aU,storeAt,r2,q1,true_and];rw[if_pos hfit]
      .exact(fail_out ho).elim
     .cases hc
    .cases hc
   .cases hc
  .cases hc
 .cases hc
theorem zZ{ls:Ls}{off sz i:Nat}(h:aCt off sz ls=[])(hi:off<=i/\i<off+sz):aV ls i=.z:=by
 have:=wW (ls:=ls) (off:=off) (sz:=sz) (i:=i-off) (by omega);rw[h,show i-off+off=i by omega]at this;rw[<-this];rfl
theorem aBX(h:RS X D Λ C e β σ)(hG:RG Λ t0 mk σ){rt:RT}{sz s off len:Nat}{u:Ty}{a x:Opd}(ha:adO D a=.rx s off len u):Eff X D cf cfv vsg Λ C e β σ t0 mk [] none (.store rt sz a x):=by
 intro Λ' e' hc ho;have hh:holds e []:=fun s w hs=>by cases hs
 simp only[cop]at hc;split at hc
 .rename_i la lx hla hlx;split at hc
  .rename_i hcond;obtain⟨_,hno⟩:=hcond;rw[ha]at hc;simp only at hc;split at hc
   .rename_i s' sv hsv;split at hc
    .rename_i hs;obtain⟨rfl,rfl,rfl,hsub,hz,hcnt,hnr⟩:=hs;cases hc;simp only[dop]at ho;rw[ha]at ho;simp only at ho;split at ho
     .rename_i t ht;split at ho
      .rename_i f p nn v hf hp hnn hv;split at ho
       .rename_i i c c' hi hcc hcc';simp only[OD.out]at ho;cases ho;obtain⟨k1,k2,_⟩:=h.opD hh hv hlx;obtain⟨w1,w2,w3,w4,w5⟩:=aG k1;obtain⟨p1,_,_,_⟩:=h.opd hh hi hla 0;obtain⟨k,n,cells,q1,q2,q3⟩:=h.regc hh hsv hcc;obtain⟨p0,k',n',cells',r1,r2⟩:=p1;rw[q1]at r1;cases r1;obtain⟨g1,g2⟩:=cK hf;obtain⟨_,g4⟩:=dL hp;obtain⟨m1,m2⟩:=pY hnn;rw[hcnt]at m1 m2;have g1':off+len*u.size<=t.size:=by rw[<-m1];exact g1
        have hl0:=aF q2;have hly:=aF k1.1;have hkey:∀j:Nat,j<len->j*u.size+u.size<=len*u.size:=fun j hj=>by
         have:=Nat.mul_le_mul_right u.size hj;rw[Nat.succ_mul]at this;exact this
        have hle:=hkey (i e) p0;have harr:=m2 _ _ _ _ _ p0 (g2 _ _ q2) k1.1;have hput:=g4 _ _ _ _ q2 harr;rw[nR (by omega) (by omega)]at hput;obtain⟨hm,hcs⟩:=kN hsv;have hs0:s'<100000:=by
         by_cases hq:s'<100000
         .exact hq
         .have:=h.hi s' (by omega);rw[q1]at this;cases this
        have hfit:=qB (off:=off+i e*u.size) (len:=cells.length) k1 k2 hno rfl (by omega);rw[w1]at k2;refine⟨β,{σ with env:=set σ.env s' (.reg k (n+1) (splice cells (off+i e*u.size) (ev (get σ.env) x).cells))},?_,h.sto hs0 q1 (nL ht) (fun{E bx}=>bS hcc' (y:=.reg t) ⟨k,n+1,_,rfl,hput⟩) ?_ (hcs rfl),hG.same rfl rfl rfl rfl⟩
        .simp only[aU,storeAt,r2,q1,true_and];rw[if_pos hfit]
        .intro j c hj;rw[fY (by omega)]at hj;by_cases hjj:off+i e*u.size<=j/\j<off+i e*u.size+(ev (get σ.env) x).cells.length
         .rw[if_pos hjj]at hj;rw[zZ hsub (by omega)];exact(k2.rvfree (E':=upd (get σ.env) s' _) hno) _ c hj
         .rw[if_neg hjj]at hj;exact(q3.rvfree (E':=upd (get σ.env) s' _) hnr) j c hj
       .exact(fail_out ho).elim
      .exact(fail_out ho).elim
     .exact(fail_out ho).elim
    .cases hc
   .cases hc
  .cases hc
 .cases hc
theorem aBY(h:RS X D Λ C e β σ)(hG:RG Λ t0 mk σ){rt:RT}{sz b off:Nat}{a x:Opd}(ha:adO D a=.ptr b off):Eff X D cf cfv vsg Λ C e β σ t0 mk [] none (.store rt sz a x):=by
 intro Λ' e' hc ho;have hh:holds e []:=fun s w hs=>by cases hs
 simp only[cop]at hc;split at hc
 .rename_i la lx hla hlx;split at hc
  .rename_i hcond;obtain⟨_,hno⟩:=hcond;rw[ha]at hc;simp only at hc;split at hc
   .rename_i sv t hsv ht;split at hc
    .rename_i u hu;split at hc
     .rename_i hsz;cases hc;simp only[dop]at ho;rw[ha]at ho;simp only at ho;rw[ht]at ho;simp only at ho;rw[hu]at ho;simp only at ho;split at ho
      .rename_i p f c c' hp hf hcc hcc';simp only[OD.out]at ho;cases ho;obtain⟨k1,k2,_⟩:=h.opD hh hf hlx;obtain⟨w1,w2,w3,w4,w5⟩:=aG k1;obtain⟨yy,p1,_,_⟩:=h.ad hh ha rfl hla 0;have p1:ev (get σ.env) a=.bp (β b) off:=p1;obtain⟨cells,q1,q2,q3⟩:=h.boxc hh hsv hcc;obtain⟨g1,g2⟩:=dL hp;have hl0:=aF q2;have hly:=aF k1.1;obtain⟨hm,hcs⟩:=kN hsv;have hfit:=qB (off:=off) (len:=cells.length) k1 k2 hno hsz (by omega);have hcr:bP u (f e) (ev (get σ.env) x).bare.cells:=by rw[bare_cells];exact fG k1.1
       have hbr:∀v∈(ev (get σ.env) x).bare.cells,v.bare0:=by rw[bare_cells];exact iL w2
       have hput:=g2 _ _ _ _ q2 hcr;have hball:∀v∈splice cells off (ev (get σ.env) x).bare.cells,v.bare0:=by
        intro v hv;unfold splice at hv;rcases List.mem_append.1 hv with hv|hv
        .rcases List.mem_append.1 hv with hv|hv
         .exact q3 v (List.mem_of_mem_take hv)
         .exact hbr v hv
        .exact q3 v (List.mem_of_mem_drop hv)
       have hT:∀nm,nm∉aR lx->σ.lk nm=false->fB σ.lk true (ev (get σ.env) x).names nm=false:=fun nm hq hlk=>by
        rw[eP (fun hm=>hq (iM k1 k2 nm hm))];exact hlk
       have hund:get σ.env b=.undef:=by
        have:=(h.slot hh hsv).2.1;exact(bS hcc this).1
       have h1:=h.stob (b:=b) (x:=c' (p (c (e b)) (f e))) hm (by rw[aBv ht];rfl) (fun{E bx} hb=>bS hcc' (y:=.box t) ⟨hund,_,hb,hput,hball⟩) (dF hput);refine⟨β,{σ with bx:=σ.bx.set (β b) (splice cells off (ev (get σ.env) x).bare.cells),lk:=fB σ.lk true (ev (get σ.env) x).names},?_,h1.lock hT,(hG.lock hT).same rfl rfl rfl rfl⟩;simp only[aU,storeAt,p1,q1];rw[if_pos hfit]
      .exact(fail_out ho).elim
     .cases hc
    .cases hc
   .cases hc
  .cases hc
 .cases hc
theorem aEu{cs cs':List V}{nm k o:Nat}{z n:Nat}{c0:List V}(ho:cs[o]?=some (.sl (.own nm k) z n c0))(hn:∀j c,cs[j]?=some c->j≠o->nm∉c.names) :
  cs.map (hit nm k cs')=splice cs o [.sl (.own nm k) z n cs']:=by
 have hlt:=(List.getElem?_eq_some_iff.1 ho).1;apply List.ext_getElem?;intro j;rw[List.getElem?_map,fY (by simp;omega)];simp only[List.length_cons,List.length_nil];by_cases hj:j=o
 .subst hj;rw[if_pos (by omega),ho];simp[hit,Lab.names]
 .rw[if_neg (by omega)];cases hc:cs[j]? with
  |none=>rfl
  |some c=>
   simp only[Option.map_some,Option.some.injEq];exact lF (hn j c hc hj)
theorem aGV{w t:Ty}{o:Nat}{x:w.den}{kcells:List V}{c:V}{qq:w.den->(Ty.sl t).den->w.den}(hw:bP w x kcells)(hc:kcells[o]?=some c)(hq:Ty.putAt w o (.sl t)=some qq):∃y:(Ty.sl t).den,bP (.sl t) y [c]:=by
 have key:∀{w:Ty} {o:Nat} {qq:w.den->(Ty.sl t).den->w.den},Ty.putAt w o (.sl t)=some qq->∃g:w.den->(Ty.sl t).den,∀(x:w.den) cs,bP w x cs->bP (.sl t) (g x) ((cs.drop o).take 1):=by
  intro w
  induction w with
  |st w ih=>
   intro o qq hq;unfold Ty.putAt at hq;split at hq
   .rename_i f h1;split at h1
    .cases(cU h1).1
    .cases h1
   .obtain⟨g,h1,_⟩:=Option.map_eq_some_iff.1 hq;exact ih h1
  |pair a b iha ihb=>
   intro o qq hq;unfold Ty.putAt at hq;split at hq
   .rename_i f h1;split at h1
    .cases(cU h1).1
    .cases h1
   .split at hq
    .rename_i hlt;obtain⟨g,h1,_⟩:=Option.map_eq_some_iff.1 hq;have hb:=(dL h1).1;obtain⟨g',h2⟩:=iha h1;refine⟨fun x=>g' x.1,fun x cs ⟨c,d,e,hc,hd⟩=>?_⟩;have hl:=aF hc;have:=h2 _ _ hc;have hb:o+1<=a.size:=hb;rw[e,List.drop_append_of_le_length (by omega),List.take_append_of_le_length (by rw[List.length_drop];omega)];exact this
    .rename_i hlt;obtain⟨g,h1,_⟩:=Option.map_eq_some_iff.1 hq;obtain⟨g',h2⟩:=ihb h1;refine⟨fun x=>g' x.2,fun x cs ⟨c,d,e,hc,hd⟩=>?_⟩;have hl:=aF hc;have:=h2 _ _ hd;rw[e,List.drop_append,List.drop_of_length_le (by omega),List.nil_append,hl];exact this
  |_=>
   intro o qq hq;unfold Ty.putAt at hq;split at hq
   .rename_i h0;subst h0;obtain⟨g,h1,_⟩:=Option.map_eq_some_iff.1 hq;obtain⟨he,_⟩:=cU h1;cases he
    try exact⟨fun x=>x,fun x cs hx=>by rw[uP (n:=1) (aF hx)];exact hx⟩
   .cases hq
 obtain⟨g,h1⟩:=key hq;have:=h1 x kcells hw;have hlt:=(List.getElem?_eq_some_iff.1 hc).1;have e1:(kcells.drop o).take 1=[c]:=by
  rw[List.drop_eq_getElem_cons hlt];simp only[List.take_succ_cons,List.take_zero,List.cons.injEq,and_true];exact(List.getElem?_eq_some_iff.1 hc).2
 rw[e1]at this;exact⟨_,this⟩
theorem aBZ(h:RS X D Λ C e β σ)(hG:RG Λ t0 mk σ){rt:RT}{sz off:Nat}{t:Ty}{rr:Option (Nat×Option Nat)}{a x:Opd}(ha:adO D a=.ep t off rr):Eff X D cf cfv vsg Λ C e β σ t0 mk [] none (.store rt sz a x):=by
 intro Λ' e' hc ho;have hh:holds e []:=fun s w hs=>by cases hs
 simp only[cop]at hc;split at hc
 .rename_i la lx hla hlx;split at hc
  .rename_i hcond;obtain⟨_,hno⟩:=hcond;rw[ha]at hc;cases rr with
   |none=>cases hc
   |some so=>
   obtain⟨s,o⟩:=so;simp only at hc;split at hc
   .rename_i _ av sv p hsv;split at hc
    .rename_i pv u hpv hu;split at hc
     .rename_i hk;obtain⟨hcp,hsz,hz,hown,htip,hun,hnn,hps,hoth⟩:=hk;cases hc;simp only[dop]at ho;rw[ha]at ho;simp only at ho;rw[hu]at ho;simp only at ho;split at ho
      .rename_i pp f c hpp hf hcc;obtain⟨k1,k2,_⟩:=h.opD hh hf hlx;obtain⟨w1,w2,w3,w4,w5⟩:=aG k1;obtain⟨p1,p2,_,_⟩:=h.opd hh hcc hla 0;obtain⟨lb,cells,r1,r2,r3,r4⟩:=p1;rw[r1]at p2;have hlab:bR σ.tips σ.lk X.gv (get σ.env) (aV la 0) lb:=p2 0 (.ep lb cells _) rfl;obtain⟨nm,k,rfl⟩:=hlab.2.2.1 hown;have hkT:k=σ.tips nm:=hlab.2.1 htip nm k (.inl rfl);obtain⟨hnm,hlk,_⟩:=hlab.1 nm (by simp[Lab.names]);have hlk:=hlk hun;have hnx:nm∉(ev (get σ.env) x).names:=fun hm=>cL hnn _ (iM k1 k2 nm hm) hnm
       obtain⟨g1,g2⟩:=dL hpp;have hly:=aF k1.1;have hlen:=eI r2;obtain⟨hilt,_⟩:=List.getElem?_eq_some_iff.1 r4;have hile:((c e).1.2+1)*t.size<=(List.length (c e).1.1)*t.size:=Nat.mul_le_mul_right _ hilt;rw[Nat.add_mul]at hile;have hfit:=qB (off:=(c e).1.2*t.size+off) (len:=cells.length) k1 k2 hno hsz (by omega);have hcr:bP u (f e) (ev (get σ.env) x).bare.cells:=by rw[bare_cells];exact fG k1.1
       have hbr:∀v∈(ev (get σ.env) x).bare.cells,v.bare0:=by rw[bare_cells];exact iL w2
       have hlb:=aF hcr;have helem:=(pX (fun _ _=>aF) r2 r4).1;have hrow:=wR (c e).1.2 r2 hilt (g2 _ _ _ _ helem hcr);rw[nR (by omega) (by omega)]at hrow;have hball:∀v∈splice cells ((c e).1.2*t.size+off) (ev (get σ.env) x).bare.cells,v.bare0:=by
        intro v hv;unfold splice at hv;rcases List.mem_append.1 hv with hv|hv
        .rcases List.mem_append.1 hv with hv|hv
         .exact r3 v (List.mem_of_mem_take hv)
         .exact hbr v hv
        .exact r3 v (List.mem_of_mem_drop hv)
       have hT:∀nm,nm∉aR lx->σ.lk nm=false->fB σ.lk true (ev (get σ.env) x).names nm=false:=fun nm hq hlk=>by
        rw[eP (fun hm=>hq (iM k1 k2 nm hm))];exact hlk
       have hpD:∃q,D p=.ep t off q:=by
        simp only[adO]at ha;split at ha
        .cases ha
        .exact⟨_,ha⟩
       obtain⟨q,hpD⟩:=hpD;obtain⟨hpm,psr,_,pcp⟩:=h.slot hh hpv;have hevp:ev (get σ.env) (.tmp p)=get σ.env p:=aBs (h.noreg (by unfold rty;rw[hpD];rfl));rw[hevp]at r1;obtain⟨W,hW1,hW2⟩:=pcp s o hcp;rw[r1]at hW2;obtain⟨z,n,rfl⟩:=hW2;obtain⟨hsm,ssr,slab,_⟩:=h.slot hh hsv;have hscond:=(kN hsv).2 rfl;have hH:=h.hit (k:=k) (cs':=splice cells ((c e).1.2*t.size+off) (ev (get σ.env) x).bare.cells) hnm;have hsub:∀pr∈(Λ.keep fun s' w=>decide (s'≠s)&&!tB (aR w.ls) (aV la 0).ns).vs,pr∈(Λ.keep fun _ w=>!tB (aR w.ls) (aV la 0).ns).vs:=by
        intro pr hpr;obtain⟨a1,a2⟩:=bZ (s:=pr.1) (v:=pr.2) hpr;simp only[Bool.and_eq_true]at a2;have:∀l:List (Nat×SV),(pr.1,pr.2)∈l->(pr.1,pr.2)∈rT (fun _ w=>!tB (aR w.ls) (aV la 0).ns) l:=by
         intro l
         induction l with
         |nil=>intro hq;cases hq
         |cons b r ih=>
          obtain⟨b1,b2⟩:=b;intro hq;simp only[rT];rcases List.mem_cons.1 hq with hq|hq
          .simp only[Prod.mk.injEq]at hq;rw[<-hq.1,<-hq.2];rw[if_pos a2.2];exact List.mem_cons_self
          .split
           .exact List.mem_cons_of_mem _ (ih hq)
           .exact ih hq
        exact this _ a1
       have hH:=hH.sub hsub
       have hstep : ∀ (xx : (D s).den), cN (get (bY nm k (splice cells ((c e).1.2 * t.size + off) (ev (get σ.env) x).bare.cells) σ.env)) β σ.bx s (D s) xx (get (bY nm k (splice cells ((c e).1.2 * t.size + off) (ev (get σ.env) x).bare.cells) σ.env) s) →
           cD σ.tips σ.lk X.gv (get (bY nm k (splice cells ((c e).1.2*t.size+off) (ev (get σ.env) x).bare.cells) σ.env)) sv.ls (get (bY nm k (splice cells ((c e).1.2*t.size+off) (ev (get σ.env) x).bare.cells) σ.env) s).kids->D s≠.d .bool->(D s).isBox=false->
           ∃β' σ',aU cfv vsg σ t0 none (.store (.e av) sz (.tmp p) x)=some σ'/\RS X D ((((Λ.keep fun s' w=>decide (s'≠s)&&!tB (aR w.ls) (aV la 0).ns).sto s).put s ⟨sv.ls,none⟩).lock (aR lx)) (oM C none []) (e.set s xx) β' σ'/\
            RG ((((Λ.keep fun s' w=>decide (s'≠s)&&!tB (aR w.ls) (aV la 0).ns).sto s).put s ⟨sv.ls,none⟩).lock (aR lx)) t0 mk σ':=by
        intro xx hx1 hx2 hx3 hx4;refine⟨β,{σ with env:=bY nm k (splice cells ((c e).1.2*t.size+off) (ev (get σ.env) x).bare.cells) σ.env,lk:=fB σ.lk true (ev (get σ.env) x).names},?_,(hH.reput (x:=xx) hx3 hx4 hx1 hx2 hscond).lock hT,(hG.lock hT).same rfl rfl rfl rfl⟩;simp only[aU,storeAt,hevp,r1];rw[if_pos ⟨hkT,hlk,hnx,hfit⟩]
       have labK:∀{ls:Ls} {cc:List V},cD σ.tips σ.lk X.gv (get σ.env) ls cc->cD σ.tips σ.lk X.gv (get (bY nm k (splice cells ((c e).1.2*t.size+off) (ev (get σ.env) x).bare.cells) σ.env)) ls cc:=by
        intro ls cc hl i c1 hc1;have:=hl i c1 hc1;have key:∀l,bR σ.tips σ.lk X.gv (get σ.env) (aV ls i) l->bR σ.tips σ.lk X.gv (get (bY nm k (splice cells ((c e).1.2*t.size+off) (ev (get σ.env) x).bare.cells) σ.env)) (aV ls i) l:=fun l hl=>
         ⟨hl.1,hl.2.1,hl.2.2.1,hl.2.2.2.1,hl.2.2.2.2.1,fun s c v hq=>by
          obtain⟨q1,cs,q2⟩:=hl.2.2.2.2.2 s c v hq;exact⟨q1,_,by rw[oW,q2];rfl⟩⟩
        cases c1 with
        |sl l=>exact key l this
        |ep l=>exact key l this
        |_=>trivial
       cases o with
       |none=>
        simp only at ho;split at ho
        .rename_i c' hcc';simp only[OD.out]at ho;cases ho;obtain⟨hDs,_⟩:=eK hcc';obtain⟨hE,_⟩:=hW1;have hsr:∃y:List t.den,gP (.sl t) y (get σ.env s):=by
          have:∀(b:SY) (y:b.den),b=.d (.sl t)->cN (get σ.env) β σ.bx s b y (get σ.env s)->∃y:List t.den,gP (.sl t) y (get σ.env s):=by
           intro b y hb hy;subst hb;exact⟨y,hy⟩
          exact this _ _ hDs.symm ssr
         obtain⟨y,hy⟩:=hsr;rw[hE]at hy slab;rcases eX hy with⟨e1,_⟩|⟨lb1,rs1,e1,e2,e3⟩
         .cases e1
         .cases e1;have hlen2:=eI e2;have hll:List.length y=List.length (c e).1.1:=by
           rw[hlen]at hlen2;exact(Nat.eq_of_mul_eq_mul_right hz hlen2).symm
          have hnew:get (bY nm k (splice cells ((c e).1.2*t.size+off) (ev (get σ.env) x).bare.cells) σ.env) s=.sl (.own nm k) t.size (List.length y) (splice cells ((c e).1.2*t.size+off) (ev (get σ.env) x).bare.cells):=by
           rw[oW,hE];simp[iO,Go.VM.hit,Lab.names]
          have hv:=eO (lb:=.own nm k) hrow hball;rw[List.length_set,<-hll]at hv;refine hstep _ (by rw[hnew];exact bS hcc' (y:=.d (.sl t)) hv) (by rw[hnew];exact iB (labK slab 0 (.sl (.own nm k) _ _ cells) rfl)) (by rw[<-hDs];intro q;cases q) (by rw[<-hDs];rfl)
        .exact(fail_out ho).elim
       |some o1=>
        simp only at ho;split at ho
        .rename_i w hw;split at ho
         .rename_i qq b b' hqq hb hb';simp only[OD.out]at ho;cases ho;have hDs:=nL hw;obtain⟨kc,kn,kcells,hE,hko⟩:=hW1;obtain⟨k4,n4,cells4,hE4,hcw,hls4⟩:=h.regc hh hsv hb;rw[hE]at hE4;cases hE4;obtain⟨gq1,gq2⟩:=dL hqq;have hsl1:(1:Nat)=(Ty.sl t).size:=rfl;have hothn:∀j c1,kcells[j]?=some c1->j≠o1->nm∉c1.names:=by
           intro j c1 hj hjo hm;have h1:=hls4 j c1 hj;have hnmj:nm∈(aV sv.ls j).ns:=by
            rcases kM (bJ hcw c1 (List.mem_of_getElem? hj))with⟨l,z1,n1,cs1,rfl⟩|⟨l,cs1,o2,rfl⟩|h0
            .exact(h1.1 nm hm).1
            .exact(h1.1 nm hm).1
            .rw[h0]at hm;cases hm
           rcases fA (ls:=sv.ls) (i:=j)with e0|e0
           .rw[e0]at hnmj;cases hnmj
           .rw[List.all_eq_true]at hoth;have:=hoth _ e0;simp only[Option.getD_some,Bool.or_eq_true,decide_eq_true_eq,Bool.not_eq_true']at this;rcases this with h2|h2
            .exact hjo h2
            .exact cL h2 _ hnmj hnm
          have hmap:=aEu (cs':=splice cells ((c e).1.2*t.size+off) (ev (get σ.env) x).bare.cells) hko hothn;have holt:=(List.getElem?_eq_some_iff.1 hko).1;have hkoc:=hls4 o1 _ hko;have hn2:(.sl (.own nm k) z n (splice cells ((c e).1.2*t.size+off) (ev (get σ.env) x).bare.cells):V)=.sl (.own nm k) t.size (List.length ((c e).1.1.set (c e).1.2 (pp (c e).2 (f e)))) (splice cells ((c e).1.2*t.size+off) (ev (get σ.env) x).bare.cells):=by
           have:=aGV hcw hko hqq;obtain⟨y,hy⟩:=this;rcases hy with⟨e1,_⟩|⟨lb1,rs1,e1,e2,e3⟩
           .simp at e1
           .simp only[List.cons.injEq,V.sl.injEq,and_true]at e1;obtain⟨e4,e5,e6,e7⟩:=e1;subst e7;have hlen2:=eI e2;have hll:List.length y=List.length (c e).1.1:=by
             rw[hlen]at hlen2;exact(Nat.eq_of_mul_eq_mul_right hz hlen2).symm
            rw[e5,e6,List.length_set,hll]
          have hnewc:bP (.sl t) ((c e).1.1.set (c e).1.2 (pp (c e).2 (f e))) [.sl (.own nm k) z n (splice cells ((c e).1.2*t.size+off) (ev (get σ.env) x).bare.cells)]:=.inr ⟨.own nm k,_,by rw[hn2],hrow,hball⟩;have hput:=gq2 _ _ _ _ hcw hnewc;rw[<-hmap]at hput;have hnew:get (bY nm k (splice cells ((c e).1.2*t.size+off) (ev (get σ.env) x).bare.cells) σ.env) s=.reg kc kn (kcells.map (Go.VM.hit nm k (splice cells ((c e).1.2*t.size+off) (ev (get σ.env) x).bare.cells))):=by
           rw[oW,hE];rfl
          refine hstep _ (by rw[hnew];exact bS hb' (y:=.reg w) ⟨kc,kn,_,rfl,hput⟩) ?_ (by rw[hDs];intro q;cases q) (by rw[hDs];rfl);rw[hnew];intro j c1 hj;have hj:(kcells.map (Go.VM.hit nm k (splice cells ((c e).1.2*t.size+off) (ev (get σ.env) x).bare.cells)))[j]?=some c1:=hj;rw[List.getElem?_map]at hj;obtain⟨c2,hj2,rfl⟩:=Option.map_eq_some_iff.1 hj;have h2:=labK hls4 j c2 hj2;cases c2 with
          |sl l z2 n2 cs2=>
           simp only[Go.VM.hit];split
           .split
            .exact h2
            .trivial
           .exact h2
          |ep l cs2 o2=>
           simp only[Go.VM.hit];split
           .split
            .exact h2
            .trivial
           .exact h2
          |_=>
           simp only[Go.VM.hit];split<;>trivial
         .exact(fail_out ho).elim
        .exact(fail_out ho).elim
      .exact(fail_out ho).elim
     .cases hc
    .cases hc
   .cases hc
  .cases hc
 .cases hc
end
end Go.VM
namespace Go.VM
section
variable{X:Cxt}{D:Nat->SY}{Λ:LS}{C:CC}{e:TE D}{β:Nat->Nat}{σ:St}{t0:Nat->Nat}{mk:List Nat}{sg:Nat->Sg}{cf:NF sg}{cfv:cO}{vsg:Nat->Sig}
theorem aAA{t:Ty}:∀{l:List t.den} {cs:List V},aL (bP t) l cs->aL (bP t) l (cs.map (V.mapLab1 fun _=>.none))
 |[],_,h=>by cases h;rfl
 |x::l,_,⟨c,r,e0,h1,h2⟩=>⟨_,_,by rw[e0,List.map_append],fG h1,aAA h2⟩
theorem aGW{c:V}(h:c.cell):c.bare=V.mapLab1 (fun _=>.none) c:=by
 cases c<;>first|rfl|exact h.elim
theorem aGX{cs:List V}(h:∀c∈cs,c.cell):cs.map V.bare=cs.map (V.mapLab1 fun _=>.none):=List.map_congr_left fun c hc=>aGW (h c hc)
theorem aDQ(h:RS X D Λ C e β σ)(hG:RG Λ t0 mk σ){d:Nat}(hd:d<100000)(hC:bU C (some d)=true)(hreg:aN (get σ.env d)=false){cs:List (Nat×Bool)}(hh:holds e cs)(hcd:∀q∈cs,q.1≠d)(hcl:∀q∈cs,q.1<100000)
  {z n:Nat} (hm:aQ d 0∈mk) {zs:List V} {parts:List (Nat×Nat×Opd)}:Eff X D cf cfv vsg Λ C e β σ t0 mk cs (some d) (.bslice true z n zs parts):=by
 intro Λ' e' hc ho;simp only[cop]at hc;split at hc
 .rename_i t ns ht hns;split at hc
  .rename_i hcond;obtain⟨rfl,hz,hzs,hall⟩:=hcond;cases hc;simp only[dop]at ho;rw[ht]at ho;simp only at ho;split at ho
   .rename_i x0 hx0;split at ho
    .rename_i f hf;obtain⟨y,rfl,hy⟩:=bL ho;obtain⟨q1,q2⟩:=gL hx0;have hb:∀c∈(List.replicate n zs).flatten,aEr [] c:=by
      intro c hc;obtain⟨r,hr,hcr⟩:=List.mem_flatten.1 hc;have:=(List.mem_replicate.1 hr).2;subst this;exact sI (bJ q1 c hcr) (q2 c hcr) _
     obtain⟨c1,k1,k2,k3,k4⟩:=sJ h hh hf hns (dM q1 n) hb (by rw[List.length_replicate];exact hall) hz;rw[List.length_replicate]at k3;rw[List.append_nil]at k4;have hcell:∀c∈c1,c.cell:=fun c hc=>(k4 c hc).1
     have hv2:=eO (lb:=.own (aQ d 0) (t0 (aQ d 0))) (aAA k2) (iL hcell);rw[k3,<-aGX hcell]at hv2;have hT:∀nm,nm∉ns->σ.lk nm=false->fB σ.lk true (aC c1) nm=false:=fun nm hq hlk=>by
      rw[eP (fun hm=>hq (oV k4 nm hm))];exact hlk
     have hG2:=hG.lock hT;have hbox:(D d).isBox=false:=by rw[(dty_some ht).1];rfl
     refine⟨β,{σ with env:=set σ.env d (.sl (.own (aQ d 0) (t0 (aQ d 0))) t.size n (c1.map V.bare)),lk:=fB σ.lk true (aC c1)},?_,(h.lock hT).pure hC hd hcd hcl hbox hreg rfl (fun _=>⟨hy hv2,iB ?_,eB.none⟩) (fun hq=>absurd hh hq),hG2.same rfl rfl rfl rfl⟩
     .simp only[aU,k1];rw[if_pos ⟨hz,by rw[eI k2,k3],by rw[List.all_eq_true];exact fun c hc=>(k4 c hc).2.1⟩]
     .exact aBU (fun hq=>(hG2.dt _ hq).symm) (fun hq=>hG2.ld _ hm hq)
    .exact(fail_out ho).elim
   .exact(fail_out ho).elim
  .cases hc
 .cases hc
theorem aEv(h:RS X D Λ C e β σ){cs:List (Nat×Bool)}(hh:holds e cs){t:Ty}{x:Opd}{b:TE D->List t.den}{lx:Ls}{av:List Nat}(hb:opD D x (.sl t)=some b)(hl:rd D Λ C cs x=some lx)(hav:zK av lx=true) :
  ∃news,jP (get σ.env) av t.size (ev (get σ.env) x)=some ((b e).length,news)/\aL (bP t) (b e) news/\∀c∈news,c.bare0:=by
 obtain⟨k1,k2,_⟩:=h.opD hh hb hl;rcases eX k1 with⟨e1,e2⟩|⟨lb,rs,e1,e2,e3⟩
 .exact⟨[],by rw[e1];simp only[jP,e2];rfl,by rw[e2];rfl,fun c hc=>by cases hc⟩
 .rw[e1]at k2;have hfr:=nM (av:=av) (k2 0 (.sl lb _ _ rs) rfl) (nN hav 0);refine⟨rs,?_,e2,e3⟩;rw[e1];simp only[jP];rw[if_pos ⟨trivial,hfr⟩]
theorem aDR(h:RS X D Λ C e β σ){cs:List (Nat×Bool)}(hh:holds e cs){x:Opd}{b:TE D->List UInt8}{lx:Ls}{av:List Nat}(hb:opS D x=some b)(hl:rd D Λ C cs x=some lx) :
  ∃news,jP (get σ.env) av 1 (ev (get σ.env) x)=some ((iJ (b e)).length,news)/\aL (bP (.int .u8)) (iJ (b e)) news/\∀c∈news,c.bare0:=by
 refine⟨gS (b e),?_,oT _,sF⟩;rw[h.opS hh hb (by rw[hl];rfl)];simp only[jP,if_true,iJ,List.length_map]
theorem aB0(h:RS X D Λ C e β σ)(hG:RG Λ t0 mk σ){d:Nat}(hd:d<100000)(hC:bU C (some d)=true)(hreg:aN (get σ.env d)=false){cs:List (Nat×Bool)}(hh:holds e cs)(hcd:∀q∈cs,q.1≠d)(hcl:∀q∈cs,q.1<100000)
  {t:Ty} (ht:D d=.d (.sl t)) {bytes:Nat} {cut:Bool} {s:Opd} {l:Ls} {a:TE D->List t.den} (ha:opD D s (.sl t)=some a) (hl:rd D Λ C cs s=some l) (hz:0<t.size) {m:List t.den} {news:List V} (hn:aL (bP t) m news) (hnb:∀c∈news,c.bare0)
  {v:List t.den} (hv:aH3 bytes (a e) m=some v) {x:(D d).den} (hx:∀{E:Nat->V} {β:Nat->Nat} {bx:BX} {s:Nat} {w:V},gP (.sl t) v w->cN E β bx s (D d) x w) :
  ((aV l 0).own=true->(aV l 0).tip=true->∃σ',append2 σ d bytes cut t.size (ev (get σ.env) s) m.length news=some σ'/\
   RS X D (((Λ.bump (aQ d 0::(aV l 0).ns)).asg D d).put d ⟨[(0,⟨aQ d 0::(aV l 0).ns,true,true,true,(aV l 0).un,none⟩)],none⟩) (oM C (some d) cs) (e.set d x) β σ'/\
   RG (((Λ.bump (aQ d 0::(aV l 0).ns)).asg D d).put d ⟨[(0,⟨aQ d 0::(aV l 0).ns,true,true,true,(aV l 0).un,none⟩)],none⟩) t0 mk σ')/\
  (cut=true->(aV l 0).pre=true->(aV l 0).tip=true->(aV l 0).un=true->∃σ',append2 σ d bytes cut t.size (ev (get σ.env) s) m.length news=some σ'/\
   RS X D ((((Λ.keep fun _ w=>!tB (aR w.ls) (aV l 0).ns).bump (aQ d 0::(aV l 0).ns)).asg D d).put d ⟨[(0,⟨aQ d 0::(aV l 0).ns,true,true,true,(aV l 0).un,none⟩)],none⟩) (oM C (some d) cs) (e.set d x) β σ'/\
   RG ((((Λ.keep fun _ w=>!tB (aR w.ls) (aV l 0).ns).bump (aQ d 0::(aV l 0).ns)).asg D d).put d ⟨[(0,⟨aQ d 0::(aV l 0).ns,true,true,true,(aV l 0).un,none⟩)],none⟩) t0 mk σ'):=by
 obtain⟨k1,k2,_⟩:=h.opD hh ha hl;unfold aH3 at hv;split at hv
 case isFalse=>cases hv
 rename_i hb;cases hv;have hbox:(D d).isBox=false:=by rw[ht];rfl
 have fresh : ∀ {Λ1 : LS}, RS X D Λ1 C e β σ → RG Λ1 t0 mk σ → a e = [] → ev (get σ.env) s = .nils → ∃ σ', append2 σ d bytes cut t.size (ev (get σ.env) s) m.length news = some σ' ∧
     RS X D (((Λ1.bump (aQ d 0::(aV l 0).ns)).asg D d).put d ⟨[(0,⟨aQ d 0::(aV l 0).ns,true,true,true,(aV l 0).un,none⟩)],none⟩) (oM C (some d) cs) (e.set d x) β σ'/\
     RG (((Λ1.bump (aQ d 0::(aV l 0).ns)).asg D d).put d ⟨[(0,⟨aQ d 0::(aV l 0).ns,true,true,true,(aV l 0).un,none⟩)],none⟩) t0 mk σ':=by
  intro Λ1 h1 hG1 hae hev;rw[hae]at hb hx;simp only[List.length_nil,Nat.zero_add]at hb;rw[hev];by_cases hm0:m.length=0
  .have hm:m=[]:=List.eq_nil_of_length_eq_zero hm0;have hT:∀nm,nm∉aQ d 0::(aV l 0).ns->σ.tips nm=σ.tips nm:=fun _ _=>rfl
   refine⟨{σ with env:=set σ.env d .nils},?_,(h1.bump hT).pure hC hd hcd hcl hbox hreg (w:=.nils) (ls:=[(0,⟨aQ d 0::(aV l 0).ns,true,true,true,(aV l 0).un,none⟩)]) (cp:=none) rfl (fun _=>⟨hx (by rw[hm];exact⟨.inl ⟨rfl,rfl⟩,rfl⟩),sG,eB.none⟩) (fun hq=>absurd hh hq),(hG1.bump hT).same rfl rfl rfl rfl⟩;simp only[append2];rw[if_pos ⟨hb.1,hb.2,hz⟩,if_pos hm0]
  · have hT : ∀ nm, nm ∉ aQ d 0 :: (aV l 0).ns → upd σ.tips (aQ d 0) (σ.tips (aQ d 0) + 1) nm = σ.tips nm := fun nm hq => by
      simp only[List.mem_cons,not_or]at hq;simp only[upd,if_neg hq.1]
    have hL:∀nm,σ.lk nm=false->upd σ.lk (aQ d 0) false nm=false:=fun nm hq=>by
     simp only[upd];split
     .rfl
     .exact hq
    have hvv:=eO (lb:=.own (aQ d 0) (σ.tips (aQ d 0)+1)) hn hnb;refine⟨{σ with env:=set σ.env d (.sl (.own (aQ d 0) (σ.tips (aQ d 0)+1)) t.size m.length news),tips:=upd σ.tips (aQ d 0) (σ.tips (aQ d 0)+1),lk:=upd σ.lk (aQ d 0) false},?_,
     ((h1.bump hT).unlock (lk':=upd σ.lk (aQ d 0) false) hL).pure hC hd hcd hcl hbox hreg (w:=.sl (.own (aQ d 0) (σ.tips (aQ d 0)+1)) t.size m.length news) (ls:=[(0,⟨aQ d 0::(aV l 0).ns,true,true,true,(aV l 0).un,none⟩)]) (cp:=none) rfl (fun _=>⟨hx (by simpa using hvv),iB ?_,eB.none⟩) (fun hq=>absurd hh hq),((hG1.bump hT).unlock hL).same rfl rfl rfl rfl⟩
    .simp only[append2];rw[if_pos ⟨hb.1,hb.2,hz⟩,if_neg hm0]
    .refine⟨fun nm hnm=>?_,fun _ nm k hl=>?_,fun _=>⟨_,_,rfl⟩,fun _=>⟨_,_,.inl rfl⟩,fun i hi=>(by cases hi),fun s c v hi=>(by cases hi)⟩
     .have:nm=aQ d 0:=by simpa[Lab.names]using hnm
      subst this;exact⟨by simp[aV],fun _=>by simp[upd],fun hlt=>by unfold aQ at hlt;omega⟩
     .rcases hl with hl|hl<;>cases hl;simp[upd]
 have more : ∀ {Λ1 : LS} {nm k : Nat} {rs : List V} {en : Env}, RS X D Λ1 C e β { σ with env := en } → RG Λ1 t0 mk σ → aN (get en d) = false → aL (bP t) (a e) rs → (∀ c ∈ rs, c.bare0) → k = σ.tips nm → nm ∈ (aV l 0).ns → ((aV l 0).un = true → σ.lk nm = false) → (nm < 64 → X.gv nm) →
     RS X D (((Λ1.bump (aQ d 0::(aV l 0).ns)).asg D d).put d ⟨[(0,⟨aQ d 0::(aV l 0).ns,true,true,true,(aV l 0).un,none⟩)],none⟩) (oM C (some d) cs) (e.set d x) β {σ with env:=set en d (.sl (.own nm (k+1)) t.size ((a e).length+m.length) (rs++news)),tips:=upd σ.tips nm (k+1)}/\
     RG (((Λ1.bump (aQ d 0::(aV l 0).ns)).asg D d).put d ⟨[(0,⟨aQ d 0::(aV l 0).ns,true,true,true,(aV l 0).un,none⟩)],none⟩) t0 mk {σ with env:=set en d (.sl (.own nm (k+1)) t.size ((a e).length+m.length) (rs++news)),tips:=upd σ.tips nm (k+1)}:=by
  intro Λ1 nm k rs en h1 hG1 hreg1 e2 e3 hk hnm hun hgv;have hT:∀nm',nm'∉aQ d 0::(aV l 0).ns->upd σ.tips nm (k+1) nm'=σ.tips nm':=fun nm' hq=>by
   have:nm'≠nm:=fun e0=>hq (by rw[e0];exact List.mem_cons_of_mem _ hnm)
   simp only[upd,if_neg this]
  have hvv:=eO (lb:=.own nm (k+1)) (mA e2 hn) (fun c hc=>(List.mem_append.1 hc).elim (e3 c) (hnb c));rw[List.length_append]at hvv;refine⟨(h1.bump (σ:={σ with env:=en}) hT).pure hC hd hcd hcl hbox hreg1 (w:=.sl (.own nm (k+1)) t.size ((a e).length+m.length) (rs++news)) (ls:=[(0,⟨aQ d 0::(aV l 0).ns,true,true,true,(aV l 0).un,none⟩)]) (cp:=none) rfl (fun _=>⟨hx hvv,iB ?_,eB.none⟩) (fun hq=>absurd hh hq),(hG1.bump hT).same rfl rfl rfl rfl⟩;refine⟨fun nm' hnm'=>?_,fun _ nm' k' hl=>?_,fun _=>⟨_,_,rfl⟩,fun _=>⟨_,_,.inl rfl⟩,fun i hi=>(by cases hi),fun s c v hi=>(by cases hi)⟩
  .have:nm'=nm:=by simpa[Lab.names]using hnm'
   subst this;exact⟨List.mem_cons_of_mem _ hnm,hun,hgv⟩
  .rcases hl with hl|hl<;>cases hl;simp[upd]
 constructor
 .intro hown htip;rcases eX k1 with⟨e1,e2⟩|⟨lb,rs,e1,e2,e3⟩
  .exact fresh h hG e2 e1
  .rw[e1]at k2;have hlab:bR σ.tips σ.lk X.gv (get σ.env) (aV l 0) lb:=k2 0 (.sl lb _ _ rs) rfl;obtain⟨nm,k,rfl⟩:=hlab.2.2.1 hown;have hkT:=hlab.2.1 htip nm k (.inl rfl);obtain⟨hnm,hun,hgv⟩:=hlab.1 nm (by simp[Lab.names]);obtain⟨r1,r2⟩:=more (en:=σ.env) h hG hreg e2 e3 hkT hnm hun hgv;refine⟨_,?_,r1,r2⟩;rw[e1];simp only[append2];rw[if_pos ⟨trivial,hkT,hb.1,hb.2⟩]
 .intro hcut hpre htip hun0;rcases eX k1 with⟨e1,e2⟩|⟨lb,rs,e1,e2,e3⟩
  .exact fresh h.keep (hG.same rfl rfl rfl rfl) e2 e1
  .rw[e1]at k2;have hlab:bR σ.tips σ.lk X.gv (get σ.env) (aV l 0) lb:=k2 0 (.sl lb _ _ rs) rfl;obtain⟨nm,k,hlb⟩:=hlab.2.2.2.1 hpre;have hkT:=hlab.2.1 htip nm k hlb;obtain⟨hnm,hun,hgv⟩:=hlab.1 nm (by rcases hlb with rfl|rfl<;>simp[Lab.names]);rcases hlb with rfl|rfl
   .obtain⟨r1,r2⟩:=more (en:=σ.env) h.keep (hG.same rfl rfl rfl rfl) hreg e2 e3 hkT hnm hun hgv;refine⟨_,?_,r1,r2⟩;rw[e1];simp only[append2];rw[if_pos ⟨trivial,hkT,hb.1,hb.2⟩]
   .have hH:=h.hit (k:=k+1) (cs':=[]) hnm;have hreg2:aN (get (bY nm (k+1) [] σ.env) d)=false:=by
     rw[oW];cases hq:aN (iO nm (k+1) [] (get σ.env d))with
     |false=>rfl
     |true=>rw[uU hq]at hreg;cases hreg
    obtain⟨r1,r2⟩:=more (en:=bY nm (k+1) [] σ.env) hH (hG.same rfl rfl rfl rfl) hreg2 e2 e3 hkT hnm hun hgv;refine⟨_,?_,r1,r2⟩;rw[e1];simp only[append2];rw[if_pos ⟨hcut,trivial,hkT,hun hun0,hb.1,hb.2⟩]
theorem aDS(h:RS X D Λ C e β σ)(hG:RG Λ t0 mk σ){d:Nat}(hd:d<100000)(hC:bU C (some d)=true)(hreg:aN (get σ.env d)=false){cs:List (Nat×Bool)}(hh:holds e cs)(hcd:∀q∈cs,q.1≠d)(hcl:∀q∈cs,q.1<100000)
  {z bytes:Nat} {cut:Bool} {zs:List V} {s x:Opd} {av:List Nat}:Eff X D cf cfv vsg Λ C e β σ t0 mk cs (some d) (.append z bytes cut zs s x av):=by
 intro Λ' e' hc ho;simp only[cop]at hc;split at hc
 .rename_i t l lx ht hl hlx;split at hc
  .rename_i hcond;obtain⟨rfl,hz,hav⟩:=hcond
   have key : ∃ (a : TE D → List t.den) (m : List t.den) (v : List t.den) (y : (D d).den) (news : List V), opD D s (.sl t) = some a ∧ aH3 bytes (a e) m = some v ∧ e' = e.set d y ∧ (∀ {E : Nat → V} {β : Nat → Nat} {bx : BX} {s : Nat} {w : V}, gP (.sl t) v w → cN E β bx s (D d) y w) ∧
       iS (get σ.env) av t.size zs (ev (get σ.env) x)=some (m.length,news)/\aL (bP t) m news/\∀c∈news,c.bare0:=by
    simp only[dop]at ho;rw[ht]at ho;simp only at ho;split at ho
    .rename_i a ha;cases zs with
     |cons u r=>
      simp only at ho;split at ho
      .rename_i b x0 hb hx0;obtain⟨v,y,h1,rfl,hy⟩:=eL ho;unfold aIa at h1;split at h1
       .cases h1
       .rename_i h0;obtain⟨q1,q2⟩:=gL hx0;refine⟨a,List.replicate (b e).toNat x0,v,y,(List.replicate (b e).toNat (u::r)).flatten,ha,h1,rfl,hy,?_,dM q1 _,fun c hc=>?_⟩
        .rw[h.opI hh hb (by rw[hlx];rfl),List.length_replicate];simp only[iS];rw[if_pos ⟨by omega,aF q1⟩]
        .obtain⟨l,hl1,hl2⟩:=List.mem_flatten.1 hc;rw[(List.mem_replicate.1 hl1).2]at hl2;exact q2 c hl2
      .exact(fail_out ho).elim
     |nil=>
      simp only at ho;split at ho
      .split at ho
       .rename_i b c hb hcc;obtain⟨v,y,h1,rfl,hy⟩:=eL ho;unfold Ty.same at hcc;split at hcc
        .rename_i he;cases he;cases hcc;obtain⟨news,n1,n2,n3⟩:=aDR (av:=av) h hh hb hlx;exact⟨a,iJ (b e),v,y,news,ha,h1,rfl,hy,n1,n2,n3⟩
        .cases hcc
       .exact(fail_out ho).elim
      .split at ho
       .rename_i b hb;obtain⟨v,y,h1,rfl,hy⟩:=eL ho;obtain⟨news,n1,n2,n3⟩:=aEv (av:=av) h hh hb hlx hav;exact⟨a,b e,v,y,news,ha,h1,rfl,hy,n1,n2,n3⟩
       .exact(fail_out ho).elim
    .exact(fail_out ho).elim
   obtain⟨a,m,v,y,news,ha,h1,rfl,hy,n1,n2,n3⟩:=key;obtain⟨r1,r2⟩:=aB0 h hG hd hC hreg hh hcd hcl (dty_some ht).1 (cut:=cut) ha hl hz n2 n3 h1 hy;have hok:news.all V.ok1=true/\news.length=m.length*t.size:=by
    refine⟨?_,eI n2⟩;rw[List.all_eq_true];exact fun c hc=>(sI (rY n2 c hc) (n3 c hc) []).2.1
   have fin : (∃ σ', append2 σ d bytes cut t.size (ev (get σ.env) s) m.length news = some σ' ∧ RS X D Λ' (oM C (some d) cs) (e.set d y) β σ' ∧ RG Λ' t0 mk σ') →
       ∃β' σ',aU cfv vsg σ t0 (some d) (.append t.size bytes cut zs s x av)=some σ'/\RS X D Λ' (oM C (some d) cs) (e.set d y) β' σ'/\RG Λ' t0 mk σ':=fun⟨σ',q1,q2,q3⟩=>by
    refine⟨β,σ',?_,q2,q3⟩;simp only[aU,n1];rw[if_pos hok];exact q1
   split at hc
   .rename_i hk;cases hc;simp only[Bool.and_eq_true]at hk;exact fin (r1 hk.1 hk.2)
   .split at hc
    .rename_i hk;cases hc;simp only[Bool.and_eq_true]at hk;exact fin (r2 hk.1.1.1 hk.1.1.2 hk.1.2 hk.2)
    .cases hc
  .cases hc
 .cases hc
end
end Go.VM
namespace Go.VM
def aAB(cons:List Nat)(bx:BX):(ps:List PK)->Nat->(Ty.row (ps.map PK.ty)).den->List V->Prop
 |[],_,_,vs=>vs=[]
 |.d t::r,i,x,vs=>∃v vs',vs=v::vs'/\gP t (dT t (r.map PK.ty) x) v/\((∀c∈v.cells,c.bare0)\/(cons.contains i=true/\∃z n cs,v=.sl (.own i 0) z n cs))/\(cons.contains i=true->∀l z n cs,v=.sl l z n cs->l=.own i 0)/\aAB cons bx r (i+1) (eA t (r.map PK.ty) x) vs'
 |.p t::r,i,x,vs=>∃b cells vs',vs=.bp b 0::vs'/\bx[b]?=some cells/\bP t (dT t (r.map PK.ty) x) cells/\(∀c∈cells,c.bare0)/\aAB cons bx r (i+1) (eA t (r.map PK.ty) x) vs'
def gN:List PK->List V->List Nat
 |.p _::r,.bp b _::vs=>b::gN r vs
 |.p _::r,_::vs=>gN r vs
 |.d _::r,_::vs=>gN r vs
 |_,_=>[]
def aEw(bx:BX):(ps:List PK)->(Ty.row (bD ps)).den->List V->Prop
 |[],_,_=>True
 |.d _::r,x,vs=>aEw bx r x vs.tail
 |.p t::r,x,vs=>(∃b cells,vs.head?=some (.bp b 0)/\bx[b]?=some cells/\bP t (dT t (bD r) x) cells/\∀c∈cells,c.bare0)/\aEw bx r (eA t (bD r) x) vs.tail
def aHg(cons:List Nat)(vs:List V)(n:Nat)(cl:List (Nat×Bool))(i:Nat):V->Prop
 | .sl l _ _ _ => (l = .none ∨ (∃ j f, l = .own j f ∧ j < n) ∨ ∃ j k z m cs, l = .arg j ∧ cons.contains j = true ∧ vs[j]? = some (.sl (.own j k) z m cs)) ∧
     ∀b,dU cl i=some b->l≠.none/\(b=true->∃j,l=.own j 0)
 |_=>True
def aB1(cons:List Nat)(vs:List V)(n:Nat):List (Ty×List (Nat×Bool))->List V->Prop
 |[],_=>True
 |(_,cl)::r,rs=>∃v rs',rs=v::rs'/\(∀i c,v.cells[i]?=some c->aHg cons vs n cl i c)/\aB1 cons vs n r rs'
def aEx(rs:List V):Prop:=∀c∈rs.flatMap V.cells,∀c'∈rs.flatMap V.cells,∀j f f' z m cs z' m' cs',c=.sl (.own j f) z m cs->c'=.sl (.own j f') z' m' cs'->f=f'
def wZ(s:Sg)(cons:List Nat)(c:List V->BX->Option (V×BX))(g:s.a.den->Option s.r.den):Prop:=
 ∀x r,g x=some r->∀vs bx,aAB cons bx s.ps 0 x vs->(gN s.ps vs).Nodup->bX bx=true->
  ∃w bx',c vs bx=some (w,bx')/\aEw bx' s.ps (pI s.vts (bD s.ps) r) vs/\(∀i,i<bx.length->i∉gN s.ps vs->bx'[i]?=bx[i]?)/\bx.length<=bx'.length/\bX bx'=true/\
   ((∀v∈w.results,aN v=false)/\w=packed w.results)/\
   (s.nb=none->iQ s.vts (eR s.vts (bD s.ps) r) w.results/\aB1 cons vs (gQ s.rs) s.rs w.results/\aEx w.results/\bx'.length=bx.length)/\
   (∀t,s.nb=some t->∃b cells,w=.bp b 0/\bx.length<=b/\bx'[b]?=some cells/\bP (Ty.row s.vts) (eR s.vts (bD s.ps) r) cells/\∀c∈cells,c.bare0)
def aF7{sg:Nat->Sg}(vsg:Nat->Sig)(cfv:cO)(f:Nat)(g:(sg f).a.den->Option (sg f).r.den):Prop:=wZ (sg f) (vsg f).cons (cfv f) g
section
variable{X:Cxt}{D:Nat->SY}{Λ:LS}{C:CC}{e:TE D}{β:Nat->Nat}{σ:St}
theorem cM{t:Ty}{r:List Ty}{a:t.den}{b:(Ty.row r).den}:dT t r (aP t r a b)=a:=by cases r<;>rfl
theorem cF{t:Ty}{r:List Ty}{a:t.den}{b:(Ty.row r).den}:eA t r (aP t r a b)=b:=by cases r<;>rfl
structure ArgsOk(X:Cxt)(σ:St)(cons:List Nat)(i:Nat)(vs:List V)(ls:List Ls)(U:List Nat):Prop where
 ok:vs.all (tC (get σ.env) [])=true/\∀av,vs.all (tC (get σ.env) av)=true
 owns:eC σ.tips cons i vs=true
 used:∀nm∈aD cons i vs,nm∈U
 nodup:(aD cons i vs).Nodup
 nms:∀nm∈aC vs,nm∈ls.flatMap aR
 gv:∀(j:Nat) nm k z n cs,vs[j]?=some (.sl (.own nm k) z n cs)->nm<64->X.gv nm
 nrv:vs.any aD5=false
theorem aAC{cons:List Nat}{i:Nat}{v:V}(h:∀nm k z n cs,v=.sl (.own nm k) z n cs->cons.contains i=false){t:Ty}{x:t.den}(hv:gP t x v):gP t x (cZ cons i v)/\∀c∈(cZ cons i v).cells,c.bare0:=by
 have hb:gP t x v.bare/\∀c∈v.bare.cells,c.bare0:=by
  refine⟨⟨by rw[bare_cells];exact fG hv.1,?_⟩,by rw[bare_cells];exact iL (aG hv).2.1⟩;rw[<-hv.2];cases v<;>rfl
 cases v with
 |sl l z n cs=>
  cases l with
  |own nm k=>
   have:=h nm k z n cs rfl;unfold cZ;rw[this];exact hb
  |_=>exact hb
 |_=>exact hb
theorem sM{E:Nat->V}{av:List Nat}{v:V}(h:v.ok=true):tC E av v=true:=by
 cases v with
 |sl l z n cs=>
  cases l with
  |rv=>cases h
  |_=>exact h
 |_=>exact h
theorem aIm{v:V}(h:v.ok=true):aD5 v=false:=by
 cases v with
 |sl l z n cs=>
  cases l with
  |rv=>cases h
  |_=>rfl
 |_=>rfl
theorem aHh{cons:List Nat}{i z n:Nat}{v:V}{l:Lab}{cs:List V}(h:cZ cons i v=.sl l z n cs):∃l z n cs,v=.sl l z n cs:=by
 cases v with
 |sl l z n cs=>exact⟨_,_,_,_,rfl⟩
 |_=>simp[cZ,V.bare,V.mapLab,V.mapLab1]at h
theorem bR.owned{T:Nat->Nat}{lk:Nat->Bool}{gv:Nat->Prop}{E:Nat->V}{al:AL}{l:Lab}(h:bR T lk gv E al l)(ho:al.own=true):∃nm k,l=.own nm k:=h.2.2.1 ho
theorem xA(h:RS X D Λ C e β σ){cs:List (Nat×Bool)}(hh:holds e cs){cons:List Nat}:∀{ps:List PK} {xs:List Opd} {i:Nat} {a:TE D->(Ty.row (ps.map PK.ty)).den} {ls:List Ls} {bs U:List Nat},zI D ps xs=some a->rU D Λ C cs ps xs=some (ls,bs)->aE3 ls xs cons i=some U->
  aAB cons σ.bx ps i (a e) (aI cons i (xs.map (ev (get σ.env))))/\ArgsOk X σ cons i (xs.map (ev (get σ.env))) ls U/\gN ps (aI cons i (xs.map (ev (get σ.env))))=bs.map β/\(∀b∈bs,∃sv,rdS Λ C cs b=some sv/\(D b).isBox=true)/\bs.Nodup
 |[],[],i,a,ls,bs,U,ha,hl,hu=>by
  cases ha;cases hl;cases hu;exact⟨rfl,⟨⟨rfl,fun _=>rfl⟩,rfl,fun nm hm=>(by cases hm),List.nodup_nil,fun nm hm=>(by cases hm),fun j nm k z n cs hj=>(by cases hj),rfl⟩,rfl,fun b hb=>(by cases hb),List.nodup_nil⟩
 |.d t::r,x::xs,i,a,ls,bs,U,ha,hl,hu=>by
  simp only[zI]at ha;split at ha
  .rename_i f g hf hg;cases ha;simp only[rU]at hl;split at hl
   .rename_i l ls' bs' hlx hrest;split at hl
    .rename_i hno;cases hl;simp only[aE3]at hu;split at hu
     .rename_i U' hU';obtain⟨k1,k2,_⟩:=h.opD hh hf hlx;have hok:=eZ k1 k2 hno;obtain⟨r1,r2,r3,r4,r5⟩:=xA h hh hg hrest hU';have hnm:=iM k1 k2;have hgv:∀nm k z n cs,ev (get σ.env) x=.sl (.own nm k) z n cs->(nm∈(aV l 0).ns/\(nm<64->X.gv nm)/\((aV l 0).tip=true->k=σ.tips nm)):=by
       intro nm k z n cs hx;rw[hx]at k2;have hlab:bR σ.tips σ.lk X.gv (get σ.env) (aV l 0) (.own nm k):=k2 0 (.sl (.own nm k) z n cs) rfl;exact⟨(hlab.1 nm (by simp[Lab.names])).1,(hlab.1 nm (by simp[Lab.names])).2.2,fun ht=>hlab.2.1 ht nm k (.inl rfl)⟩
      have common:∀{U0:List Nat} (hused:∀nm∈dA cons i (ev (get σ.env) x),nm∈U0) (hU0:∀nm∈U',nm∈U0) (hown:jO σ.tips cons i (ev (get σ.env) x)=true) (hnd:∀nm∈dA cons i (ev (get σ.env) x),nm∉U') ,ArgsOk X σ cons i ((x::xs).map (ev (get σ.env))) (l::ls') U0:=by
       intro U0 hused hU0 hown hnd;refine⟨⟨?_,fun av=>?_⟩,?_,fun nm hm=>?_,?_,fun nm hm=>?_,fun j nm k z n cs hj=>?_,?_⟩
       .simp only[List.map_cons,List.all_cons,sM hok,r2.ok.1,Bool.and_self]
       .simp only[List.map_cons,List.all_cons,sM hok,r2.ok.2 av,Bool.and_self]
       .simp only[List.map_cons,eC,hown,r2.owns,Bool.and_self]
       .simp only[List.map_cons,aD,List.mem_append]at hm;exact hm.elim (hused nm) fun hm=>hU0 nm (r2.used nm hm)
       .simp only[List.map_cons,aD];rw[List.nodup_append];refine⟨?_,r2.nodup,fun a ha b hb hab=>hnd a ha (by rw[hab];exact r2.used b hb)⟩;cases hv:ev (get σ.env) x with
        |sl lb z n cs=>cases lb<;>simp only[dA]<;>first|exact List.nodup_nil|(split<;>simp)
        |_=>exact List.nodup_nil
       .simp only[List.map_cons,aC,List.mem_append]at hm;rw[List.flatMap_cons,List.mem_append];exact hm.elim (fun hm=>.inl (hnm nm hm)) fun hm=>.inr (r2.nms nm hm)
       .cases j with
        |zero=>
         simp only[List.map_cons,List.getElem?_cons_zero,Option.some.injEq]at hj;exact(hgv nm k z n cs hj).2.1
        |succ j=>
         simp only[List.map_cons,List.getElem?_cons_succ]at hj;exact r2.gv j nm k z n cs hj
       .simp only[List.map_cons,List.any_cons,aIm hok,r2.nrv,Bool.or_self]
      have harel : ∀ (w : V), cZ cons i (ev (get σ.env) x) = w → gP t (f e) w → ((∀ c ∈ w.cells, c.bare0) ∨ (cons.contains i = true ∧ ∃ z n cs, w = .sl (.own i 0) z n cs)) → (cons.contains i = true → ∀ l z n cs, w = .sl l z n cs → l = .own i 0) →
          aAB cons σ.bx (.d t::r) i (aP t (r.map PK.ty) (f e) (g e)) (aI cons i ((x::xs).map (ev (get σ.env)))):=by
       intro w hw hv hb h3;exact⟨w,aI cons (i+1) (xs.map (ev (get σ.env))),by simp only[List.map_cons,aI,hw],by rw[cM];exact hv,hb,h3,by rw[cF];exact r1⟩
      have hbps:gN (.d t::r) (aI cons i ((x::xs).map (ev (get σ.env))))=bs.map β:=r3;have plain:(∀nm k z n cs,ev (get σ.env) x=.sl (.own nm k) z n cs->cons.contains i=false)->(cons.contains i=true->∀l z n cs,ev (get σ.env) x≠.sl l z n cs)->∀{U0:List Nat},(∀nm∈U',nm∈U0)->aAB cons σ.bx (.d t::r) i (aP t (r.map PK.ty) (f e) (g e)) (aI cons i ((x::xs).map (ev (get σ.env))))/\ArgsOk X σ cons i ((x::xs).map (ev (get σ.env))) (l::ls') U0:=by
       intro hq hq3 U0 hU0;obtain⟨b1,b2⟩:=aAC hq k1;have hun:dA cons i (ev (get σ.env) x)=[]:=by
        cases hv:ev (get σ.env) x with
        |sl lb z n cs=>
         cases lb with
         |own nm k=>simp only[dA];rw[hq nm k z n cs hv];rfl
         |_=>rfl
        |_=>rfl
       refine⟨harel _ rfl b1 (.inl b2) (fun hci l z n cs hx=>absurd (aHh hx) (fun⟨l',z',n',cs',h⟩=>hq3 hci l' z' n' cs' h)),common (fun nm hm=>by rw[hun]at hm;cases hm) hU0 ?_ (fun nm hm=>by rw[hun]at hm;cases hm)⟩;cases hv:ev (get σ.env) x with
       |sl lb z n cs=>
        cases lb with
        |own nm k=>simp only[jO];rw[hq nm k z n cs hv];rfl
        |_=>rfl
       |_=>rfl
      split at hu
      .rename_i hci;cases x with
       |const v=>
        cases v with
        |nils=>
         simp only at hu;cases hu;obtain⟨q1,q2⟩:=plain (fun nm k z n cs hx=>(by cases hx)) (fun _ l z n cs hx=>by cases hx) (U0:=U) (fun nm hm=>hm);exact⟨q1,q2,hbps,r4,r5⟩
        |_=>cases hu
       |tmp s=>
        simp only at hu;split at hu
        .rename_i hk;cases hu;simp only[Bool.and_eq_true,Bool.not_eq_true']at hk;obtain⟨⟨hown,htip⟩,hdis⟩:=hk;cases hv:ev (get σ.env) (.tmp s)with
         |sl lb z n cs=>
          cases lb with
          |own nm k=>
           obtain⟨g1,g2,g3⟩:=hgv nm k z n cs hv;have hkT:=g3 htip;refine⟨harel (.sl (.own i 0) z n cs) (by rw[hv];simp only[cZ];rw[if_pos hci]) ?_ (.inr ⟨hci,z,n,cs,rfl⟩) (fun _ l' z' n' cs' he=>by cases he;rfl),common (fun nm' hm=>?_) (fun nm' hm=>List.mem_append_right _ hm) ?_ (fun nm' hm=>?_),hbps,r4,r5⟩
           .rw[hv]at k1;obtain⟨v1,v2⟩:=k1;refine⟨?_,v2⟩;have hcells:(V.sl (.own nm k) z n cs).cells.map (V.mapLab1 fun _=>.own i 0)=(V.sl (.own i 0) z n cs).cells:=rfl;have gen:∀{t:Ty} {x:t.den} {c:List V},bP t x c->bP t x (c.map (V.mapLab1 fun _=>.own i 0)):=by
             intro t
             induction t with
             |unit=>intro x c h;cases h;rfl
             |bool=>intro x c h;cases h;rfl
             |int k=>intro x c h;cases h;rfl
             |str=>intro x c h;cases h;rfl
             |fn f=>intro x c h;cases h;rfl
             |err=>
              intro x c h;rcases h with⟨rfl,h2⟩|⟨t,v,rfl,h2⟩
              .exact .inl ⟨rfl,h2⟩
              .exact .inr ⟨t,v,rfl,h2⟩
             |sl t ih=>
              intro x c h;rcases h with⟨rfl,h2⟩|⟨lb,rs,rfl,h2⟩
              .exact .inl ⟨rfl,h2⟩
              .exact .inr ⟨.own i 0,rs,rfl,h2⟩
             |st t ih=>intro x c h;exact ih (x:=x) h
             |pair a b iha ihb=>
              intro x c h;obtain⟨c1,c2,rfl,h1,h2⟩:=h;exact⟨_,_,List.map_append,iha h1,ihb h2⟩
             |av k n=>intro x c ⟨h1,h2⟩;exact⟨h1,by rw[h2,List.map_map];rfl⟩
            rw[<-hcells];exact gen v1
           .rw[hv]at hm;simp only[dA,hci,if_true,List.mem_singleton]at hm;subst hm;exact List.mem_append_left _ g1
           .rw[hv];simp only[jO,hkT,beq_self_eq_true,Bool.or_true]
           .rw[hv]at hm;simp only[dA,hci,if_true,List.mem_singleton]at hm;subst hm;exact cL hdis _ g1
          |_=>
           obtain⟨nm0,k0,he0⟩:=bR.owned (by rw[hv]at k2;exact k2 0 _ rfl) hown;cases he0
         |_=>
          obtain⟨q1,q2⟩:=plain (fun nm k z n cs hx=>by rw[hv]at hx;cases hx) (fun _ l z n cs hx=>by rw[hv]at hx;cases hx) (U0:=(aV l 0).ns++U') (fun nm hm=>List.mem_append_right _ hm);exact⟨q1,q2,hbps,r4,r5⟩
        .cases hu
      .rename_i hci;cases hu;obtain⟨q1,q2⟩:=plain (fun nm k z n cs _=>by simpa using hci) (fun h=>absurd h hci) (U0:=U) (fun nm hm=>hm);exact⟨q1,q2,hbps,r4,r5⟩
     .cases hu
    .cases hl
   .cases hl
  .cases ha
 |.p t::r,x::xs,i,a,ls,bs,U,ha,hl,hu=>by
  simp only[zI]at ha;split at ha
  .rename_i b hadb;split at ha
   .rename_i f g hf hg;cases ha;simp only[rU]at hl;split at hl
    .rename_i lx b' ls' bs' hlx hadb' hrest;rw[hadb]at hadb';cases hadb';split at hl
     .rename_i sv hsv;split at hl
      .cases hl
      .rename_i hnotin;cases hl;simp only[aE3]at hu;split at hu
       .rename_i U' hU';obtain⟨yy,k1,_,_⟩:=h.ad hh hadb rfl hlx 0;have k1:ev (get σ.env) x=.bp (β b) 0:=k1;have hU:U=U':=by
         split at hu
         .split at hu
          .cases hu;rfl
          .cases hu
          .split at hu
           .rename_i hk;simp[aV,AL.z]at hk
           .cases hu
         .cases hu;rfl
        subst hU;obtain⟨r1,r2,r3,r4,r5⟩:=xA h hh hg hrest hU';obtain⟨cells,q1,q2,q3⟩:=h.boxc hh hsv hf;have hbox:(D b).isBox=true:=by
         obtain⟨hDb,_⟩:=eK hf;rw[hDb];rfl
        refine⟨⟨β b,cells,aI cons (i+1) (xs.map (ev (get σ.env))),?_,q1,by rw[cM];exact q2,q3,by rw[cF];exact r1⟩,⟨⟨?_,fun av=>?_⟩,?_,fun nm hm=>?_,?_,fun nm hm=>?_,fun j nm k z n cs hj=>?_,?_⟩,?_,fun b1 hb1=>?_,?_⟩
        .simp only[List.map_cons,aI,k1];rfl
        .simp only[List.map_cons,List.all_cons,k1,r2.ok.1,Bool.and_true];rfl
        .simp only[List.map_cons,List.all_cons,k1,r2.ok.2 av,Bool.and_true];rfl
        .simp only[List.map_cons,eC,k1,r2.owns,Bool.and_true];rfl
        .simp only[List.map_cons,aD,k1]at hm;exact r2.used nm hm
        .simp only[List.map_cons,aD,k1];exact r2.nodup
        .simp only[List.map_cons,aC,k1,V.names,List.nil_append]at hm;rw[List.flatMap_cons];exact List.mem_append_right _ (r2.nms nm hm)
        .cases j with
         |zero=>
          simp only[List.map_cons,List.getElem?_cons_zero,Option.some.injEq]at hj;rw[k1]at hj;cases hj
         |succ j=>
          simp only[List.map_cons,List.getElem?_cons_succ]at hj;exact r2.gv j nm k z n cs hj
        .simp only[List.map_cons,List.any_cons,k1,r2.nrv,Bool.or_false];rfl
        .simp only[List.map_cons,aI,k1];show β b::gN r (aI cons (i+1) (xs.map (ev (get σ.env))))=_;rw[r3]
        .rcases List.mem_cons.1 hb1 with rfl|hb1
         .exact⟨sv,hsv,hbox⟩
         .exact r4 b1 hb1
        .exact List.nodup_cons.2 ⟨by simpa using hnotin,r5⟩
       .cases hu
     .cases hl
    .cases hl
   .cases ha
  .cases ha
 |[],_::_,_,_,_,_,_,ha,_,_=>by cases ha
 |.d _::_,[],_,_,_,_,_,ha,_,_=>by cases ha
 |.p _::_,[],_,_,_,_,_,ha,_,_=>by cases ha
end
end Go.VM
