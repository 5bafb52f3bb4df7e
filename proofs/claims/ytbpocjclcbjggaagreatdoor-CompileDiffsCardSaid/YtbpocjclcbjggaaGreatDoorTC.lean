/- Calls: what is handed back. -/
import Derived.Test.YtbpocjclcbjggaaGreatDoorTB
namespace Go.VM
section
variable{X:Cxt}{D:Nat->SY}{Λ:LS}{C:CC}{e:TE D}{β:Nat->Nat}{σ:St}
theorem RS.adopt(h:RS X D Λ C e β σ){d:Nat}{x:(D (aH d)).den}{cells:List V}{bi:Nat}(hbi:σ.bx[bi]?=some cells)(hfr:∀s sv,(D s).isBox=true->(s,sv)∈Λ.vs->β s≠bi)(hn0:X.n0<=bi)(hd:d<100000)(hC:bU C (some d)=true)(hD:D d=.ptr (aH d) 0)(hreg:aN (get σ.env d)=false)(hcond:bW C d=[])
  (hx:∀{E:Nat->V} {β:Nat->Nat} {bx:BX},bx[β (aH d)]?=some cells->cN E β bx (aH d) (D (aH d)) x .undef) (hb:(D (aH d)).isBox=true) :
  RS X D ((((Λ.asg D d).asg D (aH d)).put (aH d) ⟨[],none⟩).put d ⟨[],none⟩) C (e.set (aH d) x) (upd β (aH d) bi) {σ with env:=set σ.env d (.bp bi 0)}:=by
 have hE:get (set σ.env d (.bp bi 0))=upd (get σ.env) d (.bp bi 0):=bG _ _ _;have hbd:aH d≠d:=by unfold aH;omega
 have hbs:100000<=aH d:=by unfold aH;omega
 have hcb:∀s,∀q∈bW C s,q.1≠aH d:=by
  intro s q hq;rcases eW (C:=C) (s:=s)with e0|e0
  .rw[e0]at hq;cases hq
  .have:=(h.cc _ e0).2 q hq;omega
 have hch:∀s,100000<=s->bW C s=[]:=by
  intro s hs;rcases eW (C:=C) (s:=s)with e0|e0
  .exact e0
  .have:=(h.cc _ e0).1;simp only at this;omega
 have hmem : ∀ s sv, (s, sv) ∈ ((((Λ.asg D d).asg D (aH d)).put (aH d) ⟨[], none⟩).put d ⟨[], none⟩).vs → (s = d ∧ sv = ⟨[], none⟩) ∨ (s = aH d ∧ sv = ⟨[], none⟩) ∨
     ∃u,(s,u)∈Λ.vs/\s≠d/\s≠aH d/\(D s).refs d=false/\(D s).refs (aH d)=false/\tP d u.ls=false/\sv.ls=u.ls/\∀r o,sv.cp=some (r,o)->u.cp=some (r,o)/\r≠d:=by
  intro s sv hs;rcases List.mem_cons.1 hs with hs|hs
  .cases hs;exact .inl ⟨rfl,rfl⟩
  rcases List.mem_cons.1 hs with hs|hs
  .cases hs;exact .inr (.inl ⟨rfl,rfl⟩)
  obtain⟨u1,h1,rfl,k1,k2,k3⟩:=eJ hs;obtain⟨u,h2,rfl,k4,k5,k6⟩:=eJ h1;refine .inr (.inr ⟨u,h2,k4,k1,k5,k2,k6,by rw[jF,jF],fun r o hc=>?_⟩);have:=eV hc;exact eV this.1
 refine⟨fun s sv hs hh=>?_,fun s sv hs hh=>?_,fun s hs=>?_,fun s hs=>?_,?_,fun b sv hb' hs=>?_,fun b sv b' sv' hb1 hs hb2 hs'=>?_,h.cc,?_⟩
 .simp only[hE];rw[fF (hcb s)]at hh;rcases hmem s sv hs with⟨rfl,rfl⟩|⟨rfl,rfl⟩|⟨u,h1,k1,k2,k3,k4,k5,k6,k7⟩
  .have hv:upd (get σ.env) s (.bp bi 0) s=.bp bi 0:=by simp[upd]
   rw[hv];refine⟨?_,dY fun c hc=>?_,eB.none⟩
   .have:=srel_ptr (E:=upd (get σ.env) s (.bp bi 0)) (β:=upd β (aH s) bi) (bx:=σ.bx) (s0:=s) hD (TE.set e (aH s) x s);simpa[upd]using this
   .have:c=.bp bi 0:=by simpa[V.kids]using hc
    subst this;trivial
  · have hv : upd (get σ.env) d (.bp bi 0) (aH d) = .undef := by
      simp only[upd,if_neg hbd];exact h.hi _ hbs
    rw[hv,TE.set_eq];refine⟨hx (by simp only[upd,if_true];exact hbi),dY fun c hc=>?_,eB.none⟩;have:c=.undef:=by simpa[V.kids]using hc
    subst this;trivial
  .obtain⟨q1,q2,q3⟩:=h.yes s u h1 hh;have hv:upd (get σ.env) d (.bp bi 0) s=get σ.env s:=by simp only[upd,if_neg k1]
   rw[hv,TE.set_ne (Ne.symm k2)];refine⟨?_,?_,q3.congr' fun r o hc=>⟨(k7 r o hc).1,by simp only[upd,if_neg (k7 r o hc).2]⟩⟩
   · have q1' : cN (upd (get σ.env) d (.bp bi 0)) β σ.bx s (D s) (e s) (get σ.env s) := q1.congr fun s' hr => by
       have:s'≠d:=fun e0=>by rw[e0]at hr;rw[hr]at k3;cases k3
       simp only[upd,if_neg this]
     have key:∀(y:SY) (z:y.den),D s=y->cN (upd (get σ.env) d (.bp bi 0)) β σ.bx s y z (get σ.env s)->cN (upd (get σ.env) d (.bp bi 0)) (upd β (aH d) bi) (σ.bx) s y z (get σ.env s):=by
      intro y z hy hz;cases y with
      |box t=>
       obtain⟨z0,cs,z1,z2⟩:=hz;exact⟨z0,cs,by simp only[upd,if_neg k2];exact z1,z2⟩
      |ptr b off=>
       have hne:b≠aH d:=fun e0=>by rw[hy,e0]at k4;simp[SY.refs]at k4
       have hz:get σ.env s=.bp (β b) off:=hz;show get σ.env s=.bp (upd β (aH d) bi b) off;simp only[upd,if_neg hne];exact hz
      |clo f bs=>
       have hz:get σ.env s=.fn (.func f) [] (bs.map fun b=>.bp (β b) 0):=hz;show get σ.env s=.fn (.func f) [] (bs.map fun b=>.bp (upd β (aH d) bi b) 0);rw[hz];congr 1;refine List.map_congr_left fun b hb=>?_
       have hne:b≠aH d:=fun e0=>by rw[hy]at k4;simp[SY.refs]at k4;exact k4 (e0▸hb)
       simp only[upd,if_neg hne]
      |_=>exact hz
     exact key _ _ rfl q1'
   .rw[k6];exact q2.env fun s' i hi=>by
     have:s'≠d:=fun e0=>nG k5 i (by rw[hi,e0])
     simp only[upd,if_neg this]
 .simp only[hE];rw[fF (hcb s)]at hh;rcases hmem s sv hs with⟨rfl,rfl⟩|⟨rfl,rfl⟩|⟨u,h1,k1,k2,k3,k4,k5,k6,k7⟩
  .rw[hcond]at hh;exact absurd (fun s w hs=>by cases hs) hh
  .rw[hch _ hbs]at hh;exact absurd (fun s w hs=>by cases hs) hh
  .simp only[upd,if_neg k1];exact h.no s u h1 hh
 .simp only[hE,upd]at hs;split at hs
  .cases hs
  .exact h.rg s hs
 .simp only[hE,upd];rw[if_neg (by omega)];exact h.hi s hs
 .exact h.nb
 .rcases hmem b sv hs with⟨rfl,rfl⟩|⟨rfl,rfl⟩|⟨u,h1,k1,k2,k3,k4,k5,k6,k7⟩
  .rw[hD]at hb';cases hb'
  .simp only[upd,if_true];exact⟨(List.getElem?_eq_some_iff.1 hbi).1,.inr ⟨by unfold aH;omega,hn0⟩⟩
  .simp only[upd,if_neg k2];exact h.b1 b u hb' h1
 .intro hbe;rcases hmem b sv hs with⟨rfl,rfl⟩|⟨rfl,rfl⟩|⟨u,h1,k1,k2,k3,k4,k5,k6,k7⟩
  .rw[hD]at hb1;cases hb1
  .rcases hmem b' sv' hs' with⟨rfl,rfl⟩|⟨rfl,rfl⟩|⟨u',h1',k1',k2',_⟩
   .rw[hD]at hb2;cases hb2
   .rfl
   .simp only[upd,if_true,if_neg k2']at hbe;exact absurd hbe.symm (hfr b' u' hb2 h1')
  .rcases hmem b' sv' hs' with⟨rfl,rfl⟩|⟨rfl,rfl⟩|⟨u',h1',k1',k2',_⟩
   .rw[hD]at hb2;cases hb2
   .simp only[upd,if_true,if_neg k2]at hbe;exact absurd hbe (hfr b u hb1 h1)
   .simp only[upd,if_neg k2,if_neg k2']at hbe;exact h.b2 b u b' u' hb1 h1 hb2 h1' hbe
 .exact h.b3
theorem aBy{e':TE D}{s:Nat}{w:Bool}(h:e' s=e s\/(D s).isBox=true):pP e' s w=pP e s w:=by
 rcases h with h|h
 .unfold pP;rw[h]
 · have : ∀ (y : SY) (a b : y.den), y.isBox = true → SY.asB y a = SY.asB y b := by
     intro y a b hy;cases y with
     |box=>rfl
     |_=>cases hy
   unfold pP;cases w<;>simp only[this (D s) _ (e s) h]
theorem RS.newbx(h:RS X D Λ C e β σ){e':TE D}{bx':BX}{bs:List Nat}(he:∀s,s∉bs->e' s=e s)(hb:∀b∈bs,(∃sv,(b,sv)∈Λ.vs)/\(D b).isBox=true/\cN (get σ.env) β bx' b (D b) (e' b) .undef)
  (hf:∀i,i<σ.bx.length->i∉bs.map β->bx'[i]?=σ.bx[i]?) (hl:σ.bx.length<=bx'.length) (hn:bX bx'=true):RS X D Λ C e' β {σ with bx:=bx'}:=by
 have hho:∀c,holds e' c↔holds e c:=by
  intro c;have key:∀s w,pP e' s w=pP e s w:=fun s w=>aBy (by
   by_cases hs:s∈bs
   .exact .inr (hb s hs).2.1
   .exact .inl (he s hs))
  unfold holds;constructor
  .intro hh s w hs;rw[<-key];exact hh s w hs
  .intro hh s w hs;rw[key];exact hh s w hs
 refine⟨fun s sv hs hh=>?_,fun s sv hs hh=>?_,h.rg,h.hi,hn,fun b sv hb' hs=>?_,h.b2,h.cc,?_⟩
 .rw[hho]at hh;obtain⟨k1,k2,k3⟩:=h.yes s sv hs hh;refine⟨?_,k2,k3⟩;by_cases hsb:s∈bs
  · have hu : get σ.env s = .undef := by
      have:∀(y:SY) (z:y.den) (v:V),y.isBox=true->cN (get σ.env) β σ.bx s y z v->v=.undef:=by
       intro y z v hy hz;cases y with
       |box=>exact hz.1
       |_=>cases hy
      exact this _ _ _ (hb s hsb).2.1 k1
    rw[hu];exact(hb s hsb).2.2
  .rw[he s hsb];have key:∀(y:SY) (z:y.den) (v:V),D s=y->cN (get σ.env) β σ.bx s y z v->cN (get σ.env) β bx' s y z v:=by
    intro y z v hy hz;cases y with
    |box t=>
     obtain⟨z0,cs,z1,z2⟩:=hz;have hbox:(D s).isBox=true:=by rw[hy];rfl
     refine⟨z0,cs,?_,z2⟩;rw[hf (β s) (h.b1 s sv hbox hs).1 (fun hm=>?_)]
     .exact z1
     .obtain⟨b,hb1,hb2⟩:=List.mem_map.1 hm;obtain⟨⟨sv',hsv'⟩,hbb,_⟩:=hb b hb1;exact hsb (by rw[<-h.b2 b sv' s sv hbb hsv' hbox hs hb2];exact hb1)
    |_=>exact hz
   exact key _ _ _ rfl k1
 .rw[hho]at hh;exact h.no s sv hs hh
 .have:=h.b1 b sv hb' hs;exact⟨Nat.lt_of_lt_of_le this.1 hl,this.2⟩
 .refine⟨Nat.le_trans h.b3.1 hl,fun i hi hq=>?_⟩;have hil:i<σ.bx.length:=Nat.lt_of_lt_of_le hi h.b3.1;rw[hf i hil (fun hm=>?_)]
  .exact h.b3.2 i hi hq
  .obtain⟨b,hb1,hb2⟩:=List.mem_map.1 hm;obtain⟨⟨sv',hsv'⟩,hbb,_⟩:=hb b hb1;rcases(h.b1 b sv' hbb hsv').2 with⟨_,q1,q2⟩|⟨_,q1⟩
   .exact hq b q1 (by rw[<-q2];exact hb2)
   .omega
theorem aAD{xs:List Opd}:oL D [] xs=some fun e _=>e:=by cases xs<;>rfl
theorem aBz{p:PK}{r:List PK}:oL D (p::r) []=none:=by cases p<;>rfl
theorem aEy{t:Ty}{r:List PK}{x:Opd}{xs:List Opd}{g:TE D->(Ty.row (bD r)).den->TE D}(h:oL D (.d t::r) (x::xs)=some g):oL D r xs=some g:=h
theorem aEz{t:Ty}{r:List PK}{x:Opd}{xs:List Opd}{g:TE D->(Ty.row (bD (.p t::r))).den->TE D}(h:oL D (.p t::r) (x::xs)=some g) :
  ∃b f g',adO D x=.ptr b 0/\SY.get (.box t) (D b)=some f/\oL D r xs=some g'/\g=fun e v=>g' (e.set b (f (dT t (bD r) v))) (eA t (bD r) v):=by
 have h:(match adO D x with
  |.ptr b 0=>match SY.get (.box t) (D b),oL D r xs with
   |some f,some g=>some fun e v=>g (e.set b (f (dT t (bD r) v))) (eA t (bD r) v)
   |_,_=>none
  |_=>none)=some g:=h
 split at h
 .rename_i b hb;split at h
  .rename_i f g' hf hg;exact⟨b,f,g',hb,hf,hg,(Option.some.inj h).symm⟩
  .cases h
 .cases h
theorem aFA(h:RS X D Λ C e β σ){cs:List (Nat×Bool)}(hh:holds e cs){cons:List Nat}{bx':BX}(ps:List PK):∀(xs:List Opd) (i:Nat) (g:TE D->(Ty.row (bD ps)).den->TE D) (v:(Ty.row (bD ps)).den) (ls:List Ls) (bs:List Nat),
  oL D ps xs=some g->rU D Λ C cs ps xs=some (ls,bs)->aEw bx' ps v (aI cons i (xs.map (ev (get σ.env))))->bs.Nodup->∀e0:TE D,(∀s,s∉bs->g e0 v s=e0 s)/\∀b∈bs,cN (get σ.env) β bx' b (D b) (g e0 v b) .undef:=by
 induction ps with
 |nil=>
  intro xs i g v ls bs hg hl _ _ e0;rw[aAD]at hg;have hg:=Option.some.inj hg;subst hg;cases xs with
  |nil=>
   simp only[rU,Option.some.injEq,Prod.mk.injEq]at hl;obtain⟨_,rfl⟩:=hl;exact⟨fun _ _=>rfl,fun b hb=>by cases hb⟩
  |cons=>simp[rU]at hl
 |cons p r ih=>
  intro xs i g v ls bs hg hl hb hn e0;cases xs with
  |nil=>rw[aBz]at hg;cases hg
  |cons x xs=>
   cases p with
   |d t=>
    have hg:=aEy hg;simp only[rU]at hl;split at hl
    .rename_i l ls' bs' hlx hrest;split at hl
     .simp only[Option.some.injEq,Prod.mk.injEq]at hl;obtain⟨_,rfl⟩:=hl;exact ih xs (i+1) g v ls' bs' hg hrest hb hn e0
     .simp at hl
    .simp at hl
   |p t=>
    obtain⟨b,f,g',hadb,hf,hg',rfl⟩:=aEz hg;simp only[rU]at hl;split at hl
    .rename_i lx b' ls' bs' hlx hadb' hrest;rw[hadb]at hadb';simp only[SY.ptr.injEq,and_true]at hadb';subst hadb';split at hl
     .split at hl
      .simp at hl
      .simp only[Option.some.injEq,Prod.mk.injEq]at hl;obtain⟨_,rfl⟩:=hl;obtain⟨yy,k1,_,_⟩:=h.ad hh hadb rfl hlx 0;have k1:ev (get σ.env) x=.bp (β b) 0:=k1;obtain⟨hb1,hb2⟩:=hb;obtain⟨b1,cells,q0,q1,q2,q3⟩:=hb1;simp only[List.map_cons,aI,k1]at q0;have q0:some (V.bp (β b) 0)=some (.bp b1 0):=q0;simp only[Option.some.injEq,V.bp.injEq,and_true]at q0;subst q0;obtain⟨hnb,hn'⟩:=List.nodup_cons.1 hn;obtain⟨r1,r2⟩:=ih xs (i+1) g' _ ls' bs' hg' hrest hb2 hn' (e0.set b (f (dT t (bD r) v)));refine⟨fun s hs=>?_,fun b1 hb1=>?_⟩
       .simp only[List.mem_cons,not_or]at hs;exact(r1 s hs.2).trans (TE.set_ne (Ne.symm hs.1))
       .rcases List.mem_cons.1 hb1 with rfl|hb1
        .have he:g' (e0.set b1 (f (dT t (bD r) v))) (eA t (bD r) v) b1=f (dT t (bD r) v):=(r1 b1 hnb).trans TE.set_eq;show cN (get σ.env) β bx' b1 (D b1) (g' (e0.set b1 (f (dT t (bD r) v))) (eA t (bD r) v) b1) .undef;rw[he];exact bS hf (y:=.box t) ⟨rfl,cells,q1,q2,q3⟩
        .exact r2 b1 hb1
     .simp at hl
    .simp at hl
theorem jH:∀{t:Ty} {off k:Nat},k∈dD t off->off<=k/\k<off+t.size
 |.sl _,off,k,h=>by simp only[dD,List.mem_singleton]at h;subst h;simp[Ty.size]
 |.st t,off,k,h=>jH (t:=t) h
 |.pair a b,off,k,h=>by
  simp only[dD,List.mem_append]at h;simp only[Ty.size];rcases h with h|h
  .have:=jH h;omega
  .have:=jH h;omega
 |.unit,_,_,h=>by cases h
 |.bool,_,_,h=>by cases h
 |.int _,_,_,h=>by cases h
 |.str,_,_,h=>by cases h
 |.fn _,_,_,h=>by cases h
 |.err,_,_,h=>by cases h
 |.av _ _,_,_,h=>by cases h
theorem gB:∀{t:Ty} {off i:Nat} {x:t.den} {cs:List V} {l:Lab} {z n:Nat} {rs:List V},bP t x cs->cs[i]?=some (.sl l z n rs)->i+off∈dD t off
 |.sl t,off,i,x,cs,l,z,n,rs,h,hi=>by
  have h1:=aF h;have h2:=(List.getElem?_eq_some_iff.1 hi).1;have h3:(Ty.sl t).size=1:=rfl;have:i=0:=by omega
  subst this;simp[dD]
 |.st t,off,i,x,cs,l,z,n,rs,h,hi=>gB (t:=t) (x:=x) h hi
 |.pair a b,off,i,x,cs,l,z,n,rs,h,hi=>by
  obtain⟨c,d,rfl,h1,h2⟩:=h;have hl:=aF h1;simp only[dD,List.mem_append];by_cases hlt:i<c.length
  .rw[List.getElem?_append_left hlt]at hi;exact .inl (gB h1 hi)
  .rw[List.getElem?_append_right (by omega)]at hi;have:=gB (off:=off+a.size) h2 hi;rw[show i-c.length+(off+a.size)=i+off by omega]at this;exact .inr this
 |.unit,_,_,_,_,_,_,_,_,h,hi=>by cases h;cases hi
 |.bool,_,i,_,_,_,_,_,_,h,hi=>by cases h;cases i<;>simp at hi
 |.int _,_,i,_,_,_,_,_,_,h,hi=>by cases h;cases i<;>simp at hi
 |.str,_,i,_,_,_,_,_,_,h,hi=>by cases h;cases i<;>simp at hi
 |.fn _,_,i,_,_,_,_,_,_,h,hi=>by cases h;cases i<;>simp at hi
 |.err,_,i,_,_,_,_,_,_,h,hi=>by
  rcases h with⟨rfl,_⟩|⟨_,_,rfl,_⟩<;>(cases i<;>simp at hi)
 |.av _ _,_,i,_,_,_,_,_,_,⟨_,h⟩,hi=>by
  rw[h,List.getElem?_map]at hi;obtain⟨j,_,hj⟩:=Option.map_eq_some_iff.1 hi;cases hj
theorem kO{t:Ty}{x:t.den}{v:V}{F:Lab->Lab}(h:gP t x v):(v.mapLab F).cells=v.cells.map (V.mapLab1 F):=by
 obtain⟨_,h2,h3,h4,h5⟩:=aG h;cases v with
 |agg=>rfl
 |reg=>cases h3
 |tup vs=>exact absurd rfl (h4 vs)
 |undef=>exact absurd rfl h5
 |_=>rfl
theorem qC:∀{t:Ty} {x:t.den} {cs:List V} {F:Lab->Lab},bP t x cs->bP t x (cs.map (V.mapLab1 F))
 |.unit,_,_,_,h=>by cases h;rfl
 |.bool,_,_,_,h=>by cases h;rfl
 |.int _,_,_,_,h=>by cases h;rfl
 |.str,_,_,_,h=>by cases h;rfl
 |.fn _,_,_,_,h=>by cases h;rfl
 |.err,_,_,_,h=>by
  rcases h with⟨rfl,h2⟩|⟨t,v,rfl,h2⟩
  .exact .inl ⟨rfl,h2⟩
  .exact .inr ⟨t,v,rfl,h2⟩
 |.sl t,l,_,F,h=>by
  rcases h with⟨rfl,h2⟩|⟨lb,rs,rfl,h2⟩
  .exact .inl ⟨rfl,h2⟩
  .exact .inr ⟨F lb,rs,rfl,h2⟩
 |.st t,_,_,_,h=>qC (t:=t) h
 |.pair a b,_,_,_,h=>by
  obtain⟨c,d,rfl,h1,h2⟩:=h;exact⟨_,_,List.map_append,qC h1,qC h2⟩
 |.av k n,x,_,_,⟨h1,h2⟩=>⟨h1,by rw[h2,List.map_map];rfl⟩
theorem aGY{t:Ty}{x:t.den}{v:V}{F:Lab->Lab}(h:gP t x v):gP t x (v.mapLab F):=by
 refine⟨by rw[kO h];exact qC h.1,?_⟩;rw[<-h.2];cases v<;>rfl
theorem xB:∀{ts:List Ty} {x:(Ty.row ts).den} {vs:List V} {F:Lab->Lab},iQ ts x vs->iQ ts x (vs.map (V.mapLab F))/\(vs.map (V.mapLab F)).flatMap V.cells=(vs.flatMap V.cells).map (V.mapLab1 F)
 |[],_,_,_,h=>by cases h;exact⟨rfl,rfl⟩
 |t::r,x,_,F,⟨v,vs',e0,h1,h2⟩=>by
  subst e0;obtain⟨k1,k2⟩:=xB (F:=F) h2;exact⟨⟨_,_,rfl,aGY h1,k1⟩,by rw[List.map_cons,List.flatMap_cons,k2,kO h1,List.flatMap_cons,List.map_append]⟩
theorem sN{ts:List Ty}{x:(Ty.row ts).den}{vs:List V}(h:iQ ts x vs):(packed vs).kids=vs.flatMap V.cells:=by
 unfold packed;split
 .rename_i v;cases ts with
  |nil=>cases h
  |cons t r=>
   obtain⟨v',vs',e0,h1,h2⟩:=h;cases e0;rw[(aG h1).1];simp
 .rfl
theorem xC{α:Type}{f:Nat->α}{v:α}:∀{N:List Nat} {nm:Nat},nm∈N->fB f v N nm=v
 |a::r,nm,h=>by
  simp only[fB,upd];split
  .rfl
  .rename_i hne;exact xC ((List.mem_cons.1 h).resolve_left hne)
theorem aFB{T:Nat->Nat}{lk:Nat->Bool}{gv:Nat->Prop}{E:Nat->V}{cons:List Nat}{hvs:List V}{n:Nat}{U Fr:List Nat}{F:Lab->Lab}{all:List V}
  (hF:∀(cl:List (Nat×Bool)) (i:Nat) l z m cs,V.sl l z m cs∈all->aHg cons hvs n cl i (.sl l z m cs)->bR T lk gv E (aE4 U Fr cl i) (F l)) :
  ∀{spec:List (Ty×List (Nat×Bool))} {x:(Ty.row (spec.map Prod.fst)).den} {rs:List V} (off:Nat),iQ (spec.map Prod.fst) x rs->aB1 cons hvs n spec rs->(∀c∈rs.flatMap V.cells,c∈all)->
   ∀i c,(rs.flatMap V.cells)[i]?=some c->aBr T lk gv E (aV (aIB U Fr spec off) (i+off)) (V.mapLab1 F c)
 |[],_,_,_,h,_,_,i,c,hc=>by cases h;cases hc
 |(t,cl)::spec,x,rs,off,⟨v,vs',e0,h1,h2⟩,⟨v',rs',e1,h3,h4⟩,hall,i,c,hc=>by
  subst e0;cases e1;have hlen:=aF h1.1;rw[List.flatMap_cons]at hc hall;have hcell:c.cell:=by
   have:=List.mem_of_getElem? hc;rcases List.mem_append.1 this with h|h
   .exact bJ h1.1 c h
   .exact oX h2 c h
  simp only[aIB];rw[jG];have hkeys:(((dD t 0).map fun i=>(i+off,aE4 U Fr cl i)).map (·.1))=(dD t 0).map (·+off):=by
   rw[List.map_map];rfl
  by_cases hlt:i<v.cells.length
  .rw[List.getElem?_append_left hlt]at hc;cases c with
   |sl l z m cs=>
    have hk:=gB (off:=0) h1.1 hc;rw[Nat.add_zero]at hk;rw[if_pos (by rw[hkeys];exact List.mem_map.2 ⟨i,hk,rfl⟩)]
    have he : (dD t 0).map (fun i => (i + off, aE4 U Fr cl i)) =
        ((dD t 0).map (·+off)).map fun j=>(j,aE4 U Fr cl (j-off)):=by
     rw[List.map_map];apply List.map_congr_left;intro q _;simp only[Function.comp,Nat.add_sub_cancel]
    rw[he,fQ (f:=fun j=>aE4 U Fr cl (j-off)) (List.mem_map.2 ⟨i,hk,rfl⟩),Nat.add_sub_cancel];exact hF cl i l z m cs (hall _ (List.mem_append_left _ (List.mem_of_getElem? hc))) (h3 i _ hc)
   |ep=>exact(hcell:False).elim
   |agg=>exact(hcell:False).elim
   |tup=>exact(hcell:False).elim
   |reg=>exact(hcell:False).elim
   |_=>trivial
  .rw[List.getElem?_append_right (by omega)]at hc;rw[if_neg]
   .have:=aFB hF (off+t.size) h2 h4 (fun c hc=>hall c (List.mem_append_right _ hc)) (i-v.cells.length) c hc;have hl2:v.cells.length=t.size:=hlen;rw[show i-v.cells.length+(off+t.size)=i+off by omega]at this;exact this
   .rw[hkeys];intro hm;obtain⟨q,hq1,hq2⟩:=List.mem_map.1 hm;have:=jH hq1;have hl2:v.cells.length=t.size:=hlen;omega
end
end Go.VM
namespace Go.VM
section
variable{X:Cxt}{D:Nat->SY}{Λ:LS}{C:CC}{e:TE D}{β:Nat->Nat}{σ:St}{t0:Nat->Nat}{mk:List Nat}{sg:Nat->Sg}{cf:NF sg}{cfv:cO}{vsg:Nat->Sig}
theorem aGZ{e':TE D}{bs:List Nat}(he:∀s,s∉bs->e' s=e s)(hb:∀b∈bs,(D b).isBox=true)(c:List (Nat×Bool)):holds e' c↔holds e c:=by
 have key:∀s w,pP e' s w=pP e s w:=fun s w=>aBy (by
  by_cases hs:s∈bs
  .exact .inr (hb s hs)
  .exact .inl (he s hs))
 unfold holds;constructor
 .intro hh s w hs;rw[<-key];exact hh s w hs
 .intro hh s w hs;rw[key];exact hh s w hs
theorem uV(v:V):v.news=v.cells.flatMap V.news1:=by cases v<;>simp[V.news,V.cells]
theorem aAE(v:V):v.shared=v.cells.flatMap V.shared1:=by cases v<;>simp[V.shared,V.cells]
theorem aDT(v:V):v.gone=v.cells.flatMap V.gone1:=by cases v<;>simp[V.gone,V.cells]
theorem aG0{rs:List V}{j:Nat}(h:j∈newsOf rs):∃c∈rs.flatMap V.cells,j∈c.news1:=by
 unfold newsOf at h;obtain⟨v,hv,hj⟩:=List.mem_flatMap.1 h;rw[uV]at hj;obtain⟨c,hc,hj⟩:=List.mem_flatMap.1 hj;exact⟨c,List.mem_flatMap.2 ⟨v,hv,hc⟩,hj⟩
theorem aDU{rs:List V}{j:Nat}(h:j∈rs.flatMap V.shared):∃c∈rs.flatMap V.cells,j∈c.shared1:=by
 obtain⟨v,hv,hj⟩:=List.mem_flatMap.1 h;rw[aAE]at hj;obtain⟨c,hc,hj⟩:=List.mem_flatMap.1 hj;exact⟨c,List.mem_flatMap.2 ⟨v,hv,hc⟩,hj⟩
theorem aG1{rs:List V}{j:Nat}(h:j∈rs.flatMap V.gone):∃c∈rs.flatMap V.cells,j∈c.gone1:=by
 obtain⟨v,hv,hj⟩:=List.mem_flatMap.1 h;rw[aDT]at hj;obtain⟨c,hc,hj⟩:=List.mem_flatMap.1 hj;exact⟨c,List.mem_flatMap.2 ⟨v,hv,hc⟩,hj⟩
theorem aB2{rs:List V}{j f z m:Nat}{cs:List V}(h:.sl (.own j f) z m cs∈rs.flatMap V.cells):j∈newsOf rs:=by
 obtain⟨v,hv,hc⟩:=List.mem_flatMap.1 h;unfold newsOf;refine List.mem_flatMap.2 ⟨v,hv,?_⟩;rw[uV];exact List.mem_flatMap.2 ⟨_,hc,by simp[V.news1,Lab.news]⟩
theorem sO{cons:List Nat}{hvs:List V}{n:Nat}:∀{spec:List (Ty×List (Nat×Bool))} {x:(Ty.row (spec.map Prod.fst)).den} {rs:List V},iQ (spec.map Prod.fst) x rs->aB1 cons hvs n spec rs->
  ∀c∈rs.flatMap V.cells,c.cell/\∀l z m cs,c=.sl l z m cs->l=.none\/(∃j f,l=.own j f/\j<n)\/∃j k z m cs,l=.arg j/\cons.contains j=true/\hvs[j]?=some (.sl (.own j k) z m cs)
 |[],_,_,h,_,c,hc=>by cases h;cases hc
 |(t,cl)::spec,x,rs,⟨v,vs',e0,h1,h2⟩,⟨v',rs',e1,h3,h4⟩,c,hc=>by
  subst e0;cases e1;rw[List.flatMap_cons,List.mem_append]at hc;rcases hc with hc|hc
  .refine⟨bJ h1.1 c hc,fun l z m cs he=>?_⟩;obtain⟨i,hi⟩:=List.getElem?_of_mem hc;subst he;exact(h3 i _ hi).1
  .exact sO h2 h4 c hc
theorem sP:∀{spec:List (Ty×List (Nat×Bool))} {x:(Ty.row (spec.map Prod.fst)).den} {rs:List V},iQ (spec.map Prod.fst) x rs->∀{i j:Nat} {l l':Lab} {z z' m m':Nat} {cs cs':List V},
  (rs.flatMap V.cells)[i]?=some (.sl l z m cs)->(rs.flatMap V.cells)[j]?=some (.sl l' z' m' cs')->lZ spec<=1->i=j
 |[],_,_,h,i,j,l,l',z,z',m,m',cs,cs',hi,hj,_=>by cases h;cases hi
 |(t,cl)::spec,x,rs,⟨v,vs',e0,h1,h2⟩,i,j,l,l',z,z',m,m',cs,cs',hi,hj,hc=>by
  subst e0;rw[List.flatMap_cons]at hi hj;simp only[lZ]at hc;have hone:∀{i l z m cs},v.cells[i]?=some (.sl l z m cs)->i∈dD t 0:=fun{i l z m cs} h=>by
   have:=gB (off:=0) h1.1 h;simpa using this
  have hcount:∀{i:Nat} {l:Lab} {z m:Nat} {cs:List V},(vs'.flatMap V.cells)[i]?=some (V.sl l z m cs)->0<lZ spec:=by
   intro i l z m cs hi;have:∀{spec:List (Ty×List (Nat×Bool))} {x:(Ty.row (spec.map Prod.fst)).den} {rs:List V} {i:Nat},iQ (spec.map Prod.fst) x rs->(rs.flatMap V.cells)[i]?=some (V.sl l z m cs)->0<lZ spec:=by
    intro spec
    induction spec with
    |nil=>intro x rs i h hi;cases h;cases hi
    |cons q spec ih=>
     intro x rs i ⟨v,vs',e0,h1,h2⟩ hi;subst e0;rw[List.flatMap_cons]at hi;simp only[lZ];by_cases hlt:i<v.cells.length
     .rw[List.getElem?_append_left hlt]at hi;have:=gB (off:=0) h1.1 hi;have:=List.length_pos_of_mem this;omega
     .rw[List.getElem?_append_right (by omega)]at hi;have:=ih h2 hi;omega
   exact this h2 hi
  by_cases hli:i<v.cells.length<;>by_cases hlj:j<v.cells.length
  .rw[List.getElem?_append_left hli]at hi;rw[List.getElem?_append_left hlj]at hj;have a:=hone hi;have b:=hone hj;cases hs:dD t 0 with
   |nil=>rw[hs]at a;cases a
   |cons q r=>
    rw[hs]at a b hc;cases r with
    |nil=>simp only[List.mem_singleton]at a b;omega
    |cons=>simp only[List.length_cons]at hc;omega
  .rw[List.getElem?_append_left hli]at hi;rw[List.getElem?_append_right (by omega)]at hj;have:=List.length_pos_of_mem (hone hi);have:=hcount hj;omega
  .rw[List.getElem?_append_right (by omega)]at hi;rw[List.getElem?_append_left hlj]at hj;have:=List.length_pos_of_mem (hone hj);have:=hcount hi;omega
  .rw[List.getElem?_append_right (by omega)]at hi hj;have:=sP h2 hi hj (by omega);omega
theorem aFC:∀{s:Sg} {t:Ty} (_:s.nb=some t) {x:(Ty.row s.vts).den} {cells:List V},bP (Ty.row s.vts) x cells->bP (aGG s) (aId s x) cells
 |⟨_,_,some _⟩,_,_,_,_,h=>h
 |⟨_,_,none⟩,_,hn,_,_,_=>by cases hn
theorem aCA{E:Nat->V}{bx:BX}{d:Nat}:∀{s:Sg} (_:s.nb=none) {x:(Ty.row s.vts).den} {vs:List V},iQ s.vts x vs->cN E β bx d (wM s) (aEY s x) (packed vs)
 |⟨_,_,some _⟩,hn,_,_,_=>by cases hn
 |⟨_,[(t,_)],none⟩,_,x,vs,h=>by
  obtain⟨v,vs',rfl,h1,h2⟩:=h;have h2:vs'=[]:=h2;subst h2;exact h1
 |⟨_,[],none⟩,_,x,vs,h=>by
  have h:vs=[]:=h;subst h;exact⟨[],rfl,rfl⟩
 |⟨_,_::_::_,none⟩,_,x,vs,h=>by
  obtain⟨v,vs',rfl,h1,v2,vs2,rfl,h3⟩:=h;exact⟨_,rfl,v,_,rfl,h1,v2,vs2,rfl,h3⟩
theorem uW{ts:List Ty}{x:(Ty.row ts).den}{vs:List V}(h:iQ ts x vs):aN (packed vs)=false:=by
 unfold packed;split
 .rename_i v;cases ts with
  |nil=>cases h
  |cons t r=>
   obtain⟨v',vs',e0,h1,_⟩:=h;cases e0;exact(aG h1).2.2.1
 .rfl
theorem aAF:∀{s:Sg},s.nb=none->∀{x:(Ty.row s.vts).den} {vs:List V},iQ s.vts x vs->∃y:(Ty.row (s.rs.map Prod.fst)).den,iQ (s.rs.map Prod.fst) y vs
 |⟨_,_,some _⟩,h,_,_,_=>by cases h
 |⟨_,_,none⟩,_,x,_,h=>⟨x,h⟩
theorem sQ{cons:List Nat}:∀{i:Nat} {vs:List V} {j:Nat},(aI cons i vs)[j]?=(vs[j]?).map (cZ cons (i+j))
 |_,[],_=>by simp[aI]
 |i,v::r,0=>by simp[aI]
 |i,v::r,j+1=>by
  simp only[aI,List.getElem?_cons_succ];rw[sQ (i:=i+1),show i+1+j=i+(j+1) by omega]
theorem aG2{cons:List Nat}{i k z m:Nat}{v:V}{cs:List V}(h:cZ cons i v=.sl (.own i k) z m cs):∃nm k',v=.sl (.own nm k') z m cs/\cons.contains i=true:=by
 cases v with
 |sl l z' n' cs'=>
  cases l with
  |own nm k'=>
   simp only[cZ]at h;split at h
   .rename_i hc;cases h;exact⟨_,_,rfl,hc⟩
   .cases h
  |_=>simp[cZ,V.bare,V.mapLab,V.mapLab1]at h
 |_=>simp[cZ,V.bare,V.mapLab,V.mapLab1]at h
theorem aFD{cons:List Nat}:∀{i:Nat} {vs:List V} {j nm k z m:Nat} {cs:List V},vs[j]?=some (.sl (.own nm k) z m cs)->cons.contains (i+j)=true->nm∈aD cons i vs
 |_,[],_,_,_,_,_,_,h,_=>by cases h
 |i,v::r,0,nm,k,z,m,cs,h,hc=>by
  simp only[List.getElem?_cons_zero,Option.some.injEq]at h;subst h;have hc:cons.contains i=true:=hc;simp only[aD,dA,hc,if_true];exact List.mem_append_left _ (by simp)
 |i,v::r,j+1,nm,k,z,m,cs,h,hc=>by
  simp only[List.getElem?_cons_succ]at h;simp only[aD];exact List.mem_append_right _ (aFD (i:=i+1) h (by rw[show i+1+j=i+(j+1) by omega];exact hc))
theorem aFE{d i j:Nat}(_:i<64)(_:j<64)(h:aQ d i=aQ d j):i=j:=by unfold aQ at h;omega
theorem aFF{bs:List Nat}(hn:bs.Nodup)(hi:∀a∈bs,∀b∈bs,β a=β b->a=b):(bs.map β).Nodup:=by
 induction bs with
 |nil=>exact List.nodup_nil
 |cons a r ih=>
  obtain⟨h1,h2⟩:=List.nodup_cons.1 hn;rw[List.map_cons];refine List.nodup_cons.2 ⟨fun hm=>?_,ih h2 fun x hx y hy=>hi x (List.mem_cons_of_mem _ hx) y (List.mem_cons_of_mem _ hy)⟩;obtain⟨b,hb,hbe⟩:=List.mem_map.1 hm;have:=hi b (List.mem_cons_of_mem _ hb) a (by simp) hbe;exact h1 (by rw[<-this];exact hb)
theorem jI:∀{t:Ty} {x:t.den} {cs:List V},t.plain=true->bP t x cs->cs.all V.plain1=true
 |.unit,_,_,_,h=>by cases h;rfl
 |.bool,_,_,_,h=>by cases h;rfl
 |.int _,_,_,_,h=>by cases h;rfl
 |.str,_,_,_,h=>by cases h;rfl
 |.err,_,_,hp,_=>by cases hp
 |.fn _,_,_,hp,_=>by cases hp
 |.sl _,_,_,hp,_=>by cases hp
 |.st t,_,_,hp,h=>jI (t:=t) hp h
 |.pair a b,_,_,hp,h=>by
  obtain⟨c,d,rfl,h1,h2⟩:=h;simp only[Ty.plain,Bool.and_eq_true]at hp;rw[List.all_append,jI hp.1 h1,jI hp.2 h2];rfl
 |.av k n,x,_,_,⟨_,h⟩=>by
  rw[h,List.all_eq_true];intro c hc;obtain⟨i,_,rfl⟩:=List.mem_map.1 hc;rfl
theorem uX:∀{rs:List (Ty×List (Nat×Bool))} {x:(Ty.row (rs.map Prod.fst)).den} {vs:List V},(rs.all fun p=>p.1.plain)=true->iQ (rs.map Prod.fst) x vs->vs.all V.plain=true/\(vs.flatMap V.cells).all V.plain1=true
 |[],_,_,_,h=>by cases h;exact⟨rfl,rfl⟩
 |(t,cl)::r,_,_,hp,⟨v,vs',e,h1,h2⟩=>by
  subst e;simp only[List.all_cons,Bool.and_eq_true]at hp;obtain⟨k1,k2⟩:=uX hp.2 h2;have hc:=jI hp.1 h1.1;refine⟨?_,by rw[List.flatMap_cons,List.all_append,hc,k2];rfl⟩;rw[List.all_cons,k1,Bool.and_true];cases v with
  |agg cs=>exact hc
  |_=>simpa[V.cells,V.plain]using hc
theorem aFG{g:Lab->Lab}{v:V}(h:v.plain=true):v.mapLab g=v:=by
 cases v with
 |agg cs=>
  simp only[V.mapLab];congr 1;have hc:cs.all V.plain1=true:=h;clear h
  induction cs with
  |nil=>rfl
  |cons u r ih=>
   simp only[List.all_cons,Bool.and_eq_true]at hc;rw[List.map_cons,V.plain1_mapLab hc.1,ih hc.2]
 |_=>first|rfl|cases h
theorem aDV{t:Ty}{x:t.den}{v:V}(h:gP t x v):v.noBox=true:=by
 have h1:=dF h.1;have h2:=aG h;cases v with
 |agg cs=>simpa only[V.noBox,V.cells]using h1
 |_=>simpa only[V.cells,bO,Bool.and_true]using h1
theorem aAG(h:RS X D Λ C e β σ){cs:List (Nat×Bool)}(hh:holds e cs){av:List Nat}:∀{ps:List PK} {xs:List Opd} {i:Nat} {a:TE D->(Ty.row (ps.map PK.ty)).den} {ns:List Nat},zI D ps xs=some a->aE2 D Λ C cs av ps xs=some ns->
  (∀bx,aAB [] bx ps i (a e) (aI [] i (xs.map (ev (get σ.env)))))/\(xs.map (ev (get σ.env))).all (tC (get σ.env) av)=true/\eC σ.tips [] i (xs.map (ev (get σ.env)))=true/\aD [] i (xs.map (ev (get σ.env)))=[]/\(xs.map (ev (get σ.env))).all V.noBox=true/\
   (∀nm∈aC (xs.map (ev (get σ.env))),nm∈ns)/\(∀vs,gN ps vs=[])/\∀g,oL D ps xs=some g->∀e v,g e v=e
 |[],[],i,a,ns,ha,hl=>by
  cases ha;cases hl;refine⟨fun _=>rfl,rfl,rfl,rfl,rfl,fun nm hm=>(by cases hm),fun vs=>by cases vs<;>rfl,fun g hg=>by cases hg;exact fun _ _=>rfl⟩
 |[],_::_,_,_,_,ha,_=>by cases ha
 |.p _::_,[],_,_,_,ha,_=>by cases ha
 |.p _::_,_::_,_,_,_,_,hl=>by cases hl
 |.d _::_,[],_,_,_,ha,_=>by cases ha
 |.d t::r,x::xs,i,a,ns,ha,hl=>by
  simp only[zI]at ha;split at ha
  .rename_i f g hf hg;cases ha;simp only[aE2]at hl;split at hl
   .rename_i l ns' hlx hrest;split at hl
    .rename_i hno;cases hl;obtain⟨k1,k2,_⟩:=h.opD hh hf hlx;obtain⟨r1,r2,r3,r4,r5,r6,r7,r8⟩:=aAG h hh (i:=i+1) hg hrest;have hb:=aAC (cons:=[]) (i:=i) (v:=ev (get σ.env) x) (fun _ _ _ _ _ _=>rfl) k1;have hok:tC (get σ.env) av (ev (get σ.env) x)=true:=by
      simp only[Bool.or_eq_true,Bool.and_eq_true]at hno;rcases hno with hno|⟨hav,hsl⟩
      .exact sM (eZ k1 k2 hno)
      .cases t with
       |sl t=>
        rcases eX k1 with⟨e1,_⟩|⟨lb,rs,e1,_,_⟩
        .rw[e1];rfl
        .rw[e1]at k2 ⊢;have hfr:=nM (av:=av) (k2 0 (.sl lb _ _ rs) rfl) (nN hav 0);cases lb with
         |arg j=>exact absurd rfl ((k2 0 (.sl (.arg j) _ _ rs) rfl).2.2.2.2.1 j)
         |rv=>exact hfr
         |_=>rfl
       |_=>cases hsl
     refine⟨fun bx=>⟨_,_,rfl,?_,.inl hb.2,fun hq=>by simp at hq,?_⟩,by simp only[List.map_cons,List.all_cons,hok,r2,Bool.and_self],?_,?_,?_,?_,fun vs=>?_,fun g' hg'=>?_⟩
     .rw[cM];exact hb.1
     .rw[cF];exact r1 bx
     .simp only[List.map_cons,eC,r3,Bool.and_true];cases hv:ev (get σ.env) x with
      |sl lb z n cs=>cases lb<;>rfl
      |_=>rfl
     .simp only[List.map_cons,aD,r4,List.append_nil];cases hv:ev (get σ.env) x with
      |sl lb z n cs=>cases lb<;>rfl
      |_=>rfl
     .simp only[List.map_cons,List.all_cons,r5,Bool.and_true];exact aDV k1
     .intro nm hm;simp only[List.map_cons,aC,List.mem_append]at hm;exact List.mem_append.2 (hm.imp (iM k1 k2 nm) (r6 nm))
     .cases vs with
      |nil=>cases r<;>rfl
      |cons v vs=>exact r7 vs
     .exact r8 g' hg'
    .cases hl
   .cases hl
  .cases ha
theorem aFH(hcf:∀f,aF7 vsg cfv f (cf f))(h:RS X D Λ C e β σ)(hG:RG Λ t0 mk σ){d:Nat}(hd:d<100000)(hC:bU C (some d)=true)(hreg:aN (get σ.env d)=false){cs:List (Nat×Bool)}(hh:holds e cs)(hcd:∀q∈cs,q.1≠d)(hcl:∀q∈cs,q.1<100000)
  {f:Nat} {xs:List Opd} {q:Bool} {av ns:List Nat} {e':TE D} (hn:aE2 D Λ C cs av (sg f).ps xs=some ns)
  (hk:xs.length<=64/\(q=true->(vsg f).quiet=true)/\(vsg f).cons=[]/\(sg f).nb=none/\((sg f).rs.all fun p=>p.1.plain)=true/\wO (D d)=true) (ho:(dop D cf (some d) (.call f xs q av)).out e=some e') :
  ∃β' σ',aU cfv vsg σ t0 (some d) (.call f xs q av)=some σ'/\RS X D (((Λ.lock (if pv av=true then[]else ns)).asg D d).put d ⟨[],none⟩) (oM C (some d) cs) e' β' σ'/\RG (((Λ.lock (if pv av=true then[]else ns)).asg D d).put d ⟨[],none⟩) t0 mk σ':=by
 obtain⟨hlen,hq,hcons,hnb,hpl,hval⟩:=hk;simp only[dop,aBI]at ho;split at ho
 case h_2=>exact(fail_out ho).elim
 rename_i a g b ha hg hb;rw[hnb]at ho;simp only at ho;split at ho
 case h_2=>exact(fail_out ho).elim
 rename_i c hcget;simp only[OD.out]at ho;obtain⟨r,hr,rfl⟩:=Option.map_eq_some_iff.1 ho;obtain⟨r1,r2,r3,r4,r5,r6,r7,r8⟩:=aAG h hh (i:=0) ha hn;rw[r8 g hg];have run:∀bx,bX bx=true->∃w,cfv f (aI (vsg f).cons 0 (xs.map (ev (get σ.env)))) bx=some (w,bx)/\iQ (sg f).vts (eR (sg f).vts (bD (sg f).ps) r) w.results/\w.results.all V.plain=true/\(w.results.flatMap V.cells).all V.plain1=true:=by
  intro bx hbx;have hc1:wZ (sg f) [] (cfv f) (cf f):=by have:=hcf f;unfold aF7 at this;rw[hcons]at this;exact this
  obtain⟨w,bx',k1,k2,k3,k4,k5,k6,k7,k8⟩:=hc1 (a e) r hr _ bx (r1 bx) (by rw[r7];exact List.nodup_nil) hbx;obtain⟨q1,q2,q3,q4⟩:=k7 hnb;have hbe:bx'=bx:=List.ext_getElem? fun i=>by
   by_cases hi:i<bx.length
   .exact k3 i hi (by rw[r7];simp)
   .rw[List.getElem?_eq_none (by omega),List.getElem?_eq_none (by omega)]
  subst hbe;rw[hcons];obtain⟨y,q1'⟩:=aAF hnb q1;obtain⟨p1,p2⟩:=uX hpl q1';exact⟨w,k1,q1,p1,p2⟩
 have hbox:=kK hval
 have fin : ∀ (w : V) (lk' : Nat → Bool), iQ (sg f).vts (eR (sg f).vts (bD (sg f).ps) r) w.results → (w.results.flatMap V.cells).all V.plain1 = true → (∀ nm, nm ∉ (if pv av = true then [] else ns) → σ.lk nm = false → lk' nm = false) →
     RS X D (((Λ.lock (if pv av=true then[]else ns)).asg D d).put d ⟨[],none⟩) (oM C (some d) cs) (e.set d (c (aEY (sg f) (eR (sg f).vts (bD (sg f).ps) r)))) β {σ with lk:=lk',env:=set σ.env d (packed w.results)}/\RG (((Λ.lock (if pv av=true then[]else ns)).asg D d).put d ⟨[],none⟩) t0 mk {σ with lk:=lk',env:=set σ.env d (packed w.results)}:=by
  intro w lk' m1 m2 hlk;refine⟨(h.lock hlk).pure hC hd hcd hcl hbox hreg (cp:=none) (ls:=[]) (uW m1) (fun _=>⟨bS hcget (aCA hnb m1),?_,eB.none⟩) (fun hq=>absurd hh hq),(hG.lock hlk).same rfl rfl rfl rfl⟩;rw[sN m1];intro i c hc;have:=List.all_eq_true.1 m2 c (List.mem_of_getElem? hc);cases c<;>first|trivial|cases this
 by_cases hrv:(xs.map (ev (get σ.env))).any aD5=true\/pv av=true
 .obtain⟨w,k1,m1,m2,m3⟩:=run [] rfl;obtain⟨q1,q2⟩:=fin w σ.lk m1 m3 (fun _ _ hl=>hl);refine⟨β,_,?_,q1,q2⟩;simp only[aU,eQ];rw[if_pos hrv];simp only[tD];rw[if_pos ⟨by rw[List.length_map];exact hlen,r2,by rw[hcons];exact r3,by rw[hcons];exact r4,r5⟩,k1];simp only;rw[if_pos m2]
 .obtain⟨w,k1,m1,m2,m3⟩:=run σ.bx h.nb;have hnews:=pE m2;have hfl:∀v∈w.results,v.plain=true:=List.all_eq_true.1 m2;have hgone:pC (vsg f).cons (xs.map (ev (get σ.env))) (aX d w.results) w.results=true:=by
   unfold pC;have:w.results.flatMap V.gone=[]:=by
    rw[List.flatMap_eq_nil_iff];intro v hv;have h1:∀u:V,u.plain1=true->u.gone1=[]:=fun u hu=>by cases u<;>first|rfl|cases hu
    have:=hfl v hv;cases v with
    |agg cs=>
     show cs.flatMap V.gone1=[];rw[List.flatMap_eq_nil_iff];exact fun u hu=>h1 u (List.all_eq_true.1 (show cs.all V.plain1=true from this) u hu)
    |_=>first|rfl|cases this
   rw[this];rfl
  have hsh:w.results.flatMap V.shared=[]:=by
   rw[List.flatMap_eq_nil_iff];intro v hv;have h1:∀u:V,u.plain1=true->u.shared1=[]:=fun u hu=>by cases u<;>first|rfl|cases hu
   have:=hfl v hv;cases v with
   |agg cs=>
    show cs.flatMap V.shared1=[];rw[List.flatMap_eq_nil_iff];exact fun u hu=>h1 u (List.all_eq_true.1 (show cs.all V.plain1=true from this) u hu)
   |_=>first|rfl|cases this
  have hpv:pv av=false:=Bool.eq_false_iff.2 fun hh=>hrv (.inr hh)
  obtain⟨q1,q2⟩:=fin w (if qH w.results σ.bx then σ.lk else fB σ.lk true (aC (xs.map (ev (get σ.env))))) m1 m3 (fun nm hnm hl=>by
   split
   .exact hl
   .rw[eP fun hm=>hnm (by rw[hpv];exact r6 nm hm)];exact hl)
  refine⟨β,_,?_,q1,q2⟩;simp only[aU,eQ];rw[if_neg hrv];simp only[mI];rw[if_pos ⟨by rw[List.length_map];exact hlen,r2,by rw[hcons];exact r3,by rw[hcons,r4];exact List.nodup_nil,hq⟩,k1];simp only;rw[if_pos ⟨.inr fun hh=>hrv (.inl hh),by rw[hnews];rfl,hgone,fun _=>by trivial⟩];have hmap:∀F:Lab->Lab,w.results.map (V.mapLab F)=w.results:=fun F=>by
   rw[List.map_congr_left fun v hv=>aFG (hfl v hv),List.map_id']
  simp only[aT,aX,hnews,hcons,r4,hsh,List.map_nil,List.append_nil,bump,fB,hmap]
theorem aG3(hcf:∀f,aF7 vsg cfv f (cf f))(h:RS X D Λ C e β σ)(hG:RG Λ t0 mk σ){d:Nat}(hd:d<100000)(hC:bU C (some d)=true)(hreg:aN (get σ.env d)=false){cs:List (Nat×Bool)}(hh:holds e cs)(hcd:∀q∈cs,q.1≠d)(hcl:∀q∈cs,q.1<100000)
  {f:Nat} {xs:List Opd} {q:Bool} {av:List Nat}:Eff X D cf cfv vsg Λ C e β σ t0 mk cs (some d) (.call f xs q av):=by
 intro Λ' e' hc ho;simp only[cop]at hc;split at hc
 case h_2=>
  split at hc
  .rename_i ns hn;split at hc
   .rename_i hk;cases hc;exact aFH hcf h hG hd hC hreg hh hcd hcl hn hk ho
   .cases hc
  .cases hc
 rename_i ls bs hargs;have hpv:pv av=false:=by
  cases hp:pv av with
  |false=>rfl
  |true=>rw[hp]at hargs;cases hargs
 rw[hpv]at hargs;simp only[Bool.false_eq_true,if_false]at hargs;split at hc
 case h_2=>cases hc
 rename_i U hU;split at hc
 case isFalse=>cases hc
 rename_i hcond;obtain⟨hlen,hq,hsz,hone⟩:=hcond;simp only[dop,aBI]at ho;split at ho
 case h_2=>exact(fail_out ho).elim
 rename_i a g b ha hg hb;obtain⟨r1,r2,r3,r4,r5⟩:=xA h hh ha hargs hU;have hbi:∀x∈bs,∀y∈bs,β x=β y->x=y:=fun x hx y hy hxy=>by
  obtain⟨sv,h1,h2⟩:=r4 x hx;obtain⟨sv',h3,h4⟩:=r4 y hy;exact h.b2 x sv y sv' h2 (kN h1).1 h4 (kN h3).1 hxy
 have hnd:(gN (sg f).ps (aI (vsg f).cons 0 (xs.map (ev (get σ.env))))).Nodup:=by rw[r3];exact aFF r5 hbi
 have main : ∀ r, cf f (a e) = some r → ∃ w bx', cfv f (aI (vsg f).cons 0 (xs.map (ev (get σ.env)))) σ.bx = some (w, bx') ∧
     (∀(cond:(newsOf w.results).all (·<64)=true/\pC (vsg f).cons (xs.map (ev (get σ.env))) (aX d w.results) w.results=true/\(q=true->bx'.length=σ.bx.length)),
      aU cfv vsg σ t0 (some d) (.call f xs q av)=some (aT σ (aD (vsg f).cons 0 (xs.map (ev (get σ.env)))) (xs.map (ev (get σ.env))) d w bx'))/\
     RS X D Λ C (g e (pI (sg f).vts (bD (sg f).ps) r)) β {σ with bx:=bx'}/\holds (g e (pI (sg f).vts (bD (sg f).ps) r)) cs/\σ.bx.length<=bx'.length/\
     ((sg f).nb=none->iQ (sg f).vts (eR (sg f).vts (bD (sg f).ps) r) w.results/\aB1 (vsg f).cons (aI (vsg f).cons 0 (xs.map (ev (get σ.env)))) (gQ (sg f).rs) (sg f).rs w.results/\aEx w.results/\bx'.length=σ.bx.length)/\
     (∀t,(sg f).nb=some t->∃b cells,w=.bp b 0/\σ.bx.length<=b/\bx'[b]?=some cells/\bP (Ty.row (sg f).vts) (eR (sg f).vts (bD (sg f).ps) r) cells/\∀c∈cells,c.bare0):=by
  intro r hr;obtain⟨w,bx',k1,k2,k3,k4,k5,k6,k7,k8⟩:=hcf f (a e) r hr _ σ.bx r1 hnd h.nb;obtain⟨b1,b2⟩:=aFA h hh (cons:=(vsg f).cons) (bx':=bx') (sg f).ps xs 0 g _ ls bs hg hargs k2 r5 e;have hbb:∀x∈bs,(∃sv,(x,sv)∈Λ.vs)/\(D x).isBox=true:=fun x hx=>by
   obtain⟨sv,h1,h2⟩:=r4 x hx;exact⟨⟨sv,(kN h1).1⟩,h2⟩
  refine⟨w,bx',k1,fun hcnd=>?_,h.newbx (bs:=bs) b1 (fun x hx=>⟨(hbb x hx).1,(hbb x hx).2,b2 x hx⟩) (fun i hi hm=>k3 i hi (by rw[r3];exact hm)) k4 k5,(aGZ b1 (fun x hx=>(hbb x hx).2) cs).2 hh,k4,k7,k8⟩;simp only[aU,eQ];rw[if_neg (by rw[r2.nrv,hpv];simp)];simp only[mI];rw[if_pos ⟨by rw[List.length_map];exact hlen,r2.ok.2 av,r2.owns,r2.nodup,hq⟩,k1];simp only;rw[if_pos ⟨.inr (by rw[r2.nrv];simp),hcnd.1,hcnd.2.1,hcnd.2.2⟩]
 have hlk : ∀ (w : V) (bx' : BX) (Fr : List Nat), (∀ j ∈ w.results.flatMap V.shared, aQ d j ∈ Fr) →
     ∀nm,nm∉U++ls.flatMap aR++Fr->σ.lk nm=false->(aT σ (aD (vsg f).cons 0 (xs.map (ev (get σ.env)))) (xs.map (ev (get σ.env))) d w bx').lk nm=false:=by
  intro w bx' Fr hsh nm hnm hlk;simp only[List.mem_append,not_or]at hnm;simp only[aT];rw[eP (fun hm=>?_)]
  .rw[lW];split
   .rfl
   .split
    .exact hlk
    .rw[eP (fun hm=>hnm.1.2 (r2.nms nm hm))];exact hlk
  .rcases List.mem_append.1 hm with hm|hm
   .obtain⟨j,hj,rfl⟩:=List.mem_map.1 hm;exact hnm.2 (hsh j hj)
   .exact hnm.1.1 (r2.used nm hm)
 have htp : ∀ (w : V) (bx' : BX) (Fr : List Nat), (∀ j ∈ newsOf w.results, aQ d j ∈ Fr) →
     ∀nm,nm∉U++Fr->(aT σ (aD (vsg f).cons 0 (xs.map (ev (get σ.env)))) (xs.map (ev (get σ.env))) d w bx').tips nm=σ.tips nm:=by
  intro w bx' Fr hsh nm hnm;simp only[List.mem_append,not_or]at hnm;simp only[aT];rw[vQ (fun hm=>?_),vQ (fun hm=>hnm.1 (r2.used nm hm))];obtain⟨j,hj,rfl⟩:=List.mem_map.1 hm;exact hnm.2 (hsh j hj)
 split at ho
 ·
  rename_i t hnb;rw[hnb]at hc;simp only at hc;split at hc
  case isFalse=>cases hc
  rename_i hk;obtain⟨rfl,hD,rfl,hcons⟩:=hk;cases hc;split at ho
  case h_2=>exact(fail_out ho).elim
  rename_i c hcget;simp only[OD.out]at ho;obtain⟨r,hr,rfl⟩:=Option.map_eq_some_iff.1 ho;obtain⟨w,bx',k1,k2,k3,k4,k5,_,k7⟩:=main r hr;obtain⟨bi,cells,rfl,q1,q2,q3,q4⟩:=k7 t hnb;have hst:=k2 ⟨rfl,rfl,fun hq=>by cases hq⟩;have h2:=(k3.lock (hlk (.bp bi 0) bx' ((List.range (gQ (sg f).rs)).map (aQ d ·)) (fun j hj=>by cases hj))).bump (htp (.bp bi 0) bx' ((List.range (gQ (sg f).rs)).map (aQ d ·)) (fun j hj=>by cases hj));have hbox:(D (aH d)).isBox=true:=by
   obtain⟨hDb,_⟩:=eK hcget;rw[<-hDb];rfl
  have hG2:=(hG.lock (hlk (.bp bi 0) bx' ((List.range (gQ (sg f).rs)).map (aQ d ·)) (fun j hj=>by cases hj))).bump (htp (.bp bi 0) bx' ((List.range (gQ (sg f).rs)).map (aQ d ·)) (fun j hj=>by cases hj));refine⟨upd β (aH d) bi,_,hst,?_,?_⟩
  .refine h2.adopt (bi:=bi) (cells:=cells) q2 (fun s sv hs hm=>?_) (Nat.le_trans h.b3.1 q1) hd hC hD hreg (fR hC) (fun{E β bx} hb=>bS hcget (y:=.box (aGG (sg f))) ⟨rfl,cells,hb,aFC hnb q3,q4⟩) hbox;obtain⟨u,hu,_⟩:=cI hm;obtain⟨u',hu',_⟩:=cI hu;have:=(h.b1 s u' hs hu').1;omega
  .exact hG2.same rfl rfl rfl rfl
 ·
  rename_i hnb;rw[hnb]at hc;simp only at hc;split at hc
  case isFalse=>cases hc
  cases hc;split at ho
  case h_2=>exact(fail_out ho).elim
  rename_i c hcget;simp only[OD.out]at ho;obtain⟨r,hr,rfl⟩:=Option.map_eq_some_iff.1 ho;obtain⟨w,bx',k1,k2,k3,k4,k5,k6,_⟩:=main r hr;obtain⟨q1,q2,q3,q4⟩:=k6 hnb;obtain⟨y,q1'⟩:=aAF hnb q1;have hcells:=sO q1' q2;have hnews:∀j∈newsOf w.results,j<gQ (sg f).rs/\∃f z m cs,V.sl (.own j f) z m cs∈w.results.flatMap V.cells:=by
   intro j hj;obtain⟨c,hc,hjc⟩:=aG0 hj;obtain⟨g1,g2⟩:=hcells c hc;cases c with
   |sl l z m cs=>
    rcases g2 l z m cs rfl with rfl|⟨j',f',rfl,hlt⟩|⟨j',_,_,_,_,rfl,_⟩
    .simp[V.news1,Lab.news]at hjc
    .simp only[V.news1,Lab.news,List.mem_singleton]at hjc;subst hjc;exact⟨hlt,_,_,_,_,hc⟩
    .simp[V.news1,Lab.news]at hjc
   |ep=>exact(g1:False).elim
   |_=>simp[V.news1]at hjc
  have hshared:∀j∈w.results.flatMap V.shared,j<gQ (sg f).rs/\∃z m cs,V.sl (.own j 1) z m cs∈w.results.flatMap V.cells:=by
   intro j hj;obtain⟨c,hc,hjc⟩:=aDU hj;obtain⟨g1,g2⟩:=hcells c hc;cases c with
   |sl l z m cs=>
    rcases g2 l z m cs rfl with rfl|⟨j',f',rfl,hlt⟩|⟨j',_,_,_,_,rfl,_⟩
    .simp[V.shared1,Lab.shared]at hjc
    .simp only[V.shared1]at hjc;unfold Lab.shared at hjc;split at hjc
     .rename_i heq;cases heq;simp only[List.mem_singleton]at hjc;subst hjc;exact⟨hlt,_,_,_,hc⟩
     .cases hjc
    .simp[V.shared1,Lab.shared]at hjc
   |_=>simp[V.shared1]at hjc
  have hFr:∀j,j<gQ (sg f).rs->aQ d j∈(List.range (gQ (sg f).rs)).map (aQ d ·):=fun j hj=>List.mem_map.2 ⟨j,List.mem_range.2 hj,rfl⟩
  have harg:∀(j:Nat) k z m cs,(aI (vsg f).cons 0 (xs.map (ev (get σ.env))))[j]?=some (.sl (.own j k) z m cs)->∃nm k' z m cs,(xs.map (ev (get σ.env)))[j]?=some (.sl (.own nm k') z m cs)/\(vsg f).cons.contains j=true:=by
   intro j k z m cs hj;rw[sQ]at hj;obtain⟨v,hv,he⟩:=Option.map_eq_some_iff.1 hj;rw[Nat.zero_add]at he;obtain⟨nm,k',rfl,hcn⟩:=aG2 he;exact⟨nm,k',_,_,_,hv,hcn⟩
  have hgone:pC (vsg f).cons (xs.map (ev (get σ.env))) (aX d w.results) w.results=true:=by
   unfold pC;rw[List.all_eq_true];intro j hj;obtain⟨c,hc,hjc⟩:=aG1 hj;obtain⟨g1,g2⟩:=hcells c hc;cases c with
   |sl l z m cs=>
    rcases g2 l z m cs rfl with rfl|⟨j',f',rfl,hlt⟩|⟨j',k',z',m',cs',rfl,hcn,hat⟩
    .simp[V.gone1,Lab.gone]at hjc
    .simp[V.gone1,Lab.gone]at hjc
    .simp only[V.gone1,Lab.gone,List.mem_singleton]at hjc;subst hjc;obtain⟨nm,k2',z2,m2,cs2,hv,_⟩:=harg j k' z' m' cs' hat;simp only[hcn,fL,hv,Bool.true_and,Bool.not_eq_true'];cases hct:(aX d w.results).contains nm with
     |false=>rfl
     |true=>
      exfalso;rw[List.contains_iff_mem]at hct;obtain⟨j2,hj2,_⟩:=List.mem_map.1 hct;obtain⟨_,f3,z3,m3,cs3,hin⟩:=hnews j2 hj2;rcases hone with hone|hone
      .rw[hone]at hcn;cases hcn
      .obtain⟨i1,hi1⟩:=List.getElem?_of_mem hc;obtain⟨i2,hi2⟩:=List.getElem?_of_mem hin;have:=sP q1' hi1 hi2 hone;subst this;rw[hi1]at hi2;cases hi2
   |ep=>exact(g1:False).elim
   |_=>simp[V.gone1]at hjc
  have hst:=k2 ⟨by rw[List.all_eq_true];intro j hj;have:=(hnews j hj).1;simp only[decide_eq_true_eq];omega,hgone,fun _=>q4⟩;have hlk':=hlk w bx' ((List.range (gQ (sg f).rs)).map (aQ d ·)) (fun j hj=>hFr j (hshared j hj).1);have htp':=htp w bx' ((List.range (gQ (sg f).rs)).map (aQ d ·)) (fun j hj=>hFr j (hnews j hj).1);have h2:=(k3.lock hlk').bump htp';have hG2:=(hG.lock hlk').bump htp';have hbox:(D d).isBox=false:=by
   obtain⟨hDb,_⟩:=eK hcget;rw[<-hDb];unfold wM;split<;>rfl
  have hF : ∀ (cl : List (Nat × Bool)) (i : Nat) l z m cs, V.sl l z m cs ∈ w.results.flatMap V.cells → aHg (vsg f).cons (aI (vsg f).cons 0 (xs.map (ev (get σ.env)))) (gQ (sg f).rs) cl i (.sl l z m cs) →
      bR (aT σ (aD (vsg f).cons 0 (xs.map (ev (get σ.env)))) (xs.map (ev (get σ.env))) d w bx').tips (aT σ (aD (vsg f).cons 0 (xs.map (ev (get σ.env)))) (xs.map (ev (get σ.env))) d w bx').lk X.gv (get σ.env)
       (aE4 U ((List.range (gQ (sg f).rs)).map (aQ d ·)) cl i) (fH d (aT σ (aD (vsg f).cons 0 (xs.map (ev (get σ.env)))) (xs.map (ev (get σ.env))) d w bx').tips (xs.map (ev (get σ.env))) l):=by
   intro cl i l z m cs hmem ⟨g1,g2⟩;rcases g1 with rfl|⟨j,f',rfl,hlt⟩|⟨j,k',z',m',cs',rfl,hcn,hat⟩
   · have hno : dU cl i = none := by
       cases hcl:dU cl i with
       |none=>rfl
       |some b=>exact absurd rfl (g2 b hcl).1
     refine⟨fun nm hnm=>(by cases hnm),fun _ nm k hl=>(by rcases hl with hl|hl<;>cases hl),fun hown=>?_,fun hpre=>?_,fun i hi=>(by cases hi),fun s c v hi=>(by cases hi)⟩
     .simp[aE4,hno]at hown
     .simp[aE4,hno]at hpre
   .refine⟨fun nm hnm=>?_,fun _ nm k hl=>?_,fun _=>⟨_,_,rfl⟩,fun _=>⟨_,_,.inl rfl⟩,fun i hi=>(by cases hi),fun s c v hi=>(by cases hi)⟩
    .have hnm:nm=aQ d j:=by simpa[Lab.names,fH]using hnm
     subst hnm;refine⟨List.mem_append_left _ (hFr j hlt),fun hun=>?_,fun hlt'=>by unfold aQ at hlt';omega⟩;simp only[aE4,Bool.and_eq_true,Bool.not_eq_true']at hun;obtain⟨hcl,hdis⟩:=hun;have hclaim:dU cl i=some true:=by
      cases hcq:dU cl i with
      |none=>rw[hcq]at hcl;cases hcl
      |some b=>rw[hcq]at hcl;simp only[Option.getD_some]at hcl;rw[hcl]
     obtain⟨j0,hj0⟩:=(g2 true hclaim).2 rfl;cases hj0;simp only[aT];rw[eP (fun hm=>?_)]
     .exact xC (List.mem_map.2 ⟨j,aB2 hmem,rfl⟩)
     .rcases List.mem_append.1 hm with hm|hm
      .obtain⟨j2,hj2,he⟩:=List.mem_map.1 hm;obtain⟨hlt2,z2,m2,cs2,hin⟩:=hshared j2 hj2;have:=aFE (by omega) (by omega) he;subst this;have:=q3 _ hmem _ hin _ _ _ _ _ _ _ _ _ rfl rfl;cases this
      .exact cL hdis _ (hFr j hlt) (r2.used _ hm)
    .rcases hl with hl|hl
     .cases hl;rfl
     .cases hl
   .obtain⟨nm,k2',z2,m2,cs2,hv,_⟩:=harg j k' z' m' cs' hat;have hnm0:iR (xs.map (ev (get σ.env))) j=nm:=by simp only[iR,hv]
    refine⟨fun nm' hnm=>?_,fun _ nm' k hl=>?_,fun _=>⟨_,_,rfl⟩,fun _=>⟨_,_,.inl rfl⟩,fun i hi=>(by cases hi),fun s c v hi=>(by cases hi)⟩
    .have hnm:nm'=iR (xs.map (ev (get σ.env))) j:=by simpa[Lab.names,fH]using hnm
     rw[hnm0]at hnm;subst hnm;have hin:=r2.used _ (aFD (i:=0) hv (by rw[Nat.zero_add];exact hcn));refine⟨List.mem_append_right _ hin,fun hun=>?_,fun hlt'=>r2.gv j _ _ _ _ _ hv hlt'⟩;simp only[aE4,Bool.and_eq_true]at hun;have hclaim:dU cl i=some true:=by
      cases hcq:dU cl i with
      |none=>rw[hcq]at hun;exact absurd hun.1 (by simp)
      |some b=>rw[hcq]at hun;simp only[Option.getD_some]at hun;rw[hun.1]
     obtain⟨j0,hj0⟩:=(g2 true hclaim).2 rfl;cases hj0
    .rcases hl with hl|hl
     .cases hl;rfl
     .cases hl
  obtain⟨m1,m2⟩:=xB (F:=fH d (aT σ (aD (vsg f).cons 0 (xs.map (ev (get σ.env)))) (xs.map (ev (get σ.env))) d w bx').tips (xs.map (ev (get σ.env)))) q1
  have hls : cD (aT σ (aD (vsg f).cons 0 (xs.map (ev (get σ.env)))) (xs.map (ev (get σ.env))) d w bx').tips (aT σ (aD (vsg f).cons 0 (xs.map (ev (get σ.env)))) (xs.map (ev (get σ.env))) d w bx').lk X.gv (get σ.env) (aIB U ((List.range (gQ (sg f).rs)).map (aQ d ·)) (sg f).rs 0)
      (packed (w.results.map (V.mapLab (fH d (aT σ (aD (vsg f).cons 0 (xs.map (ev (get σ.env)))) (xs.map (ev (get σ.env))) d w bx').tips (xs.map (ev (get σ.env))))))).kids:=by
   rw[sN m1,m2];intro i c hc;rw[List.getElem?_map]at hc;obtain⟨c0,hc0,rfl⟩:=Option.map_eq_some_iff.1 hc;exact aFB hF 0 q1' q2 (fun c hc=>hc) i c0 hc0
  refine⟨β,_,hst,?_,?_⟩
  .exact h2.pure hC hd hcd hcl hbox hreg (cp:=none) (ls:=aIB U ((List.range (gQ (sg f).rs)).map (aQ d ·)) (sg f).rs 0) (uW m1) (fun _=>⟨bS hcget (aCA hnb m1),hls,eB.none⟩) (fun hq=>absurd k4 hq)
  .exact hG2.same rfl rfl rfl rfl
end
end Go.VM
namespace Go.VM
section
variable{X:Cxt}{D:Nat->SY}{Λ:LS}{C:CC}{e:TE D}{β:Nat->Nat}{σ:St}{t0:Nat->Nat}{mk:List Nat}{sg:Nat->Sg}{cf:NF sg}{cfv:cO}{vsg:Nat->Sig}
def OD.skp{E:Type}(o:OD E)(e:E):E:=match o with
 |.t f=>f e
 |.p _ z _ h=>h e (z e)
theorem aHi{E R:Type}{o:OD E}{e:E}{K:E->Option R}{r:R}(h:o.go e (some false) K=some r):K (o.skp e)=some r:=by cases o<;>exact h
theorem fU{d:Nat}:∃x,(OD.fail:OD (TE D)).skp e=e.set d x:=⟨e d,TE.set_self.symm⟩
theorem sR{d:Nat}{t:Ty}{f:TE D->t.den}:∃x,(OD.tot D d t f).skp e=e.set d x:=by
 unfold OD.tot;split
 .exact⟨_,rfl⟩
 .exact fU
theorem xD{d:Nat}{t:Ty}{f:TE D->Option t.den}:∃x,(OD.par D d t f).skp e=e.set d x:=by
 unfold OD.par;split
 .exact⟨_,rfl⟩
 .exact fU
theorem aG4{d:Nat}{op:BinOp}{k:IntKind}{a b:TE D->Int}{bc:Option Int}:∃x,(aGx D d op k a b bc).skp e=e.set d x:=by
 unfold aGx
 repeat' split
 all_goals first|exact sR|exact xD|exact fU
theorem aG5{d:Nat}{op:BinOp}{a b:TE D->List UInt8}:∃x,(aHz D d op a b).skp e=e.set d x:=by
 unfold aHz
 repeat' split
 all_goals first|exact sR|exact xD|exact fU
theorem aDW{d:Nat}{l:Bool}{k:IntKind}{a b:TE D->Int}{bc:Option Int}:∃x,(uM D d l k a b bc).skp e=e.set d x:=by
 unfold uM
 repeat' split
 all_goals first|exact sR|exact xD|exact fU
def VOp.isCall:VOp->Bool
 |.call ..=>true
 |.allocB _=>true
 |.boxB ..=>true
 |_=>false
theorem aB3{d:Nat}{op:VOp}(h:op.isCall=false):∃x,(dop D cf (some d) op).skp e=e.set d x:=by
 cases op
 case call=>cases h
 case allocB=>cases h
 case boxB=>cases h
 case mkfn f0 a0 cap=>cases f0<;>cases a0<;>(simp only[dop];repeat' split)<;>first|exact fU|exact⟨e d,TE.set_self.symm⟩
 case len st x=>cases st<;>(simp only[dop];repeat' split)<;>first|exact sR|exact fU
 all_goals
  simp only[dop]
  repeat' split
  all_goals first|exact sR|exact xD|exact fU|exact aG4|exact aG5|exact aDW|exact⟨_,rfl⟩|exact⟨e d,TE.set_self.symm⟩
theorem oY:∀{ts us:List Ty} {x:(Ty.row ts).den} {y:(Ty.row us).den},pI ts us (nD ts us x y)=y
 |[],_,_,_=>rfl
 |t::r,us,x,y=>by
  show pI r us (eA t (r++us) (aP t (r++us) _ _))=y;rw[cF];exact oY
theorem aHj{y y':SY}{f:y.den->y'.den}{g:y'.den->y.den}(h:SY.get y y'=some f)(h':SY.get y' y=some g)(x:y'.den):f (g x)=x:=by
 obtain⟨e1,rfl⟩:=eK h;obtain⟨e2,rfl⟩:=eK h';cases e1;rfl
theorem aHk{t:Ty}{r:List PK}{x:Opd}{xs:List Opd}{g:TE D->(Ty.row (bD r)).den}(h:bxNow D (.d t::r) (x::xs)=some g):bxNow D r xs=some g:=h
theorem aHl{t:Ty}{r:List PK}{x:Opd}{xs:List Opd}{g:TE D->(Ty.row (bD (.p t::r))).den}(h:bxNow D (.p t::r) (x::xs)=some g) :
  ∃b f g',adO D x=.ptr b 0/\SY.get (D b) (.box t)=some f/\bxNow D r xs=some g'/\g=fun e=>aP t (bD r) (f (e b)) (g' e):=by
 have h:(match adO D x with
  |.ptr b 0=>match SY.get (D b) (.box t),bxNow D r xs with
   |some f,some g=>some fun e=>aP t (bD r) (f (e b)) (g e)
   |_,_=>none
  |_=>none)=some g:=h
 split at h
 .rename_i b hb;split at h
  .rename_i f g' hf hg;exact⟨b,f,g',hb,hf,hg,(Option.some.inj h).symm⟩
  .cases h
 .cases h
theorem aG6(ps:List PK):∀(xs:List Opd) (g:TE D->(Ty.row (bD ps)).den->TE D) (b:TE D->(Ty.row (bD ps)).den),oL D ps xs=some g->bxNow D ps xs=some b->∀e:TE D,g e (b e)=e:=by
 induction ps with
 |nil=>
  intro xs g b hg _ e;rw[aAD]at hg;have hg:=Option.some.inj hg;subst hg;rfl
 |cons p r ih=>
  intro xs g b hg hb e;cases xs with
  |nil=>rw[aBz]at hg;cases hg
  |cons x xs=>
   cases p with
   |d t=>exact ih xs g b (aEy hg) (aHk hb) e
   |p t=>
    obtain⟨i,f,g',h1,h2,h3,rfl⟩:=aEz hg;obtain⟨i',f2,b',h1',h4,h5,rfl⟩:=aHl hb;rw[h1]at h1';cases h1';show g' (e.set i (f (dT t (bD r) (aP t (bD r) (f2 (e i)) (b' e))))) (eA t (bD r) (aP t (bD r) (f2 (e i)) (b' e)))=e;rw[cM,cF,aHj h2 h4,TE.set_self];exact ih xs g' b' h3 h5 e
theorem aCB{d f:Nat}{xs:List Opd}{q:Bool}{av:List Nat}(hnb:(sg f).nb=none):∃x,(dop D cf (some d) (.call f xs q av)).skp e=e.set d x:=by
 simp only[dop,aBI];split
 .rename_i a g b ha hg hb;split
  .rename_i t hnb';rw[hnb]at hnb';cases hnb'
  .split
   .rename_i c hc;simp only[OD.skp];rw[oY,aG6 _ _ _ _ hg hb e];exact⟨_,rfl⟩
   .exact fU
 .exact fU
def VOp.special:VOp->Bool
 |.allocR _|.boxR ..|.allocB _|.boxB ..|.store ..|.bslice true ..|.append ..|.call ..|.callv ..|.fail=>true
 |_=>false
theorem xE{d:Nat}{op:VOp}{cs:List (Nat×Bool)}(hs:op.special=false):cop D Λ C sg vsg cs (some d) op=match lA D Λ C cs d op with
  |some (ls,cp)=>if wO (D d)then some ((Λ.asg D d).put d (SV.uncp d ⟨ls,cp⟩))else none
  |none=>if aCs op (D d)=true then some (Λ.asg D d)else none:=by
 cases op with
 |bslice b=>cases b with
  |true=>cases hs
  |false=>rfl
 |_=>first|rfl|cases hs
theorem mC{d:Nat}{op:VOp}(hs:op.special=false):aU cfv vsg σ t0 (some d) op=match aB (get σ.env) t0 σ.clk σ.bx d op with
  |some v=>some {σ with env:=set σ.env d v}
  |none=>none:=by
 cases op with
 |bslice b=>cases b with
  |true=>cases hs
  |false=>rfl
 |_=>first|rfl|cases hs
theorem sS{d:Nat}(h:wO (D d)=true):(rty D d).isSome=false:=by
 unfold rty;split
 .rename_i t ht;rw[ht]at h;cases h
 .rfl
theorem aFI{d:Nat}{t:Ty}(h:dty D d=some t):(rty D d).isSome=false:=by
 unfold rty;rw[(dty_some h).1];rfl
theorem xF{d b o:Nat}(h:D d=.ptr b o):(rty D d).isSome=false:=by
 unfold rty;rw[h];rfl
theorem xG{op:VOp}{y:SY}(h:aCs op y=true):op=.mv (.const .nilp)/\∃b o,y=.ptr b o:=by
 unfold aCs at h;split at h
 .exact⟨rfl,_,_,rfl⟩
 .cases h
theorem RS.kill(h:RS X D Λ C e β σ){d:Nat}{cs:List (Nat×Bool)}{w:V}(_:bU C (some d)=true)(hd:d<100000)(hcl:∀q∈cs,q.1<100000)(hw:aN w=false) :
  RS X D (Λ.asg D d) (oM C (some d) cs) e β {σ with env:=set σ.env d w}:=by
 have hE:get (set σ.env d w)=upd (get σ.env) d w:=bG _ _ _;refine⟨fun s sv hs hh=>?_,fun s sv hs hh=>?_,fun s hs=>?_,fun s hs=>?_,h.nb,fun b sv hb hs=>?_,fun b sv b' sv' hb hs hb' hs'=>?_,aHA h.cc hd hcl,h.b3⟩
 .simp only[hE];obtain⟨u,h1,rfl,hne,hrf,hrv⟩:=eJ hs;rw[condOf_add_ne hne]at hh;obtain⟨k1,k2,k3⟩:=h.yes s u h1 hh;have hu:∀s',s'≠d->upd (get σ.env) d w s'=get σ.env s':=fun s' hs'=>by simp[upd,hs']
  rw[hu s hne];refine⟨k1.congr fun s' hr=>hu s' fun e=>(by rw[e]at hr;rw[hr]at hrf;cases hrf),?_,k3.congr' ?_⟩
  .rw[jF];exact k2.env fun s' i hi=>hu s' fun e=>nG hrv i (by rw[hi,e])
  .exact fun r o hc=>⟨(eV hc).1,hu r (eV hc).2⟩
 .simp only[hE];obtain⟨u,h1,rfl,hne,hrf,hrv⟩:=eJ hs;rw[condOf_add_ne hne]at hh;simp only[upd,if_neg hne];exact h.no s u h1 hh
 .simp only[hE,upd]at hs;split at hs
  .rw[hw]at hs;cases hs
  .exact h.rg s hs
 .simp only[hE,upd];rw[if_neg (by omega)];exact h.hi s hs
 .obtain⟨u,h1,_⟩:=eJ hs;exact h.b1 b u hb h1
 .obtain⟨u,h1,_⟩:=eJ hs;obtain⟨u',h1',_⟩:=eJ hs';exact h.b2 b u b' u' hb h1 hb' h1'
theorem xH{d:Nat}{op:VOp}{cs:List (Nat×Bool)}{Λ':LS}(hc:cop D Λ C sg vsg cs (some d) op=some Λ'):op.makesR=true\/(rty D d).isSome=false:=by
 by_cases hs:op.special=false
 .rw[xE hs]at hc;split at hc
  .split at hc
   .rename_i hv;exact .inr (sS hv)
   .cases hc
  .split at hc
   .rename_i hv;obtain⟨_,b,o,hD⟩:=xG hv;exact .inr (xF hD)
   .cases hc
 .cases op with
  |allocR=>exact .inl rfl
  |boxR=>exact .inl rfl
  |allocB=>
   simp only[cop]at hc;split at hc
   .rename_i h;exact .inr (xF h.2)
   .cases hc
  |boxB=>
   simp only[cop]at hc;split at hc
   .split at hc
    .rename_i h;exact .inr (xF h.2.1)
    .cases hc
   .cases hc
  |store=>cases hc
  |callv=>cases hc
  |fail=>
   simp only[cop]at hc;split at hc
   .rename_i h;exact .inr h.2
   .cases hc
  |bslice b=>
   cases b with
   |false=>exact absurd rfl hs
   |true=>
    simp only[cop]at hc;split at hc
    .rename_i h _;exact .inr (aFI h)
    .cases hc
  |append=>
   simp only[cop]at hc;split at hc
   .rename_i h _ _;exact .inr (aFI h)
   .cases hc
  |call f xs q av=>
   simp only[cop]at hc;split at hc
   case h_2=>
    split at hc
    .split at hc
     .rename_i h;exact .inr (sS h.2.2.2.2.2)
     .cases hc
    .cases hc
   split at hc
   case h_2=>cases hc
   split at hc
   case isFalse=>cases hc
   split at hc
   .split at hc
    .rename_i h;exact .inr (xF h.2.1)
    .cases hc
   .split at hc
    .rename_i h;exact .inr (sS h)
    .cases hc
  |_=>exact absurd rfl hs
theorem aCC{op:VOp}{cs:List (Nat×Bool)}{Λ':LS}(hc:cop D Λ C sg vsg cs none op=some Λ'):cs=[]/\((∃rt sz a x,op=.store rt sz a x)\/op=.fail):=by
 cases op with
 |fail=>
  simp only[cop]at hc;split at hc
  .rename_i h;exact⟨h,.inr rfl⟩
  .cases hc
 |store rt sz a x=>
  refine⟨?_,.inl ⟨rt,sz,a,x,rfl⟩⟩;simp only[cop]at hc;split at hc
  .split at hc
   .rename_i h;exact h.1
   .cases hc
  .cases hc
 |_=>cases hc
theorem aFJ(y:SY):(∃s off,y=.rp s off)\/(∃s off len u,y=.rx s off len u)\/(∃b off,y=.ptr b off)\/(∃t off r,y=.ep t off r)\/((∀s off,y≠.rp s off)/\(∀s off len u,y≠.rx s off len u)/\(∀b off,y≠.ptr b off)/\∀t off r,y≠.ep t off r):=by
 cases y with
 |rp s off=>exact .inl ⟨_,_,rfl⟩
 |rx s off len u=>exact .inr (.inl ⟨_,_,_,_,rfl⟩)
 |ptr b off=>exact .inr (.inr (.inl ⟨_,_,rfl⟩))
 |ep t off r=>exact .inr (.inr (.inr (.inl ⟨_,_,_,rfl⟩)))
 |_=>exact .inr (.inr (.inr (.inr ⟨fun _ _ h=>(by cases h),fun _ _ _ _ h=>(by cases h),fun _ _ h=>(by cases h),fun _ _ _ h=>(by cases h)⟩)))
theorem aHC(hcf:∀f,aF7 vsg cfv f (cf f))(h:RS X D Λ C e β σ)(hG:RG Λ t0 mk σ){dst:Option Nat}{op:VOp}{cs:List (Nat×Bool)}(hh:holds e cs)(hd:∀d,dst=some d->d<100000)(hC:bU C dst=true)
  (hcd:∀d,dst=some d->∀q∈cs,q.1≠d) (hcl:∀q∈cs,q.1<100000) (hm:∀nm∈cB [⟨dst,op,none⟩],nm∈mk):Eff X D cf cfv vsg Λ C e β σ t0 mk cs dst op:=by
 cases dst with
 |none=>
  intro Λ' e' hc ho;obtain⟨rfl,⟨rt,sz,a,x,rfl⟩|rfl⟩:=aCC hc
  case inr=>exact(fail_out ho).elim
  rcases aFJ (adO D a)with⟨s,off,ha⟩|⟨s,off,len,u,ha⟩|⟨b,off,ha⟩|⟨t,off,r,ha⟩|⟨h1,h2,h3,h4⟩
  .exact aBW h hG ha hc ho
  .exact aBX h hG ha hc ho
  .exact aBY h hG ha hc ho
  .exact aBZ h hG ha hc ho
  .exfalso;simp only[cop]at hc;split at hc
   .split at hc
    .split at hc
     .rename_i ha;exact h1 _ _ ha
     .rename_i ha;exact h2 _ _ _ _ ha
     .rename_i ha;exact h3 _ _ ha
     .rename_i ha;exact h4 _ _ _ ha
     .cases hc
    .cases hc
   .cases hc
 |some d=>
  have hd:=hd d rfl;have hcd:=hcd d rfl;intro Λ' e' hc ho;have hreg:op.makesR=false->aN (get σ.env d)=false:=fun hmk=>by
   rcases xH hc with hq|hq
   .rw[hmk]at hq;cases hq
   .exact h.noreg hq
  by_cases hs:op.special=false
  .have hmk:op.makesR=false:=by cases op<;>first|rfl|cases hs
   rw[xE hs]at hc;split at hc
   .rename_i ls cp hcv;split at hc
    .rename_i hval;cases hc;obtain⟨x,w,rfl,h1,h2,h3,h4,h5⟩:=aDL h hG hh hm hcv hval ho;refine⟨β,_,by rw[mC hs,h1],h.pure hC hd hcd hcl (kK hval) (hreg hmk) h5 (fun _=>⟨h2,h3,h4⟩) (fun hq=>absurd hh hq),hG.same rfl rfl rfl rfl⟩
    .cases hc
   .split at hc
    .rename_i hnil;cases hc;obtain⟨rfl,b,o,hD⟩:=xG hnil;simp only[dop]at ho;rw[show opd D (.const .nilp) (D d)=none by rw[hD];rfl]at ho;simp only at ho;rw[if_pos hnil]at ho;cases ho;exact⟨β,_,by rw[mC hs];rfl,h.kill hC hd hcl rfl,hG.same rfl rfl rfl rfl⟩
    .cases hc
  .cases op with
   |allocR=>exact aDO h hG hd hC hc ho
   |boxR=>exact aGT h hG hd hC hh hc ho
   |allocB=>exact aDP h hG hd hC (hreg rfl) hc ho
   |boxB=>exact aGU h hG hd hC (hreg rfl) hh hc ho
   |store=>cases hc
   |callv=>cases hc
   |fail=>exact(fail_out ho).elim
   |bslice b=>
    cases b with
    |false=>exact absurd rfl hs
    |true=>exact aDQ h hG hd hC (hreg rfl) hh hcd hcl (hm _ (by simp[cB])) hc ho
   |append=>exact aDS h hG hd hC (hreg rfl) hh hcd hcl hc ho
   |call=>exact aG3 hcf h hG hd hC (hreg rfl) hh hcd hcl hc ho
   |_=>exact absurd rfl hs
theorem aHm(h:RS X D Λ C e β σ)(hG:RG Λ t0 mk σ){d:Nat}{op:VOp}{cs:List (Nat×Bool)}(hh:¬holds e cs)(hd:d<100000)(hC:bU C (some d)=true)
  (hcd:∀q∈cs,q.1≠d) (hcl:∀q∈cs,q.1<100000) {Λ':LS} (hc:cop D Λ C sg vsg cs (some d) op=some Λ') :
  aN (get σ.env d)=false/\RS X D Λ' (oM C (some d) cs) ((dop D cf (some d) op).skp e) β {σ with env:=set σ.env d (.tup [])}/\RG Λ' t0 mk {σ with env:=set σ.env d (.tup [])}:=by
 have hne:cs≠[]:=fun e0=>hh (by subst e0;exact fun s w hs=>by cases hs)
 have hreg:op.makesR=false->aN (get σ.env d)=false:=fun hmk=>by
  rcases xH hc with hq|hq
  .rw[hmk]at hq;cases hq
  .exact h.noreg hq
 have hdb:∀{t:Ty},dty D d=some t->(D d).isBox=false:=fun ht=>by rw[(dty_some ht).1];rfl
 by_cases hs:op.special=false
 .have hmk:op.makesR=false:=by cases op<;>first|rfl|cases hs
  have hcall:op.isCall=false:=by cases op<;>first|rfl|cases hs
  obtain⟨x,hx⟩:=aB3 (D:=D) (cf:=cf) (e:=e) (d:=d) hcall;rw[hx];rw[xE hs]at hc;split at hc
  .rename_i ls cp hcv;split at hc
   .rename_i hval;cases hc;exact⟨hreg hmk,h.pure hC hd hcd hcl (kK hval) (hreg hmk) rfl (fun hq=>absurd hq hh) (fun _=>rfl),hG.same rfl rfl rfl rfl⟩
   .cases hc
  .split at hc
   .rename_i hnil;cases hc;obtain⟨rfl,b,o,hD⟩:=xG hnil;have hx2:(dop D cf (some d) (.mv (.const .nilp))).skp e=e:=by
     simp only[dop];rw[show opd D (.const .nilp) (D d)=none by rw[hD];rfl];simp only;rw[if_pos hnil];rfl
    rw[<-hx,hx2];exact⟨hreg hmk,h.kill hC hd hcl rfl,hG.same rfl rfl rfl rfl⟩
   .cases hc
 .cases op with
  |allocR=>
   simp only[cop]at hc;split at hc
   .rename_i h;exact absurd h.1 hne
   .cases hc
  |boxR=>
   simp only[cop]at hc;split at hc
   .split at hc
    .rename_i h;exact absurd h.1 hne
    .cases hc
   .cases hc
  |allocB=>
   simp only[cop]at hc;split at hc
   .rename_i h;exact absurd h.1 hne
   .cases hc
  |boxB=>
   simp only[cop]at hc;split at hc
   .split at hc
    .rename_i h;exact absurd h.1 hne
    .cases hc
   .cases hc
  |store=>cases hc
  |callv=>cases hc
  |fail=>
   simp only[cop]at hc;split at hc
   .rename_i h;exact absurd h.1 hne
   .cases hc
  |bslice b=>
   cases b with
   |false=>exact absurd rfl hs
   |true=>
    obtain⟨x,hx⟩:=aB3 (D:=D) (cf:=cf) (e:=e) (d:=d) (op:=.bslice true _ _ _ _) rfl;rw[hx];simp only[cop]at hc;split at hc
    .rename_i ht _;split at hc
     .cases hc;exact⟨hreg rfl,(h.lock (fun _ _ hl=>hl)).pure (cp:=none) hC hd hcd hcl (hdb ht) (hreg rfl) rfl (fun hq=>absurd hq hh) (fun _=>rfl),(hG.lock (fun _ _ hl=>hl)).same rfl rfl rfl rfl⟩
     .cases hc
    .cases hc
  |append=>
   obtain⟨x,hx⟩:=aB3 (D:=D) (cf:=cf) (e:=e) (d:=d) (op:=.append _ _ _ _ _ _ _) rfl;rw[hx];simp only[cop]at hc;split at hc
   .rename_i ht _ _;split at hc
    .split at hc
     .cases hc;exact⟨hreg rfl,(h.bump (fun _ _=>rfl)).pure (cp:=none) hC hd hcd hcl (hdb ht) (hreg rfl) rfl (fun hq=>absurd hq hh) (fun _=>rfl),(hG.bump (fun _ _=>rfl)).same rfl rfl rfl rfl⟩
     .split at hc
      .cases hc;exact⟨hreg rfl,(h.keep.bump (fun _ _=>rfl)).pure (cp:=none) hC hd hcd hcl (hdb ht) (hreg rfl) rfl (fun hq=>absurd hq hh) (fun _=>rfl),(hG.bump (fun _ _=>rfl)).same rfl rfl rfl rfl⟩
      .cases hc
    .cases hc
   .cases hc
  |call f xs q av=>
   simp only[cop]at hc;split at hc
   case h_2=>
    split at hc
    .split at hc
     .rename_i hk;cases hc;obtain⟨x,hx⟩:=aCB (D:=D) (cf:=cf) (e:=e) (d:=d) (xs:=xs) (q:=q) (av:=av) hk.2.2.2.1;rw[hx];exact⟨hreg rfl,(h.lock (fun _ _ hl=>hl)).pure (cp:=none) hC hd hcd hcl (kK hk.2.2.2.2.2) (hreg rfl) rfl (fun hq=>absurd hq hh) (fun _=>rfl),(hG.lock (fun _ _ hl=>hl)).same rfl rfl rfl rfl⟩
     .cases hc
    .cases hc
   split at hc
   case h_2=>cases hc
   split at hc
   case isFalse=>cases hc
   split at hc
   .split at hc
    .rename_i h;exact absurd h.1 hne
    .cases hc
   .rename_i hnb;split at hc
    case isFalse=>cases hc
    rename_i hval;cases hc;obtain⟨x,hx⟩:=aCB (D:=D) (cf:=cf) (e:=e) (d:=d) (xs:=xs) (q:=q) (av:=av) hnb;rw[hx];exact⟨hreg rfl,((h.lock (fun _ _ hl=>hl)).bump (fun _ _=>rfl)).pure (cp:=none) hC hd hcd hcl (kK hval) (hreg rfl) rfl (fun hq=>absurd hq hh) (fun _=>rfl),((hG.lock (fun _ _ hl=>hl)).bump (fun _ _=>rfl)).same rfl rfl rfl rfl⟩
  |_=>exact absurd rfl hs
end
def mG(σ σ':St):Prop:=(∃r,σ'.env.map (·.1)=σ.env.map (·.1)++r)/\∀nm,nm<64->σ.lk nm=true->σ'.lk nm=true
theorem xI:∀(e:Env) (s:Nat) (v:V),∃r,(set e s v).map (·.1)=e.map (·.1)++r
 |[],s,v=>⟨[s],rfl⟩
 |(a,u)::r,s,v=>by
  unfold set;split
  .exact⟨[],by simp⟩
  .obtain⟨q,hq⟩:=xI r s v;exact⟨q,by rw[List.map_cons,hq];rfl⟩
theorem aCD(nm k:Nat)(cs':List V)(e:Env):(bY nm k cs' e).map (·.1)=e.map (·.1):=by
 unfold bY;rw[List.map_map];rfl
theorem mG.refl(σ:St):mG σ σ:=⟨⟨[],by simp⟩,fun _ _ h=>h⟩
theorem mG.trans{σ τ υ:St}(h:mG σ τ)(h':mG τ υ):mG σ υ:=by
 obtain⟨⟨r,h1⟩,h2⟩:=h;obtain⟨⟨r',h3⟩,h4⟩:=h';exact⟨⟨r++r',by rw[h3,h1,List.append_assoc]⟩,fun nm hn hl=>h4 nm hn (h2 nm hn hl)⟩
theorem mG.mk'{σ:St}{d:Nat}{v:V}{tips:Nat->Nat}{lk:Nat->Bool}{bx:BX}{c:Nat}(h:∀nm,nm<64->σ.lk nm=true->lk nm=true):mG σ ⟨c,set σ.env d v,tips,lk,bx⟩:=⟨xI _ _ _,h⟩
theorem iN{lk:Nat->Bool}{N:List Nat}{nm:Nat}(h:lk nm=true):fB lk true N nm=true:=dK.2 (.inr h)
theorem aFK{d i nm:Nat}(h:nm<64):nm≠aQ d i:=by unfold aQ;omega
theorem aFL{cf:cO}{sg:Nat->Sig}{σ σ':St}{d:Option Nat}{f:Nat}{vs:List V}{q:Bool}{av:List Nat}(h:mI cf sg σ d f vs q av=some σ'):mG σ σ':=by
 unfold mI at h;split at h
 .cases h
 .split at h
  .split at h
   .cases h
   .split at h
    .cases h;refine mG.mk' fun nm hn hl=>?_
     apply iN;rw[eP fun hm=>?_]
     .split
      .exact hl
      .exact iN hl
     .obtain⟨j,_,he⟩:=List.mem_map.1 hm;exact aFK hn he.symm
    .cases h
  .cases h
theorem uY{cf:cO}{sg:Nat->Sig}{σ σ':St}{d:Option Nat}{f:Nat}{vs:List V}{q:Bool}{av:List Nat}(h:eQ cf sg σ d f vs q av=some σ'):mG σ σ':=by
 unfold eQ at h;split at h
 .unfold tD at h;cases d with
  |none=>cases h
  |some d=>
   simp only at h;split at h
   .split at h
    .cases h
    .split at h
     .cases h;exact mG.mk' fun _ _ hl=>hl
     .cases h
   .cases h
 .exact aFL h
theorem aB4{σ σ':St}{rt:RT}{sz:Nat}{a v:V}(h:storeAt σ rt sz a v=some σ'):mG σ σ':=by
 unfold storeAt at h;split at h
 .split at h
  .split at h
   .cases h;exact mG.mk' fun _ _ hl=>hl
   .cases h
  .cases h
 .split at h
  .split at h
   .cases h;exact⟨⟨[],by simp⟩,fun _ _ hl=>iN hl⟩
   .cases h
  .cases h
 .split at h
  .cases h;exact⟨⟨[],by rw[List.append_nil];exact aCD _ _ _ _⟩,fun _ _ hl=>iN hl⟩
  .cases h
 .cases h
theorem aB5{σ σ':St}{d bytes:Nat}{cut:Bool}{z:Nat}{s:V}{m:Nat}{news:List V}(h:append2 σ d bytes cut z s m news=some σ'):mG σ σ':=by
 unfold append2 at h;split at h
 .split at h
  .split at h
   .cases h;exact mG.mk' fun _ _ hl=>hl
   .cases h;refine mG.mk' fun nm hn hl=>?_
    simp only[upd,if_neg (aFK hn)];exact hl
  .cases h
 .split at h
  .cases h;exact mG.mk' fun _ _ hl=>hl
  .cases h
 .split at h
  .cases h;obtain⟨r,hr⟩:=xI (bY _ _ [] σ.env) d (.sl (.own _ _) z _ _);exact⟨⟨r,by rw[hr,aCD]⟩,fun _ _ hl=>hl⟩
  .cases h
 .cases h
theorem aFM{cf:cO}{sg:Nat->Sig}{σ σ':St}{t0:Nat->Nat}{d:Option Nat}{op:VOp}(h:aU cf sg σ t0 d op=some σ'):mG σ σ':=by
 by_cases hs:op.special=false
 .cases d with
  |none=>exfalso;cases op with
   |bslice b=>cases b with
    |true=>cases hs
    |false=>cases h
   |_=>first|cases h|cases hs
  |some d=>
   rw[mC hs]at h;split at h
   .cases h;exact mG.mk' fun _ _ hl=>hl
   .cases h
 .cases op with
  |allocR=>cases d with
   |none=>cases h
   |some d=>cases h;exact mG.mk' fun _ _ hl=>hl
  |boxR=>cases d with
   |none=>cases h
   |some d=>
    simp only[aU]at h;split at h
    .cases h;exact mG.mk' fun _ _ hl=>hl
    .cases h
  |allocB=>
   simp only[aU]at h;split at h
   .cases h;exact mG.mk' fun _ _ hl=>hl
   .cases h
  |boxB=>
   simp only[aU]at h;split at h
   .split at h
    .cases h;exact mG.mk' fun _ _ hl=>iN hl
    .cases h
   .cases h
  |store=>
   simp only[aU]at h;split at h
   .exact aB4 h
   .cases h
  |callv=>
   simp only[aU]at h;split at h
   .exact uY h
   .cases h
  |fail=>simp only[aU]at h;split at h<;>first|cases h|(split at h<;>cases h)
  |call=>exact uY h
  |append=>
   simp only[aU]at h;split at h
   .split at h
    .exact aB5 h
    .cases h
   .cases h
  |bslice b=>
   cases b with
   |false=>exact absurd rfl hs
   |true=>
    simp only[aU]at h;split at h
    .split at h
     .cases h;exact mG.mk' fun _ _ hl=>iN hl
     .cases h
    .cases h
  |_=>exact absurd rfl hs
theorem aDX{cf:cO}{sg:Nat->Sig}{σ σ':St}{t0:Nat->Nat}{o:VOper}(h:bH cf sg t0 σ o=some σ'):mG σ σ':=by
 unfold bH at h;split at h
 .split at h
  .cases h
  .exact aFM h
 .split at h
  .split at h
   .cases h
   .cases h;exact mG.mk' fun _ _ hl=>hl
  .cases h;exact mG.refl _
 .cases h
theorem uZ{cf:cO}{sg:Nat->Sig}{t0:Nat->Nat}:∀{ops:List VOper} {σ σ':St},eD cf sg t0 σ ops=some σ'->mG σ σ'
 |[],_,_,h=>by cases h;exact mG.refl _
 |o::r,σ,σ',h=>by
  simp only[eD]at h;split at h
  .rename_i τ hτ;exact(aDX hτ).trans (uZ h)
  .cases h
theorem qD:∀{ops:List VOper} {nm:Nat},nm∈cB ops->64<=nm
 |o::r,nm,h=>by
  simp only[cB]at h;split at h
  .rcases List.mem_cons.1 h with rfl|h
   .unfold aQ;omega
   .exact qD h
  .rcases List.mem_cons.1 h with rfl|h
   .unfold aQ;omega
   .exact qD h
  .rcases List.mem_cons.1 h with rfl|h
   .unfold aQ;omega
   .exact qD h
  .exact qD h
theorem aAH:∀{env:Env} {kept r:List Nat},env.map (·.1)=kept++r->∀s,(s∈kept->get (env.take kept.length) s=get env s)/\(s∉kept->get (env.take kept.length) s=.undef)
 |env,[],r,h,s=>⟨fun hs=>(by cases hs),fun _=>rfl⟩
 |(a,v)::env,b::kept,r,h,s=>by
  simp only[List.map_cons,List.cons_append,List.cons.injEq]at h;obtain⟨rfl,h⟩:=h;obtain⟨h1,h2⟩:=aAH h s;simp only[List.length_cons,List.take_succ_cons,get];constructor
  .intro hs;split
   .rfl
   .rename_i hne;exact h1 ((List.mem_cons.1 hs).resolve_left (Ne.symm hne))
  .intro hs;simp only[List.mem_cons,not_or]at hs;rw[if_neg (Ne.symm hs.1)];exact h2 hs.2
end Go.VM
namespace Go.VM
section
variable{X:Cxt}{D:Nat->SY}{Λ Λ':LS}{C:CC}{e:TE D}{β:Nat->Nat}{σ:St}{t0:Nat->Nat}{mk:List Nat}{sg:Nat->Sg}{cf:NF sg}{cfv:cO}{vsg:Nat->Sig}
theorem cH{D:Nat->SY}{e:TE D}:holds e []:=fun s w h=>by cases h
theorem dN{s:Nat}{w:Bool}{cs:List (Nat×Bool)}:holds e ((s,w)::cs)↔pP e s w=true/\holds e cs:=by
 constructor
 .exact fun h=>⟨h s w (by simp),fun s' w' h'=>h s' w' (List.mem_cons_of_mem _ h')⟩
 .exact fun h=>oS h.1 h.2
theorem oZ:∀{cs:List (Nat×Bool)},rS e cs=true↔holds e cs
 |[]=>⟨fun _=>cH,fun _=>rfl⟩
 |[(s,w)]=>by
  rw[dN];exact⟨fun h=>⟨h,cH⟩,fun h=>h.1⟩
 |(s,w)::c::r=>by
  rw[dN,<-oZ (cs:=c::r)];show(pP e s w&&rS e (c::r))=true↔_;rw[Bool.and_eq_true]
theorem aG7(h:RS X D Λ C e β σ){dst:Option Nat}{op:VOp}{cs:List (Nat×Bool)}(hc:cop D Λ C sg vsg cs dst op=some Λ'):(xL (get σ.env) dst&&!op.makesR)=false:=by
 cases dst with
 |none=>rfl
 |some d=>
  rcases xH hc with hq|hq
  .rw[hq];simp
  .have:=h.noreg hq;simp only[xL,this,Bool.false_and]
theorem aDY(o:VOper)(r:List VOper):cB (o::r)=cB [⟨o.dst,o.op,none⟩]++cB r:=by
 simp only[cB];split<;>rfl
theorem cN.boolv{E:Nat->V}{bx:BX}{s:Nat}{y:SY}{x:y.den}{v:V}(hy:y=.d .bool)(h:cN E β bx s y x v):v=.bool (SY.asB y x):=by
 subst hy;exact nH (v:=v) (b:=x) h
theorem vrel_fn{f:Nat}{b:(Ty.fn f).den}{v:V}(h:gP (.fn f) b v):v=.fn (.func f) [] []:=by
 obtain⟨h1,h2⟩:=h;cases v<;>first|(cases h1;done)|simp_all[V.isAgg,Ty.agg,V.cells,bP]
theorem RS.opF(h:RS X D Λ C e β σ){cs:List (Nat×Bool)}(hh:holds e cs){x:Opd}{f:Nat}{bs:List Nat}(hf:fnO D x=some (f,bs))(hr:(rd D Λ C cs x).isSome=true):ev (get σ.env) x=.fn (.func f) [] (bs.map fun b=>.bp (β b) 0):=by
 cases x with
 |const v=>
  unfold fnO at hf;split at hf
  .rename_i e0;cases e0
  .rename_i e0;cases e0;cases hf;rfl
  .cases hf
 |tmp s=>
  obtain⟨l,hl⟩:=Option.isSome_iff_exists.1 hr;by_cases hclo:∃f bs,D s=.clo f bs
  .obtain⟨f',bs',hd⟩:=hclo;have hf':f'=f/\bs'=bs:=by
    simp only[fnO,hd,Option.some.injEq,Prod.mk.injEq]at hf;exact hf
   obtain⟨rfl,rfl⟩:=hf';have ho:(SY.rd s (D s) (.clo f' bs')).isSome=true:=by rw[hd];simp[SY.rd,SY.get]
   obtain⟨g,hg⟩:=Option.isSome_iff_exists.1 ho;exact(h.opd hh (x:=.tmp s) (y:=.clo f' bs') (f:=fun e=>g (e s)) (by unfold Go.VM.opd;simp only;rw[hg];rfl) hl 0).1
  have hd:D s=.d (.fn f)/\bs=[]:=by
   simp only[fnO]at hf;split at hf
   .rename_i g e0;cases hf;exact⟨e0,rfl⟩
   .rename_i g bs' e0;exact absurd ⟨_,_,e0⟩ hclo
   .cases hf
  obtain⟨hd,rfl⟩:=hd;have ho:(SY.rd s (D s) (.d (.fn f))).isSome=true:=by rw[hd];simp[SY.rd,SY.get]
  obtain⟨g,hg⟩:=Option.isSome_iff_exists.1 ho;exact vrel_fn (h.opD hh (t:=.fn f) (f:=fun e=>g (e s)) (by unfold Go.VM.opD Go.VM.opd;simp only;rw[hg];rfl) hl).1
theorem stat_step(h:RS X D Λ C e β σ){cs:List (Nat×Bool)}(hh:holds e cs){op:VOp}(hs:statOk D Λ C cs op=true){dst:Option Nat}:aU cfv vsg σ t0 dst op=aU cfv vsg σ t0 dst (op.stat D):=by
 cases op with
 |callv x xs q av=>
  simp only[VOp.stat];cases hf:fnO D x with
  |none=>rfl
  |some p=>
   obtain⟨f,bs⟩:=p;simp only[statOk,hf,Bool.and_eq_true]at hs;simp only[aU];rw[h.opF hh hf hs.1];simp only[List.nil_append,List.map_append,List.map_map];have hcap:bs.map (fun b=>V.bp (β b) 0)=bs.map (ev (get σ.env) ∘ fun b=>Opd.tmp (cloT b)):=by
    refine List.map_congr_left fun b hb=>?_
    have h2:=List.all_eq_true.1 hs.2 b hb;simp only[Bool.and_eq_true,decide_eq_true_eq]at h2;obtain⟨l,hl⟩:=Option.isSome_iff_exists.1 h2.2;obtain⟨y,k1,_⟩:=h.ad hh (a:=.tmp (cloT b)) (y:=.ptr b 0) (by simp only[adO,h2.1]) rfl hl 0;exact Eq.symm k1
   rw[hcap]
 |_=>rfl
theorem makesR_stat(D:Nat->SY)(op:VOp):(op.stat D).makesR=op.makesR:=by
 cases op with
 |callv x xs q av=>simp only[VOp.stat];split<;>rfl
 |_=>rfl
theorem makes_stat(D:Nat->SY)(dst:Option Nat)(op:VOp):cB [⟨dst,op.stat D,none⟩]=cB [⟨dst,op,none⟩]:=by
 cases op with
 |callv x xs q av=>simp only[VOp.stat];split<;>(cases dst<;>rfl)
 |_=>rfl
theorem aFN(hcf:∀f,aF7 vsg cfv f (cf f)):∀(ops:List VOper) {C:CC} {Λ:LS} {e:TE D} {β:Nat->Nat} {σ:St},RS X D Λ C e β σ->RG Λ t0 mk σ->(∀nm∈cB ops,nm∈mk)->
  ∀{C':CC} {Λ':LS} {R:Type} {K:TE D->Option R} {r:R},aCv D sg vsg ops C Λ=some (C',Λ')->kE D cf ops C K e=some r->
   ∃e' β' σ',eD cfv vsg t0 σ ops=some σ'/\RS X D Λ' C' e' β' σ'/\K e'=some r
 |[],C,Λ,e,β,σ,h,_,_,C',Λ',R,K,r,hc,hr=>by
  simp only[aCv,Option.some.injEq,Prod.mk.injEq]at hc;obtain⟨rfl,rfl⟩:=hc;exact⟨e,β,σ,rfl,h,hr⟩
 |⟨dst,op,guard⟩::rest,C,Λ,e,β,σ,h,hG,hm,C',Λ',R,K,r,hc,hr=>by
  simp only[aCv]at hc;split at hc
  case isFalse=>cases hc
  rename_i hcond;split at hc
  case h_2=>cases hc
  rename_i Λ1 hcop;simp only[aIf,Bool.and_eq_true]at hcond;obtain⟨⟨⟨hst,hC⟩,hd⟩,hg⟩:=hcond;have hd':∀d,dst=some d->d<100000:=fun d hd0=>by subst hd0;simpa using hd
  rw[aDY]at hm;have hm1:∀nm∈cB [⟨dst,op.stat D,none⟩],nm∈mk:=fun nm hn=>hm nm (List.mem_append_left _ (by rw[makes_stat]at hn;exact hn))
  have hm2:∀nm∈cB rest,nm∈mk:=fun nm hn=>hm nm (List.mem_append_right _ hn)
  have hra:=aG7 h hcop;rw[makesR_stat]at hra;have key:∃e1 β1 σ1,bH cfv vsg t0 σ ⟨dst,op,guard⟩=some σ1/\RS X D Λ1 (oM C dst (eH C guard)) e1 β1 σ1/\RG Λ1 t0 mk σ1/\kE D cf rest (oM C dst (eH C guard)) K e1=some r:=by
   simp only[kE]at hr;cases guard with
   |none=>
    obtain⟨e1,ho,hk⟩:=OD.go_out (.inl rfl) hr;obtain⟨β1,σ1,k1,k2,k3⟩:=aHC hcf h hG (cs:=[]) cH hd' hC (fun _ _ q hq=>by cases hq) (fun q hq=>by cases hq) hm1 hcop ho;refine⟨e1,β1,σ1,?_,k2,k3,hk⟩;simp only[bH,fI,hra];exact(stat_step h cH hst).trans k1
   |some g=>
    obtain⟨s,w⟩:=g;simp only[Bool.and_eq_true,decide_eq_true_eq,List.all_eq_true]at hg;obtain⟨⟨⟨⟨hs,hsome⟩,hD⟩,hne⟩,hall⟩:=hg;obtain⟨sv,hsv⟩:=Option.isSome_iff_exists.1 hsome;have hmem:=(kN hsv).1;have hcd:∀d,dst=some d->∀q∈eH C (some (s,w)),q.1≠d:=by
     intro d hd0 q hq he;rcases List.mem_cons.1 hq with rfl|hq
     .exact hne (by rw[hd0,<-he])
     .exact hall q hq (by rw[hd0,he])
    have hcl:∀q∈eH C (some (s,w)),q.1<100000:=by
     intro q hq;rcases List.mem_cons.1 hq with rfl|hq
     .exact hs
     .rcases eW (C:=C) (s:=s)with e0|e0
      .rw[e0]at hq;cases hq
      .exact(h.cc _ e0).2 q hq
    have hskip:¬holds e (eH C (some (s,w)))->fI (get σ.env) (some (s,w))=some false->∃e1 β1 σ1,bH cfv vsg t0 σ ⟨dst,op,some (s,w)⟩=some σ1/\RS X D Λ1 (oM C dst (eH C (some (s,w)))) e1 β1 σ1/\RG Λ1 t0 mk σ1/\kE D cf rest (oM C dst (eH C (some (s,w)))) K e1=some r:=by
     intro hnh hwa;have hgb:rS e ((s,w)::bW C s)=false:=by
      cases hq:rS e ((s,w)::bW C s)with
      |false=>rfl
      |true=>exact absurd (oZ.1 hq) hnh
     cases dst with
     |none=>
      obtain⟨h0,_⟩:=aCC hcop;cases h0
     |some d=>
      have hr':(dop D cf (some d) (op.stat D)).go e (some false) (kE D cf rest (oM C (some d) (eH C (some (s,w)))) K)=some r:=by rw[<-hgb];exact hr
      obtain⟨k1,k2,k3⟩:=aHm (cf:=cf) h hG hnh (hd' d rfl) hC (hcd d rfl) hcl hcop;refine⟨_,β,_,?_,k2,k3,aHi hr'⟩;simp only[bH,hwa,k1];rfl
    by_cases hh:holds e (bW C s)
    .obtain⟨q1,_,_⟩:=h.yes s sv hmem hh;have hb:=cN.boolv hD q1;by_cases hw:pP e s w=true
     .have hho:holds e (eH C (some (s,w))):=dN.2 ⟨hw,hh⟩;have hgb:rS e ((s,w)::bW C s)=true:=oZ.2 hho;have hr':(dop D cf dst (op.stat D)).go e (some true) (kE D cf rest (oM C dst (eH C (some (s,w)))) K)=some r:=by rw[<-hgb];exact hr
      obtain⟨e1,ho,hk⟩:=OD.go_out (.inr rfl) hr';obtain⟨β1,σ1,k1,k2,k3⟩:=aHC hcf h hG hho hd' hC hcd hcl hm1 hcop ho;refine⟨e1,β1,σ1,?_,k2,k3,hk⟩;have hwa:fI (get σ.env) (some (s,w))=some true:=by
       simp only[fI,hb];unfold pP at hw;cases w with
       |true=>simp only at hw;rw[hw];rfl
       |false=>simp only[Bool.not_eq_true']at hw;rw[hw];rfl
      simp only[bH,hwa,hra];exact(stat_step h hho hst).trans k1
     .refine hskip (fun hq=>hw (dN.1 hq).1) ?_;simp only[fI,hb];unfold pP at hw;cases w with
      |true=>simp only[Bool.not_eq_true]at hw;rw[hw];rfl
      |false=>simp only[Bool.not_eq_true',Bool.not_eq_false]at hw;rw[hw];rfl
    .refine hskip (fun hq=>hh (dN.1 hq).2) ?_;simp only[fI,h.no s sv hmem hh]
  obtain⟨e1,β1,σ1,k1,k2,k3,k4⟩:=key;obtain⟨e2,β2,σ2,r1,r2,r3⟩:=aFN hcf rest k2 k3 hm2 hc k4;exact⟨e2,β2,σ2,by simp only[eD,k1];exact r1,r2,r3⟩
theorem RS.out{kept r:List Nat}(h:RS X D Λ C e β σ)(hk:σ.env.map (·.1)=kept++r)(hkl:∀s∈kept,s<100000):RS X D (Λ.out D kept C) [] e β {σ with env:=σ.env.take kept.length}:=by
 have hg:=aAH hk;have hE1:∀s,s∈kept->get (σ.env.take kept.length) s=get σ.env s:=fun s=>(hg s).1
 have hE2:∀s,100000<=s->get (σ.env.take kept.length) s=get σ.env s:=fun s hs=>by
  rw[(hg s).2 (fun hm=>by have:=hkl s hm;omega),h.hi s hs]
 have hmem:∀s sv,(s,sv)∈(Λ.out D kept C).vs->∃u,(s,u)∈Λ.vs/\get (σ.env.take kept.length) s=get σ.env s/\bW C s=[]/\(∀t off,D s=.rp t off->t∈kept)/\(∀t off len u,D s=.rx t off len u->t∈kept)/\(∀i t,(aV u.ls i).rv=some t->t∈kept)/\sv.ls=u.ls/\∀q o,sv.cp=some (q,o)->u.cp=some (q,o)/\q∈kept:=by
  intro s sv hs;obtain⟨u,hu,hsv⟩:=cI hs;obtain⟨hu,hp⟩:=bZ hu;simp only[Bool.and_eq_true,Bool.or_eq_true,decide_eq_true_eq,List.contains_iff_mem,List.isEmpty_iff]at hp;obtain⟨⟨⟨h1,h2⟩,h3⟩,h4⟩:=hp;refine⟨u,hu,h1.elim (hE1 s) (hE2 s),h2,fun t off ht=>?_,fun t off len w ht=>?_,fun i t ht=>?_,?_,fun q o hq=>?_⟩
  .rw[ht]at h3;simpa using h3
  .rw[ht]at h3;simpa using h3
  .rcases fA (ls:=u.ls) (i:=i)with h0|h0
   .rw[h0]at ht;cases ht
   .rw[List.all_eq_true]at h4;have:=h4 _ h0;simp only[ht]at this;simpa using this
  .subst hsv;split
   .split<;>rfl
   .rfl
  .subst hsv;split at hq
   .rename_i q' o' hq';split at hq
    .rename_i hk';rw[hq']at hq;cases hq;simp only[Bool.and_eq_true,List.contains_iff_mem]at hk';exact⟨hq',hk'.1⟩
    .cases hq
   .rename_i hq';rw[hq']at hq;cases hq
 refine⟨fun s sv hs _=>?_,fun s sv hs hh=>absurd cH hh,fun s hs=>?_,fun s hs=>?_,h.nb,fun b sv hb hs=>?_,fun b sv b' sv' hb hs hb' hs'=>?_,fun p hp=>(by cases hp),h.b3⟩
 .obtain⟨u,hu,k1,k2,k3,k4,k5,k6,k7⟩:=hmem s sv hs;obtain⟨q1,q2,q3⟩:=h.yes s u hu (by rw[k2];exact cH);show cN (get (σ.env.take kept.length)) β σ.bx s (D s) (e s) (get (σ.env.take kept.length) s)/\cD σ.tips σ.lk X.gv (get (σ.env.take kept.length)) sv.ls (get (σ.env.take kept.length) s).kids/\eB (get (σ.env.take kept.length)) sv.cp (get (σ.env.take kept.length) s);rw[k1,k6];refine⟨?_,q2.env fun t i hi=>hE1 t (k5 i t hi),q3.congr' fun q o hq=>⟨(k7 q o hq).1,hE1 q (k7 q o hq).2⟩⟩;have key:∀(y:SY) (z:y.den) (v:V),D s=y->cN (get σ.env) β σ.bx s y z v->cN (get (σ.env.take kept.length)) β σ.bx s y z v:=by
   intro y z v hy hz;cases y with
   |rp t off=>
    obtain⟨c,n,cs,z1,z2⟩:=hz;exact⟨c,n,cs,by rw[hE1 t (k3 t off hy)];exact z1,z2⟩
   |rx t off len w=>
    obtain⟨z0,c,n,cs,z1,z2⟩:=hz;exact⟨z0,c,n,cs,by rw[hE1 t (k4 t off len w hy)];exact z1,z2⟩
   |_=>exact hz
  exact key _ _ _ rfl q1
 .have hs:aN (get (σ.env.take kept.length) s)=true:=hs;by_cases hm:s∈kept
  .rw[hE1 s hm]at hs;exact h.rg s hs
  .rw[(hg s).2 hm]at hs;cases hs
 .show get (σ.env.take kept.length) s=.undef;rw[hE2 s hs];exact h.hi s hs
 .obtain⟨u,hu,_⟩:=hmem b sv hs;exact h.b1 b u hb hu
 .obtain⟨u,hu,_⟩:=hmem b sv hs;obtain⟨u',hu',_⟩:=hmem b' sv' hs';exact h.b2 b u b' u' hb hu hb' hu'
theorem aAI(hcf:∀f,aF7 vsg cfv f (cf f)){kept:List Nat}(hkl:∀s∈kept,s<100000){ops:List VOper}(h:RS X D Λ [] e β σ)(hk:σ.env.map (·.1)=kept){C':CC}{R:Type}{K:TE D->Option R}{r:R}
  (hc:aCv D sg vsg ops [] {Λ.bump (cB ops)with dt:=[],ld:=[]}=some (C',Λ')) (hr:kE D cf ops [] K e=some r) :
  ∃e' β' σ',iD cfv vsg ops σ=some σ'/\σ'.env.map (·.1)=kept/\(∀nm,nm<64->σ.lk nm=true->σ'.lk nm=true)/\RS X D (Λ'.out D kept C') [] e' β' σ'/\K e'=some r:=by
 have hT:∀nm,nm∉cB ops->bump σ.tips (cB ops) nm=σ.tips nm:=fun nm hn=>vQ hn
 have hL:∀nm,σ.lk nm=false->fB σ.lk false (cB ops) nm=false:=fun nm hl=>by
  rw[lW];split
  .rfl
  .exact hl
 have h0:=(h.bump hT).unlock hL;have h1:RS X D {Λ.bump (cB ops)with dt:=[],ld:=[]} [] e β {σ with clk:=σ.clk+1,tips:=bump σ.tips (cB ops),lk:=fB σ.lk false (cB ops)}:=
  ⟨h0.yes,h0.no,h0.rg,h0.hi,h0.nb,h0.b1,h0.b2,h0.cc,h0.b3⟩
 have hG:RG {Λ.bump (cB ops)with dt:=[],ld:=[]} (bump σ.tips (cB ops)) (cB ops) {σ with clk:=σ.clk+1,tips:=bump σ.tips (cB ops),lk:=fB σ.lk false (cB ops)}:=
  ⟨fun _ _=>rfl,fun nm hm _=>xC hm⟩
 obtain⟨e',β',τ,k1,k2,k3⟩:=aFN hcf ops h1 hG (fun _ hm=>hm) hc hr;obtain⟨⟨q,hq⟩,hlk⟩:=uZ k1;have hq:τ.env.map (·.1)=kept++q:=by rw[hq];show σ.env.map (·.1)++q=_;rw[hk]
 have hlen:σ.env.length=kept.length:=by rw[<-hk,List.length_map]
 refine⟨e',β',{τ with env:=τ.env.take σ.env.length},by simp only[iD,k1],?_,fun nm hn hl=>hlk nm hn ?_,by rw[hlen];exact k2.out hq hkl,k3⟩
 .show(τ.env.take σ.env.length).map (·.1)=kept;rw[List.map_take,hq,hlen,List.take_left]
 .show fB σ.lk false (cB ops) nm=true;rw[eP (fun hm=>by have:=qD hm;omega)];exact hl
theorem RS.from{C:CC}(h:RS X D Λ C e β σ)(hs:∀s sv',(s,sv')∈Λ'.vs->∃sv,(s,sv)∈Λ.vs/\(∀cells,cD σ.tips σ.lk X.gv (get σ.env) sv.ls cells->cD σ.tips σ.lk X.gv (get σ.env) sv'.ls cells)/\(sv'.cp=none\/sv.cp=sv'.cp)):RS X D Λ' C e β σ:=by
 refine⟨fun s sv' hm hh=>?_,fun s sv' hm hh=>?_,h.rg,h.hi,h.nb,fun b sv' hb hm=>?_,fun b sv1 b' sv2 hb hm hb' hm'=>?_,h.cc,h.b3⟩
 .obtain⟨sv,h1,h2,h3⟩:=hs s sv' hm;obtain⟨q1,q2,q3⟩:=h.yes s sv h1 hh;refine⟨q1,h2 _ q2,?_⟩;rcases h3 with h3|h3
  .rw[h3];exact eB.none
  .rw[<-h3];exact q3
 .obtain⟨sv,h1,_⟩:=hs s sv' hm;exact h.no s sv h1 hh
 .obtain⟨sv,h1,_⟩:=hs b sv' hm;exact h.b1 b sv hb h1
 .obtain⟨sv,h1,_⟩:=hs b sv1 hm;obtain⟨sv',h1',_⟩:=hs b' sv2 hm';exact h.b2 b sv b' sv' hb h1 hb' h1'
theorem kP:∀{a b:List (Nat×SV)} {s:Nat} {sv:SV},(s,sv)∈aCw a b->∃v w,(s,v)∈a/\(s,w)∈b/\uN v.ls w.ls=true/\sv=⟨aBK v.ls w.ls,if v.cp=w.cp then v.cp else none⟩
 |[],_,_,_,h=>by cases h
 |(a,v)::r,b,s,sv,h=>by
  simp only[aCw]at h;split at h
  .rename_i w hw;split at h
   .rename_i hrv;rcases List.mem_cons.1 h with h|h
    .cases h;exact⟨v,w,by simp,jE hw,hrv,rfl⟩
    .obtain⟨v',w',h1,h2⟩:=kP h;exact⟨v',w',List.mem_cons_of_mem _ h1,h2⟩
   .obtain⟨v',w',h1,h2⟩:=kP h;exact⟨v',w',List.mem_cons_of_mem _ h1,h2⟩
  .obtain⟨v',w',h1,h2⟩:=kP h;exact⟨v',w',List.mem_cons_of_mem _ h1,h2⟩
theorem RS.meet_left(h:RS X D Λ C e β σ)(Λ2:LS):RS X D (aH6 Λ Λ2) C e β σ:=h.from fun s sv hs=>by
 obtain⟨v,w,h1,_,_,rfl⟩:=kP hs;refine⟨v,h1,fun cells hl=>hl.join_left,?_⟩;simp only;split
 .exact .inr rfl
 .exact .inl rfl
theorem RS.meet_right(h:RS X D Λ C e β σ)(Λ2:LS):RS X D (aH6 Λ2 Λ) C e β σ:=h.from fun s sv hs=>by
 obtain⟨v,w,_,h1,hrv,rfl⟩:=kP hs;refine⟨w,h1,fun cells hl=>hl.join_right hrv,?_⟩;simp only;split
 .rename_i he;exact .inr he.symm
 .exact .inl rfl
theorem RS.meetO_left(h:RS X D Λ C e β σ)(b:Option LS):∃Λ2,rV (some Λ) b=some Λ2/\RS X D Λ2 C e β σ:=by
 cases b with
 |none=>exact⟨Λ,rfl,h⟩
 |some b=>exact⟨_,rfl,h.meet_left b⟩
theorem RS.meetO_right(h:RS X D Λ C e β σ)(a:Option LS):∃Λ2,rV a (some Λ)=some Λ2/\RS X D Λ2 C e β σ:=by
 cases a with
 |none=>exact⟨Λ,rfl,h⟩
 |some a=>exact⟨_,rfl,h.meet_right a⟩
theorem RS.meetX(h:RS X D Λ C e β σ){id:Nat}:∀{x:List (Nat×LS)},(id,Λ)∈x->∃Λ2,meetX id x=some Λ2/\RS X D Λ2 C e β σ
 |(i,Λ1)::r,hm=>by
  simp only[Go.VM.meetX];rcases List.mem_cons.1 hm with hm|hm
  .cases hm;rw[if_pos rfl];exact h.meetO_left _
  .obtain⟨Λ2,h1,h2⟩:=RS.meetX h hm;split
   .rw[h1];exact h2.meetO_right _
   .exact⟨Λ2,h1,h2⟩
theorem RS.restr(h:RS X D Λ C e β σ)(L:List Nat):RS X D (restr D L Λ) C e β σ:=h.from fun _ sv hs=>⟨sv,(bZ hs).1,fun _ hl=>hl,.inr rfl⟩
theorem RS.le(h:RS X D Λ C e β σ)(hle:leS Λ Λ'=true):RS X D Λ' C e β σ:=h.from fun s sv hs=>by
 unfold leS at hle;rw[List.all_eq_true]at hle;have:=hle _ hs;simp only at this;split at this
 .rename_i v hv;simp only[Bool.and_eq_true,Bool.or_eq_true,beq_iff_eq]at this;exact⟨v,jE hv,fun cells hl=>hl.mono this.1,this.2⟩
 .cases this
theorem sT:∀{L:List Nat} {s:Nat},s∈L->kD L (zJ L e) s=e s
 |[a],s,h=>by
  have:s=a:=by simpa using h
  subst this;exact TE.set_eq
 |a::b::r,s,h=>by
  show(kD (b::r) (zJ (b::r) e)).set a (e a) s=e s;by_cases ha:a=s
  .subst ha;exact TE.set_eq
  .rw[TE.set_ne ha];exact sT ((List.mem_cons.1 h).resolve_left (Ne.symm ha))
theorem RS.packed{L:List Nat}(h:RS X D Λ [] e β σ)(hL:∀s sv,(s,sv)∈Λ.vs->s∈L\/(D s).unitY=true):RS X D Λ [] (kD L (zJ L e)) β σ:=by
 refine⟨fun s sv hs _=>?_,fun s sv hs hh=>absurd cH hh,h.rg,h.hi,h.nb,h.b1,h.b2,h.cc,h.b3⟩;obtain⟨q1,q2,q3⟩:=h.yes s sv hs cH;refine⟨?_,q2,q3⟩;rcases hL s sv hs with hm|hm
 .rw[sT hm];exact q1
 · have key : ∀ (y : SY) (a b : y.den) (v : V), y.unitY = true → cN (get σ.env) β σ.bx s y a v → cN (get σ.env) β σ.bx s y b v := by
     intro y a b v hy hz;cases y with
     |ptr=>exact hz
     |rp=>exact hz
     |clo=>exact hz
     |d t=>cases t with
      |fn f=>exact hz
      |_=>cases hy
     |_=>cases hy
   exact key _ _ _ _ hm q1
theorem qE{L:List Nat}{s:Nat}{sv:SV}(h:(s,sv)∈(restr D L Λ).vs):s∈L\/(D s).unitY=true:=by
 have:=(bZ h).2;simp only[Bool.or_eq_true,List.contains_iff_mem]at this;exact this
def aDZ(X:Cxt)(D:Nat->SY)(ok:LS->Bool){R:Type}(K:Kt D R)(n:Option LS)(x:List (Nat×LS))(r:R)(ex:Ex)(e':TE D)(β':Nat->Nat)(σ':St):Prop:=
 ∃Λ',RS X D Λ' [] e' β' σ'/\match ex with
  |.nrm=>n=some Λ'/\K.n e'=some r
  |.exit id=>(id,Λ')∈x/\K.x id e'=some r
  |.ret=>ok Λ'=true/\K.r e'=some r
theorem cY(hcf:∀f,aF7 vsg cfv f (cf f)){kept:List Nat}(hkl:∀s∈kept,s<100000){ok:LS->Bool}{N:Nat}:∀(code:VC) {R:Type} (hs:List HN) (K:Kt D R) {Λ:LS} {e:TE D} {β:Nat->Nat} {σ:St} {n:Option LS} {x:List (Nat×LS)} {r:R},
  RS X D Λ [] e β σ->σ.env.map (·.1)=kept->chk D sg vsg kept ok code hs Λ=some ⟨n,x⟩->den D (eG N) cf code hs K e=some r->
  ∃ex e' β' σ',exec cfv vsg N code σ=some (ex,σ')/\σ'.env.map (·.1)=kept/\(∀nm,nm<64->σ.lk nm=true->σ'.lk nm=true)/\aDZ X D ok K n x r ex e' β' σ'
 |.skip,R,hs,K,Λ,e,β,σ,n,x,r,h,hk,hc,hr=>by
  simp only[chk,Option.some.injEq,CR.mk.injEq]at hc;obtain⟨rfl,rfl⟩:=hc;exact⟨.nrm,e,β,σ,rfl,hk,fun _ _ hl=>hl,Λ,h,rfl,hr⟩
 |.region ops,R,hs,K,Λ,e,β,σ,n,x,r,h,hk,hc,hr=>by
  simp only[chk]at hc;split at hc
  .rename_i C' Λ' hops;simp only[Option.some.injEq,CR.mk.injEq]at hc;obtain⟨rfl,rfl⟩:=hc;obtain⟨e',β',σ',k1,k2,k3,k4,k5⟩:=aAI hcf hkl h hk hops hr;exact⟨.nrm,e',β',σ',by simp only[exec,k1];rfl,k2,k3,_,k4,rfl,k5⟩
  .cases hc
 |.seq a b,R,hs,K,Λ,e,β,σ,n,x,r,h,hk,hc,hr=>by
  simp only[chk]at hc;simp only[den]at hr;split at hc
  .rename_i Λ1 x1 ha;split at hc
   .rename_i n2 y hb;simp only[Option.some.injEq,CR.mk.injEq]at hc;obtain⟨rfl,rfl⟩:=hc;obtain⟨ex,e',β',σ',k1,k2,k3,Λ',k4,k5⟩:=cY hcf hkl a hs _ h hk ha hr;cases ex with
    |nrm=>
     obtain⟨k5,k6⟩:=k5;cases k5;obtain⟨ex,e2,β2,σ2,m1,m2,m3,Λ2,m4,m5⟩:=cY hcf hkl b (hs.drop (hn a)) K k4 k2 hb k6;refine⟨ex,e2,β2,σ2,by simp only[exec,k1];exact m1,m2,fun nm hn hl=>m3 nm hn (k3 nm hn hl),Λ2,m4,?_⟩;cases ex with
     |nrm=>exact m5
     |exit id=>exact⟨List.mem_append_right _ m5.1,m5.2⟩
     |ret=>exact m5
    |exit id=>exact⟨.exit id,e',β',σ',by simp only[exec,k1],k2,k3,Λ',k4,List.mem_append_left _ k5.1,k5.2⟩
    |ret=>exact⟨.ret,e',β',σ',by simp only[exec,k1],k2,k3,Λ',k4,k5⟩
   .cases hc
  .rename_i x1 ha;simp only[Option.some.injEq,CR.mk.injEq]at hc;obtain⟨rfl,rfl⟩:=hc;obtain⟨ex,e',β',σ',k1,k2,k3,Λ',k4,k5⟩:=cY hcf hkl a hs _ h hk ha hr;cases ex with
   |nrm=>cases k5.1
   |exit id=>exact⟨.exit id,e',β',σ',by simp only[exec,k1],k2,k3,Λ',k4,k5⟩
   |ret=>exact⟨.ret,e',β',σ',by simp only[exec,k1],k2,k3,Λ',k4,k5⟩
  .cases hc
 |.cond c a b,R,[],K,Λ,e,β,σ,n,x,r,h,hk,hc,hr=>by cases hc
 |.cond c a b,R,hd::hs,K,Λ,e,β,σ,n,x,r,h,hk,hc,hr=>by
  simp only[chk]at hc;split at hc
  case h_2=>cases hc
  rename_i l n1 x1 n2 x2 hrd ha hb;simp only[Option.some.injEq,CR.mk.injEq]at hc;obtain⟨hnn,rfl⟩:=hc;cases hob:opB D c with
  |none=>simp only[den,hob]at hr;cases hr
  |some f=>
   have hev:=h.opB (cs:=[]) cH hob (by rw[hrd];rfl)
   have way : ∀ (K' : Kt D R), (bif f e then den D (eG N) cf a hs K' e else den D (eG N) cf b (hs.drop (hn a)) K' e) = some r →
       ∃ex e' β' σ',exec cfv vsg N (.cond c a b) σ=some (ex,σ')/\σ'.env.map (·.1)=kept/\(∀nm,nm<64->σ.lk nm=true->σ'.lk nm=true)/\aDZ X D ok K' (rV n1 n2) (x1++x2) r ex e' β' σ':=by
    intro K' hq;cases hfe:f e with
    |true=>
     rw[hfe]at hq hev;obtain⟨ex,e',β',σ',k1,k2,k3,Λ',k4,k5⟩:=cY hcf hkl a hs K' h hk ha hq;refine⟨ex,e',β',σ',by simp only[exec,hev];exact k1,k2,k3,?_⟩;cases ex with
     |nrm=>
      obtain⟨k5,k6⟩:=k5;subst k5;obtain⟨Λ2,q1,q2⟩:=k4.meetO_left n2;exact⟨Λ2,q2,q1,k6⟩
     |exit id=>exact⟨Λ',k4,List.mem_append_left _ k5.1,k5.2⟩
     |ret=>exact⟨Λ',k4,k5⟩
    |false=>
     rw[hfe]at hq hev;obtain⟨ex,e',β',σ',k1,k2,k3,Λ',k4,k5⟩:=cY hcf hkl b (hs.drop (hn a)) K' h hk hb hq;refine⟨ex,e',β',σ',by simp only[exec,hev];exact k1,k2,k3,?_⟩;cases ex with
     |nrm=>
      obtain⟨k5,k6⟩:=k5;subst k5;obtain⟨Λ2,q1,q2⟩:=k4.meetO_right n1;exact⟨Λ2,q2,q1,k6⟩
     |exit id=>exact⟨Λ',k4,List.mem_append_right _ k5.1,k5.2⟩
     |ret=>exact⟨Λ',k4,k5⟩
   have plain:(∀L,hd≠.j L)->∃ex e' β' σ',exec cfv vsg N (.cond c a b) σ=some (ex,σ')/\σ'.env.map (·.1)=kept/\(∀nm,nm<64->σ.lk nm=true->σ'.lk nm=true)/\aDZ X D ok K n (x1++x2) r ex e' β' σ':=by
    intro hj;have hn':n=rV n1 n2:=by
     rw[<-hnn];cases hd with
     |j L=>exact absurd rfl (hj L)
     |n=>rfl
     |l=>rfl
    have hr':(bif f e then den D (eG N) cf a hs K e else den D (eG N) cf b (hs.drop (hn a)) K e)=some r:=by
     cases hd with
     |j L=>exact absurd rfl (hj L)
     |n=>simpa only[den,hob]using hr
     |l=>simpa only[den,hob]using hr
    rw[hn'];exact way K hr'
   cases hd with
   |n=>exact plain fun L h=>by cases h
   |l=>exact plain fun L h=>by cases h
   |j L=>
    simp only[den,hob,aBJ]at hr;obtain⟨ex,e',β',σ',k1,k2,k3,Λ',k4,k5⟩:=way {K with n:=fun e=>K.n (kD L (zJ L e))} hr;cases ex with
    |nrm=>
     obtain⟨k5,k6⟩:=k5;have hn':n=some (restr D L Λ'):=by rw[<-hnn,k5];rfl
     exact⟨.nrm,_,β',σ',k1,k2,k3,_,(k4.restr L).packed (fun s sv hs=>qE hs),hn',k6⟩
    |exit id=>exact⟨.exit id,e',β',σ',k1,k2,k3,Λ',k4,k5⟩
    |ret=>exact⟨.ret,e',β',σ',k1,k2,k3,Λ',k4,k5⟩
 |.block id a,R,[],K,Λ,e,β,σ,n,x,r,h,hk,hc,hr=>by cases hc
 |.block id a,R,hd::hs,K,Λ,e,β,σ,n,x,r,h,hk,hc,hr=>by
  simp only[chk]at hc;split at hc
  case h_2=>cases hc
  rename_i n1 x1 ha;simp only[Option.some.injEq,CR.mk.injEq]at hc;obtain⟨hnn,rfl⟩:=hc
  have way : ∀ (g : TE D → Option R), den D (eG N) cf a hs { n := g, x := fun i e => if i = id then g e else K.x i e, r := K.r } e = some r →
      ∃ex e' β' σ',exec cfv vsg N (.block id a) σ=some (ex,σ')/\σ'.env.map (·.1)=kept/\(∀nm,nm<64->σ.lk nm=true->σ'.lk nm=true)/\aDZ X D ok {K with n:=g} (rV n1 (meetX id x1)) (x1.filter fun p=>decide (p.1≠id)) r ex e' β' σ':=by
   intro g hq;obtain⟨ex,e',β',σ',k1,k2,k3,Λ',k4,k5⟩:=cY hcf hkl a hs _ h hk ha hq;cases ex with
   |nrm=>
    obtain⟨k5,k6⟩:=k5;subst k5;obtain⟨Λ2,q1,q2⟩:=k4.meetO_left (meetX id x1);exact⟨.nrm,e',β',σ',by simp only[exec,k1],k2,k3,Λ2,q2,q1,k6⟩
   |exit i=>
    obtain⟨k5,k6⟩:=k5;simp only at k6;by_cases hi:i=id
    .subst hi;rw[if_pos rfl]at k6;obtain⟨Λ2,q1,q2⟩:=k4.meetX k5;obtain⟨Λ3,q3,q4⟩:=q2.meetO_right n1;exact⟨.nrm,e',β',σ',by simp only[exec,k1,if_true],k2,k3,Λ3,q4,by rw[q1];exact q3,k6⟩
    .rw[if_neg hi]at k6;exact⟨.exit i,e',β',σ',by simp only[exec,k1,if_neg hi],k2,k3,Λ',k4,List.mem_filter.2 ⟨k5,by simpa using hi⟩,k6⟩
   |ret=>exact⟨.ret,e',β',σ',by simp only[exec,k1],k2,k3,Λ',k4,k5⟩
  have plain:(∀L,hd≠.j L)->∃ex e' β' σ',exec cfv vsg N (.block id a) σ=some (ex,σ')/\σ'.env.map (·.1)=kept/\(∀nm,nm<64->σ.lk nm=true->σ'.lk nm=true)/\aDZ X D ok K n (x1.filter fun p=>decide (p.1≠id)) r ex e' β' σ':=by
   intro hj;have hn':n=rV n1 (meetX id x1):=by
    rw[<-hnn];cases hd with
    |j L=>exact absurd rfl (hj L)
    |n=>rfl
    |l=>rfl
   have hr':den D (eG N) cf a hs {n:=K.n,x:=fun i e=>if i=id then K.n e else K.x i e,r:=K.r} e=some r:=by
    cases hd with
    |j L=>exact absurd rfl (hj L)
    |n=>simpa only[den]using hr
    |l=>simpa only[den]using hr
   rw[hn'];exact way K.n hr'
  cases hd with
  |n=>exact plain fun L h=>by cases h
  |l=>exact plain fun L h=>by cases h
  |j L=>
   simp only[den,aBJ]at hr;obtain⟨ex,e',β',σ',k1,k2,k3,Λ',k4,k5⟩:=way (fun e=>K.n (kD L (zJ L e))) hr;cases ex with
   |nrm=>
    obtain⟨k5,k6⟩:=k5;have hn':n=some (restr D L Λ'):=by rw[<-hnn,k5];rfl
    exact⟨.nrm,_,β',σ',k1,k2,k3,_,(k4.restr L).packed (fun s sv hs=>qE hs),hn',k6⟩
   |exit i=>exact⟨.exit i,e',β',σ',k1,k2,k3,Λ',k4,k5⟩
   |ret=>exact⟨.ret,e',β',σ',k1,k2,k3,Λ',k4,k5⟩
 |.loop a,R,[],K,Λ,e,β,σ,n,x,r,h,hk,hc,hr=>by cases hc
 |.loop a,R,.n::hs,K,Λ,e,β,σ,n,x,r,h,hk,hc,hr=>by cases hc
 |.loop a,R,.j _::hs,K,Λ,e,β,σ,n,x,r,h,hk,hc,hr=>by cases hc
 |.loop a,R,.l L inv::hs,K,Λ,e,β,σ,n,x,r,h,hk,hc,hr=>by
  simp only[chk]at hc;split at hc
  case isFalse=>cases hc
  rename_i hle;split at hc
  case h_2=>cases hc
  rename_i n1 x1 ha;split at hc
  case isFalse=>cases hc
  rename_i hlo;simp only[Option.some.injEq,CR.mk.injEq]at hc;obtain⟨rfl,rfl⟩:=hc;simp only[den]at hr
  have rounds : ∀ (m : Nat) (p : aGH D L) (β : Nat → Nat) (σ : St), RS X D (restr D L (aJh Λ inv)) [] (kD L p) β σ → σ.env.map (·.1) = kept →
      eG m (fun p=>den D (eG N) cf a hs {n:=fun e=>tN (zJ L e),x:=fun i e=>lJ (K.x i e),r:=fun e=>lJ (K.r e)} (kD L p)) p=some r->
      ∃ex e' β' σ',aF3 (exec cfv vsg N a) m σ=some (ex,σ')/\σ'.env.map (·.1)=kept/\(∀nm,nm<64->σ.lk nm=true->σ'.lk nm=true)/\aDZ X D ok K none x1 r ex e' β' σ':=by
   intro m
   induction m with
   |zero=>intro p β σ _ _ hq;cases hq
   |succ m ih=>
    intro p β σ h1 hk1 hq;simp only[eG]at hq;split at hq
    .rename_i s hb;obtain⟨ex,e',β',σ',k1,k2,k3,Λ',k4,k5⟩:=cY hcf hkl a hs _ h1 hk1 ha hb;cases ex with
     |nrm=>
      obtain⟨k5,k6⟩:=k5;subst k5;simp only[tN,Option.some.injEq,Sum.inl.injEq]at k6;subst k6;have hle2:leS Λ' (restr D L (aJh Λ inv))=true:=hlo;obtain⟨ex,e2,β2,σ2,m1,m2,m3,m4⟩:=ih (zJ L e') β' σ' ((k4.le hle2).packed (fun s sv hs=>qE hs)) k2 hq;exact⟨ex,e2,β2,σ2,by simp only[aF3,k1];exact m1,m2,fun nm hn hl=>m3 nm hn (k3 nm hn hl),m4⟩
     |exit id=>
      obtain⟨_,k6⟩:=k5;simp only[lJ]at k6;obtain⟨q,_,k6⟩:=Option.map_eq_some_iff.1 k6;cases k6
     |ret=>
      obtain⟨_,k6⟩:=k5;simp only[lJ]at k6;obtain⟨q,_,k6⟩:=Option.map_eq_some_iff.1 k6;cases k6
    .rename_i q hb;cases hq;obtain⟨ex,e',β',σ',k1,k2,k3,Λ',k4,k5⟩:=cY hcf hkl a hs _ h1 hk1 ha hb;cases ex with
     |nrm=>
      obtain⟨_,k6⟩:=k5;simp[tN]at k6
     |exit id=>
      obtain⟨k5,k6⟩:=k5;simp only[lJ]at k6;obtain⟨q,k7,k6⟩:=Option.map_eq_some_iff.1 k6;cases k6;exact⟨.exit id,e',β',σ',by simp only[aF3,k1],k2,k3,Λ',k4,k5,k7⟩
     |ret=>
      obtain⟨k5,k6⟩:=k5;simp only[lJ]at k6;obtain⟨q,k7,k6⟩:=Option.map_eq_some_iff.1 k6;cases k6;exact⟨.ret,e',β',σ',by simp only[aF3,k1],k2,k3,Λ',k4,k5,k7⟩
    .cases hq
  obtain⟨ex,e',β',σ',k1,k2⟩:=rounds N (zJ L e) β σ ((h.le hle).packed (fun s sv hs=>qE hs)) hk hr;exact⟨ex,e',β',σ',k1,k2⟩
 |.exit id,R,hs,K,Λ,e,β,σ,n,x,r,h,hk,hc,hr=>by
  simp only[chk,Option.some.injEq,CR.mk.injEq]at hc;obtain⟨rfl,rfl⟩:=hc;exact⟨.exit id,e,β,σ,rfl,hk,fun _ _ hl=>hl,Λ,h,by simp,hr⟩
 |.scope a,R,hs,K,Λ,e,β,σ,n,x,r,h,hk,hc,hr=>by
  obtain⟨ex,e',β',σ',k1,k2⟩:=cY hcf hkl a hs K h hk hc hr;exact⟨ex,e',β',σ',k1,k2⟩
 |.ret,R,hs,K,Λ,e,β,σ,n,x,r,h,hk,hc,hr=>by
  simp only[chk]at hc;split at hc
  .rename_i hok;simp only[Option.some.injEq,CR.mk.injEq]at hc;obtain⟨rfl,rfl⟩:=hc;exact⟨.ret,e,β,σ,rfl,hk,fun _ _ hl=>hl,Λ,h,hok,hr⟩
  .cases hc
end
end Go.VM
namespace Go.VM
section
variable{D:Nat->SY}{cons:List Nat}{bx:BX}
theorem aFO{t:Ty}{r:List PK}{i:Nat}{p:(Ty.row ((PK.d t::r).map PK.ty)).den->TE D->TE D}(h:gJ D (.d t::r) i=some p) :
  ∃c g,SY.get (.d t) (D i)=some c/\gJ D r (i+1)=some g/\p=fun x e=>(g (eA t (r.map PK.ty) x) e).set i (c (dT t (r.map PK.ty) x)):=by
 have h:(match SY.get (.d t) (D i),gJ D r (i+1)with
  |some c,some g=>some fun x e=>(g (eA t (r.map PK.ty) x) e).set i (c (dT t (r.map PK.ty) x))
  |_,_=>none)=some p:=h
 split at h
 .rename_i c g hc hg;exact⟨c,g,hc,hg,(Option.some.inj h).symm⟩
 .cases h
theorem aFP{t:Ty}{r:List PK}{i:Nat}{p:(Ty.row ((PK.p t::r).map PK.ty)).den->TE D->TE D}(h:gJ D (.p t::r) i=some p) :
  D i=.ptr (bK i) 0/\∃c g,SY.get (.box t) (D (bK i))=some c/\gJ D r (i+1)=some g/\p=fun x e=>(g (eA t (r.map PK.ty) x) e).set (bK i) (c (dT t (r.map PK.ty) x)):=by
 have h : (if D i = .ptr (bK i) 0 then match SY.get (.box t) (D (bK i)), gJ D r (i + 1) with
     |some c,some g=>some fun x e=>(g (eA t (r.map PK.ty) x) e).set (bK i) (c (dT t (r.map PK.ty) x))
     |_,_=>none
  else none)=some p:=h
 split at h
 .rename_i hD;split at h
  .rename_i c g hc hg;exact⟨hD,c,g,hc,hg,(Option.some.inj h).symm⟩
  .cases h
 .cases h
def aJj(D:Nat->SY)(cons:List Nat)(ps:List PK)(vs:List V)(i:Nat)(q:TE D)(s:Nat)(sv:SV):Prop:=
 ∃j t v,s=i+j/\j<ps.length/\vs[j]?=some v/\D s=.d t/\(∀E β bx',cN E β bx' s (D s) (q s) v)/\(∀T lk gv E,T s=0->((∃z n cs,v=.sl (.own s 0) z n cs)->cons.contains s=true->gv s)->cD T lk gv E sv.ls v.kids)/\sv.cp=none/\aN v=false
def aJk(D:Nat->SY)(ps:List PK)(vs:List V)(i s:Nat)(sv:SV):Prop:=
 ∃j t b,s=i+j/\j<ps.length/\ps[j]?=some (.p t)/\vs[j]?=some (.bp b 0)/\D s=.ptr (bK s) 0/\sv=⟨[],none⟩
def aJW(D:Nat->SY)(bx:BX)(ps:List PK)(vs:List V)(i:Nat)(q:TE D)(s:Nat)(sv:SV):Prop:=
 ∃j t b cells,s=bK (i+j)/\j<ps.length/\ps[j]?=some (.p t)/\vs[j]?=some (.bp b 0)/\D s=.box t/\sv=⟨[],none⟩/\bx[b]?=some cells/\∀E β bx',bx'[β s]?=some cells->cN E β bx' s (D s) (q s) .undef
theorem aAJ{p:PK}{ps:List PK}{v:V}{vs:List V}{i s:Nat}{q q':TE D}{sv:SV}(h:aJj D cons ps vs (i+1) q s sv)(hq:s≠i->s<100000->q' s=q s)(hi:i+1+ps.length<=64):aJj D cons (p::ps) (v::vs) i q' s sv:=by
 obtain⟨j,t,w,h1,h2,h3,h4,h5,h6,h7,h8⟩:=h;have e:=hq (by omega) (by omega);exact⟨j+1,t,w,by omega,by simp;omega,by simpa using h3,h4,by rw[e];exact h5,h6,h7,h8⟩
theorem aAK{p:PK}{ps:List PK}{v:V}{vs:List V}{i s:Nat}{sv:SV}(h:aJk D ps vs (i+1) s sv):aJk D (p::ps) (v::vs) i s sv:=by
 obtain⟨j,t,b,h1,h2,h3,h4,h5,h6⟩:=h;exact⟨j+1,t,b,by omega,by simp;omega,by simpa using h3,by simpa using h4,h5,h6⟩
theorem aAL{p:PK}{ps:List PK}{v:V}{vs:List V}{i s:Nat}{q q':TE D}{sv:SV}(h:aJW D bx ps vs (i+1) q s sv)(hq:s≠bK i->200000<=s->q' s=q s):aJW D bx (p::ps) (v::vs) i q' s sv:=by
 obtain⟨j,t,b,cells,h1,h2,h3,h4,h5,h6,h7,h8⟩:=h;have e:=hq (by rw[h1];unfold bK;omega) (by rw[h1];unfold bK;omega);exact⟨j+1,t,b,cells,by rw[h1];unfold bK;omega,by simp;omega,by simpa using h3,by simpa using h4,h5,h6,h7,by rw[e];exact h8⟩
theorem aFQ:∀(ps:List PK) (i:Nat) (p:(Ty.row (ps.map PK.ty)).den->TE D->TE D) (x:(Ty.row (ps.map PK.ty)).den) (vs:List V),gJ D ps i=some p->aAB cons bx ps i x vs->i+ps.length<=64->(∀j,j<ps.length->cons.contains (i+j)=true->aE5 ps[j]?=true)->∀(e0:TE D) s sv,(s,sv)∈kF cons ps i->
  aJj D cons ps vs i (p x e0) s sv\/aJk D ps vs i s sv\/aJW D bx ps vs i (p x e0) s sv:=by
 intro ps
 induction ps with
 |nil=>intro i p x vs _ _ _ _ e0 s sv hm;cases hm
 |cons k r ih=>
  intro i p x vs hp hA hi hcn e0 s sv hm;cases k with
  |d t=>
   obtain⟨c,g,hc,hg,rfl⟩:=aFO hp;obtain⟨v,vs',rfl,h1,h2,h3,h4⟩:=hA;have hm':(s=i/\((∀T lk gv E,T s=0->((∃z n cs,v=.sl (.own s 0) z n cs)->cons.contains s=true->gv s)->cD T lk gv E sv.ls v.kids)/\sv.cp=none))\/(s,sv)∈kF cons r (i+1):=by
    have hcn0:=hcn 0 (by simp);have other:∀{T:Nat->Nat} {lk:Nat->Bool} {gv:Nat->Prop} {E:Nat->V},cons.contains i=false->cD T lk gv E [] v.kids:=by
     intro T lk gv E hci;have hb:∀c∈v.cells,c.bare0:=by
      rcases h2 with h2|⟨h2,_⟩
      .exact h2
      .rw[h2]at hci;cases hci
     have hk:=aG h1;rw[hk.1];exact kI hk.2.1 hb
    cases t with
    |sl t=>
     simp only[kF]at hm;rcases List.mem_cons.1 hm with hm|hm
     .cases hm;refine .inl ⟨rfl,fun T lk gv E hT hgv=>?_,rfl⟩;cases hci:cons.contains i with
      |false=>exact other hci
      |true=>
       simp only[if_true];rcases eX h1 with⟨e1,_⟩|⟨lb,rs,e1,_,_⟩
       .rw[e1];exact sG
       .have hlb:=h3 hci _ _ _ _ e1;subst hlb;rw[e1];refine iB ⟨fun nm hnm=>?_,fun _ nm k hl=>?_,fun _=>⟨_,_,rfl⟩,fun _=>⟨_,_,.inl rfl⟩,fun i hi=>(by cases hi),fun s c v hi=>(by cases hi)⟩
        .have:nm=i:=by simpa[Lab.names]using hnm
         subst this;exact⟨by simp[aV],fun hu=>by simp[aV]at hu,fun _=>hgv ⟨_,_,_,e1⟩ hci⟩
        .rcases hl with hl|hl
         .cases hl;exact hT.symm
         .cases hl
     .exact .inr hm
    |_=>
     simp only[kF]at hm;rcases List.mem_cons.1 hm with hm|hm
     .cases hm;refine .inl ⟨rfl,fun T lk gv E hT hgv=>other ?_,rfl⟩;cases hci:cons.contains i with
      |false=>rfl
      |true=>exact absurd (hcn0 hci) (by simp[aE5])
     .exact .inr hm
   rcases hm' with⟨rfl,h5,h6⟩|hm
   .refine .inl ⟨0,t,v,rfl,by simp,rfl,?_,fun E β bx'=>?_,h5,h6,(aG h1).2.2.1⟩
    .exact(eK hc).choose.symm
    .show cN E β bx' s (D s) ((TE.set _ s _) s) v;rw[TE.set_eq];exact bS hc (y:=.d t) h1
   .have hhi:i+1+r.length<=64:=by simp only[List.length_cons]at hi;omega
    rcases ih (i+1) g _ vs' hg h4 hhi (fun j hj hcj=>by have:=hcn (j+1) (by simp;omega) (by rw[show i+(j+1)=i+1+j by omega];exact hcj);simpa using this) e0 s sv hm with h|h|h
    .exact .inl (aAJ h (fun hs _=>TE.set_ne (Ne.symm hs)) hhi)
    .exact .inr (.inl (aAK h))
    .exact .inr (.inr (aAL h (fun hs hlt=>TE.set_ne (by omega))))
  |p t=>
   obtain⟨hD,c,g,hc,hg,rfl⟩:=aFP hp;obtain⟨b,cells,vs',rfl,h1,h2,h3,h4⟩:=hA;simp only[kF]at hm;rcases List.mem_cons.1 hm with hm|hm
   .cases hm;exact .inr (.inl ⟨0,t,b,rfl,by simp,rfl,rfl,hD,rfl⟩)
   rcases List.mem_cons.1 hm with hm|hm
   .cases hm;refine .inr (.inr ⟨0,t,b,cells,rfl,by simp,rfl,rfl,(eK hc).choose.symm,rfl,h1,fun E β bx' hb=>?_⟩);show cN E β bx' (bK i) (D (bK i)) ((TE.set _ (bK i) _) (bK i)) .undef;rw[TE.set_eq];exact bS hc (y:=.box t) ⟨rfl,cells,hb,h2,h3⟩
   .have hhi:i+1+r.length<=64:=by simp only[List.length_cons]at hi;omega
    rcases ih (i+1) g _ vs' hg h4 hhi (fun j hj hcj=>by have:=hcn (j+1) (by simp;omega) (by rw[show i+(j+1)=i+1+j by omega];exact hcj);simpa using this) e0 s sv hm with h|h|h
    .exact .inl (aAJ h (fun hs hlt=>TE.set_ne (by unfold bK;omega)) hhi)
    .exact .inr (.inl (aAK h))
    .exact .inr (.inr (aAL h (fun hs hlt=>TE.set_ne (Ne.symm hs))))
theorem qG:∀{ps:List PK} {i:Nat} {x:(Ty.row (ps.map PK.ty)).den} {vs:List V},aAB cons bx ps i x vs->vs.length=ps.length
 |[],_,_,_,h=>by cases h;rfl
 |.d _::_,_,_,_,⟨_,_,e0,_,_,_,h⟩=>by subst e0;simp[qG h]
 |.p _::_,_,_,_,⟨_,_,_,e0,_,_,_,h⟩=>by subst e0;simp[qG h]
theorem xJ:∀{ps:List PK} {vs:List V} {j:Nat} {t:Ty} {b o:Nat},ps[j]?=some (.p t)->vs[j]?=some (.bp b o)->b∈gN ps vs
 |[],_,_,_,_,_,h,_=>by cases h
 |_::_,[],_,_,_,_,_,h=>by cases h
 |p::ps,v::vs,0,t,b,o,h,h'=>by
  simp only[List.getElem?_cons_zero,Option.some.injEq]at h h';subst h;subst h';exact List.mem_cons_self ..
 |p::ps,v::vs,j+1,t,b,o,h,h'=>by
  simp only[List.getElem?_cons_succ]at h h';have ih:=xJ h h';cases p with
  |d=>exact ih
  |p=>
   cases v with
   |bp=>exact List.mem_cons_of_mem _ ih
   |_=>exact ih
theorem aFR:∀{ps:List PK} {vs:List V},(gN ps vs).Nodup->∀{j j':Nat} {t t':Ty} {b o o':Nat},ps[j]?=some (.p t)->vs[j]?=some (.bp b o)->ps[j']?=some (.p t')->vs[j']?=some (.bp b o')->j=j'
 |[],_,_,_,_,_,_,_,_,_,h,_,_,_=>by cases h
 |_::_,[],_,_,_,_,_,_,_,_,_,h,_,_=>by cases h
 |p::ps,v::vs,hn,j,j',t,t',b,o,o',h1,h2,h3,h4=>by
  have htail:(gN ps vs).Nodup:=by
   cases p with
   |d=>exact hn
   |p=>
    cases v with
    |bp=>exact(List.nodup_cons.1 hn).2
    |_=>exact hn
  cases j with
  |zero=>
   simp only[List.getElem?_cons_zero,Option.some.injEq]at h1 h2;subst h1;subst h2;cases j' with
   |zero=>rfl
   |succ j'=>
    simp only[List.getElem?_cons_succ]at h3 h4;exact absurd (xJ h3 h4) (List.nodup_cons.1 hn).1
  |succ j=>
   simp only[List.getElem?_cons_succ]at h1 h2;cases j' with
   |zero=>
    simp only[List.getElem?_cons_zero,Option.some.injEq]at h3 h4;subst h3;subst h4;exact absurd (xJ h1 h2) (List.nodup_cons.1 hn).1
   |succ j'=>
    simp only[List.getElem?_cons_succ]at h3 h4;rw[aFR htail h1 h2 h3 h4]
theorem aD0(vf:VF)(args:List V)(s:Nat):get (qI vf args) s=if s∈vf.kept then args.getD s .undef else .undef:=by
 unfold qI
 induction vf.kept with
 |nil=>rfl
 |cons a r ih=>
  simp only[List.map_cons,get];by_cases ha:a=s
  .subst ha;simp
  .rw[if_neg ha,ih];have:(s∈a::r)↔s∈r:=by simp[Ne.symm ha]
   simp only[this]
def aAM(vs:List V)(b:Nat):Nat:=match vs[b-200000]? with
 |some (.bp k _)=>k
 |_=>0
def aIp(ps:List PK)(cons:List Nat)(vs:List V)(bx:BX):Cxt:=
 ⟨bx.length,bx,fun b=>∃i t,i<ps.length/\ps[i]?=some (.p t)/\b=bK i,aAM vs,fun nm=>cons.contains nm=true/\∃k z m cs,vs[nm]?=some (.sl (.own nm k) z m cs)⟩
theorem aFS{vf:VF}{ps:List PK}{p:(Ty.row (ps.map PK.ty)).den->TE D->TE D}{x:(Ty.row (ps.map PK.ty)).den}{vs:List V}(hp:gJ D ps 0=some p)(hA:aAB vf.cons bx ps 0 x vs)(hl:ps.length<=64)(hcn:∀j,j<64->vf.cons.contains j=true->aE5 ps[j]?=true)
  (hkp:∀i,i<ps.length->i∈vf.kept) (hkl:∀s∈vf.kept,s<100000) (hnd:(gN ps vs).Nodup) (hnb:bX bx=true) :
  RS (aIp ps vf.cons vs bx) D ⟨kF vf.cons ps 0,[],[]⟩ [] (p x (TE.ini D)) (aAM vs) (start vf vs bx):=by
 have hent:=aFQ ps 0 p x vs hp hA (by omega) (fun j hj hc=>hcn j (by omega) (by simpa using hc)) (TE.ini D);have hlen:=qG hA;have hget:∀s,get (start vf vs bx).env s=if s∈vf.kept then vs.getD s .undef else .undef:=fun s=>aD0 vf vs s
 have hgj:∀j v,j<ps.length->vs[j]?=some v->get (start vf vs bx).env j=v:=fun j v hj hv=>by
  rw[hget,if_pos (hkp j hj),List.getD_eq_getElem?_getD,hv];rfl
 have hhi:∀s,100000<=s->get (start vf vs bx).env s=.undef:=fun s hs=>by
  rw[hget,if_neg fun hm=>by have:=hkl s hm;omega]
 have hba:∀j b,vs[j]?=some (.bp b 0)->aAM vs (bK j)=b:=fun j b hb=>by
  unfold aAM bK;rw[Nat.add_sub_cancel,hb]
 have hB:∀b sv,(D b).isBox=true->(b,sv)∈kF vf.cons ps 0->aJW D bx ps vs 0 (p x (TE.ini D)) b sv:=by
  intro b sv hb hm;rcases hent b sv hm with⟨j,t,v,h1,h2,h3,h4,_⟩|⟨j,t,k,h1,h2,h3,h4,h5,h6⟩|h
  .rw[h4]at hb;cases hb
  .rw[h5]at hb;cases hb
  .exact h
 refine⟨fun s sv hm _=>?_,fun s sv hm hh=>absurd cH hh,fun s hs=>?_,hhi,hnb,fun b sv hb hm=>?_,fun b sv b' sv' hb hm hb' hm' he=>?_,fun q hq=>(by cases hq),Nat.le_refl _,fun i _ _=>rfl⟩
 .rcases hent s sv hm with⟨j,t,v,h1,h2,h3,h4,h5,h6,h7,h8⟩|⟨j,t,k,h1,h2,h3,h4,h5,h6⟩|⟨j,t,b,cells,h1,h2,h3,h4,h5,h6,h7,h8⟩
  .rw[Nat.zero_add]at h1;subst h1;rw[hgj s v h2 h3];exact⟨h5 _ _ _,h6 _ _ _ _ rfl (fun⟨z,n,cs,hv⟩ hc=>⟨hc,0,z,n,cs,by rw[h3,hv]⟩),by rw[h7];exact eB.none⟩
  .rw[Nat.zero_add]at h1;subst h1;subst h6;rw[hgj s _ h2 h4];refine⟨?_,dY fun c hc=>?_,eB.none⟩
   .have:=srel_ptr (E:=get (start vf vs bx).env) (β:=aAM vs) (bx:=(start vf vs bx).bx) (s0:=s) h5 (p x (TE.ini D) s);rw[hba s k h4]at this;exact this
   .have:c=.bp k 0:=by simpa[V.kids]using hc
    subst this;trivial
  .subst h6;rw[Nat.zero_add]at h1;rw[hhi s (by rw[h1];unfold bK;omega)];refine⟨h8 _ _ _ ?_,dY fun c hc=>?_,eB.none⟩
   .rw[h1,hba j b h4];exact h7
   .have:c=.undef:=by simpa[V.kids]using hc
    subst this;trivial
 .exfalso;rw[hget]at hs;split at hs
  .rename_i hk;by_cases hj:s<vs.length
   .rw[List.getD_eq_getElem?_getD,List.getElem?_eq_getElem hj]at hs;have:∀{ps:List PK} {i:Nat} {x:(Ty.row (ps.map PK.ty)).den} {vs:List V},aAB vf.cons bx ps i x vs->∀v∈vs,aN v=false:=by
     intro ps
     induction ps with
     |nil=>intro i x vs h v hv;cases h;cases hv
     |cons k r ih=>
      intro i x vs h v hv;cases k with
      |d t=>
       obtain⟨w,vs',rfl,h1,_,_,h2⟩:=h;rcases List.mem_cons.1 hv with rfl|hv
       .exact(aG h1).2.2.1
       .exact ih h2 v hv
      |p t=>
       obtain⟨b,cells,vs',rfl,_,_,_,h2⟩:=h;rcases List.mem_cons.1 hv with rfl|hv
       .rfl
       .exact ih h2 v hv
    have:=this hA _ (List.getElem_mem hj);simp only[Option.getD_some]at hs;rw[hs]at this;cases this
   .rw[List.getD_eq_getElem?_getD,List.getElem?_eq_none (by omega)]at hs;cases hs
  .cases hs
 .obtain⟨j,t,k,cells,h1,h2,h3,h4,h5,h6,h7,h8⟩:=hB b sv hb hm;rw[Nat.zero_add]at h1;have hk:=hba j k h4;rw[<-h1]at hk;refine⟨by rw[hk];exact(List.getElem?_eq_some_iff.1 h7).1,.inl ⟨by rw[h1];unfold bK;omega,⟨j,t,h2,h3,h1⟩,rfl⟩⟩
 .obtain⟨j,t,k,cells,h1,h2,h3,h4,_⟩:=hB b sv hb hm;obtain⟨j',t',k',cells',h1',h2',h3',h4',_⟩:=hB b' sv' hb' hm';rw[Nat.zero_add]at h1 h1';have hk:=hba j k h4;have hk':=hba j' k' h4';rw[h1,h1',hk,hk']at he;subst he;rw[h1,h1',aFR hnd h3 h4 h3' h4']
end
end Go.VM
namespace Go.VM
def aIq(T:Nat->Nat)(lk:Nat->Bool)(gv:Nat->Prop)(E:Nat->V):List Ls->List V->Prop
 |[],[]=>True
 |l::ls,v::vs=>cD T lk gv E l v.kids/\jN l=true/\aIq T lk gv E ls vs
 |_,_=>False
section
variable{X:Cxt}{D:Nat->SY}{Λ:LS}{e:TE D}{β:Nat->Nat}{σ:St}
theorem aG8{t:Ty}{r:List Ty}{s:Nat}{xs:List RV}{f:TE D->(Ty.row (t::r)).den}(h:aE0 D (t::r) (.tmp s::xs)=some f):∃g k,opD D (.tmp s) t=some g/\aE0 D r xs=some k/\f=fun e=>aP t r (g e) (k e):=by
 have h:(match opD D (.tmp s) t,aE0 D r xs with
  |some f,some g=>some fun e=>aP t r (f e) (g e)
  |_,_=>none)=some f:=h
 split at h
 .rename_i g k hg hk;exact⟨g,k,hg,hk,(Option.some.inj h).symm⟩
 .cases h
theorem aFT{t:Ty}{r:List Ty}{agg:Bool}{sz s:Nat}{xs:List RV}{f:TE D->(Ty.row (t::r)).den}(h:aE0 D (t::r) (.cell agg sz s::xs)=some f) :
  ∃w g c k,rty D s=some w/\Ty.getAt w 0 t=some g/\SY.get (D s) (.reg w)=some c/\aE0 D r xs=some k/\f=fun e=>aP t r (g (c (e s))) (k e):=by
 have h:(match rty D s with
  |some w=>match Ty.getAt w 0 t,SY.get (D s) (.reg w),aE0 D r xs with
   |some f,some c,some g=>some fun e=>aP t r (f (c (e s))) (g e)
   |_,_,_=>none
  |none=>none)=some f:=h
 split at h
 .rename_i w hw;split at h
  .rename_i g c k hg hc hk;exact⟨w,g,c,k,hw,hg,hc,hk,(Option.some.inj h).symm⟩
  .cases h
 .cases h
theorem aAN{t:Ty}{r:List Ty}{a:t.den}{b:(Ty.row r).den}{v:V}{vs:List V}(h:gP t a v)(h':iQ r b vs):iQ (t::r) (aP t r a b) (v::vs):=
 ⟨v,vs,rfl,by rw[cM];exact h,by rw[cF];exact h'⟩
theorem aB6(h:RS X D Λ [] e β σ):∀(rs:List RV) {ts:List Ty} {f:TE D->(Ty.row ts).den} {ls:List Ls},aE0 D ts rs=some f->aCx D Λ rs=some ls->aIC ts rs=true->
  ∃vs,dB (get σ.env) rs=some vs/\iQ ts (f e) vs/\aIq σ.tips σ.lk X.gv (get σ.env) ls vs
 |[],[],f,ls,hf,hl,_=>by
  cases hl;exact⟨[],rfl,rfl,trivial⟩
 |[],_::_,_,_,hf,_,_=>by cases hf
 |.tmp _::_,[],_,_,hf,_,_=>by cases hf
 |.cell ..::_,[],_,_,hf,_,_=>by cases hf
 |.tmp s::xs,t::r,f,ls,hf,hl,hv=>by
  obtain⟨g,k,h1,h2,rfl⟩:=aG8 hf;simp only[aCx]at hl;split at hl
  .rename_i l t' ls' hrd hdt hrest;split at hl
   .rename_i hno;cases hl;have hv:aIC r xs=true:=hv;obtain⟨vs,r1,r2,r3⟩:=aB6 h xs h2 hrest hv;obtain⟨k1,k2,_⟩:=h.opD (cs:=[]) cH h1 hrd;refine⟨ev (get σ.env) (.tmp s)::vs,?_,aAN k1 r2,k2,hno,r3⟩;simp only[dB,eZ k1 k2 hno,if_true,r1];rfl
   .cases hl
  .cases hl
 |.cell agg sz s::xs,t::r,f,ls,hf,hl,hv=>by
  obtain⟨w,g,c,k,h1,h2,h3,h4,rfl⟩:=aFT hf;simp only[aCx]at hl;split at hl
  .rename_i sv t' ls' hrd hdt hrest;split at hl
   .rename_i hno;cases hl;simp only[aIC,Bool.and_eq_true,decide_eq_true_eq]at hv;obtain⟨⟨rfl,rfl,hk⟩,hv⟩:=hv;obtain⟨vs,r1,r2,r3⟩:=aB6 h xs h4 hrest hv;obtain⟨q,n,cells,hE,hcr,hls⟩:=h.regc (cs:=[]) cH hrd h3;obtain⟨g2,g1⟩:=cK h2;have g1:=g1 _ _ hcr;have hls2:=hls.sub 0 t.size;have hls3:cD σ.tips σ.lk X.gv (get σ.env) sv.ls ((cells.drop 0).take t.size):=by
     intro i c hc;rw[List.drop_zero]at hc;have hi:i<t.size:=by
      have:=(List.getElem?_eq_some_iff.1 hc).1;rw[List.length_take]at this;omega
     rw[List.getElem?_take_of_lt hi]at hc;exact hls i c hc
    obtain⟨v,p1,p2,p3,_⟩:=dI (by rw[aF hcr];exact g2) g1 hk hls3 hno;have hls4:cD σ.tips σ.lk X.gv (get σ.env) sv.ls v.kids:=by rw[p3];exact hls3
    refine⟨v::vs,?_,aAN p2 r2,hls4,hno,r3⟩;simp only[dB,hE,p1,eZ p2 hls4 hno,if_true,r1];rfl
   .cases hl
  .cases hl
end
def aHn(c c':V):Prop:=c'=c\/∃l l' z n cs,c=.sl l z n cs/\c'=.sl l' z n cs
def sU:List V->List V->Prop
 |[],[]=>True
 |c::r,c'::r'=>aHn c c'/\sU r r'
 |_,_=>False
theorem sV:∀{a b cs':List V},sU (a++b) cs'->∃a' b',cs'=a'++b'/\sU a a'/\sU b b'
 |[],b,cs',h=>⟨[],cs',rfl,trivial,h⟩
 |c::a,b,[],h=>h.elim
 |c::a,b,c'::cs',⟨h1,h2⟩=>by
  obtain⟨a',b',e0,h3,h4⟩:=sV h2;subst e0;exact⟨c'::a',b',rfl,⟨h1,h3⟩,h4⟩
theorem gO{c:V}{cs':List V}(h:sU [c] cs'):∃c',cs'=[c']/\aHn c c':=by
 match cs',h with
 |[c'],⟨h1,_⟩=>exact⟨c',rfl,h1⟩
theorem lG:∀{t:Ty} {x:t.den} {cs cs':List V},bP t x cs->sU cs cs'->bP t x cs'
 |.unit,_,_,cs',h,hr=>by
  cases h
  match cs',hr with
  |[],_=>rfl
 |.bool,_,_,cs',h,hr=>by
  cases h;obtain⟨c',rfl,h1⟩:=gO hr;rcases h1 with rfl|⟨_,_,_,_,_,h1,_⟩
  .rfl
  .cases h1
 |.int _,_,_,cs',h,hr=>by
  cases h;obtain⟨c',rfl,h1⟩:=gO hr;rcases h1 with rfl|⟨_,_,_,_,_,h1,_⟩
  .rfl
  .cases h1
 |.str,_,_,cs',h,hr=>by
  cases h;obtain⟨c',rfl,h1⟩:=gO hr;rcases h1 with rfl|⟨_,_,_,_,_,h1,_⟩
  .rfl
  .cases h1
 |.fn _,_,_,cs',h,hr=>by
  cases h;obtain⟨c',rfl,h1⟩:=gO hr;rcases h1 with rfl|⟨_,_,_,_,_,h1,_⟩
  .rfl
  .cases h1
 |.err,_,_,cs',h,hr=>by
  rcases h with⟨rfl,h2⟩|⟨t,v,rfl,h2⟩
  .obtain⟨c',rfl,h1⟩:=gO hr;rcases h1 with rfl|⟨_,_,_,_,_,h1,_⟩
   .exact .inl ⟨rfl,h2⟩
   .cases h1
  .obtain⟨c',rfl,h1⟩:=gO hr;rcases h1 with rfl|⟨_,_,_,_,_,h1,_⟩
   .exact .inr ⟨_,_,rfl,h2⟩
   .cases h1
 |.sl t,_,_,cs',h,hr=>by
  rcases h with⟨rfl,h2⟩|⟨lb,rs,rfl,h2⟩
  .obtain⟨c',rfl,h1⟩:=gO hr;rcases h1 with rfl|⟨_,_,_,_,_,h1,_⟩
   .exact .inl ⟨rfl,h2⟩
   .cases h1
  .obtain⟨c',rfl,h1⟩:=gO hr;rcases h1 with rfl|⟨_,l',_,_,_,h1,rfl⟩
   .exact .inr ⟨_,_,rfl,h2⟩
   .cases h1;exact .inr ⟨_,_,rfl,h2⟩
 |.st t,_,_,_,h,hr=>lG (t:=t) h hr
 |.pair a b,_,_,_,h,hr=>by
  obtain⟨c,d,rfl,h1,h2⟩:=h;obtain⟨c',d',rfl,h3,h4⟩:=sV hr;exact⟨c',d',rfl,lG h1 h3,lG h2 h4⟩
 |.av k n,x,_,cs',⟨h1,h2⟩,hr=>by
  refine⟨h1,?_⟩;subst h2;clear h1
  induction x generalizing cs' with
  |nil=>match cs',hr with
   |[],_=>rfl
  |cons i r ih=>
   match cs',hr with
   |c'::r',⟨q1,q2⟩=>
    rcases q1 with rfl|⟨_,_,_,_,_,q1,_⟩
    .rw[List.map_cons,<-ih r' q2]
    .cases q1
theorem aAO(i:Nat)(v:V):aHn v (number1 i v).1:=by
 unfold number1;split
 .exact .inr ⟨_,_,_,_,_,rfl,rfl⟩
 .exact .inl rfl
theorem nS:∀(i:Nat) (cs:List V),sU cs (bA i cs).1
 |_,[]=>trivial
 |i,v::r=>⟨aAO i v,nS _ r⟩
theorem kQ(i:Nat)(v:V):(gT i v).1.cells=(bA i v.cells).1/\(gT i v).2=(bA i v.cells).2/\(gT i v).1.isAgg=v.isAgg:=by
 cases v with
 |sl l z n cs=>cases l<;>exact⟨rfl,rfl,rfl⟩
 |_=>exact⟨rfl,rfl,rfl⟩
theorem numberL_append:∀(a b:List V) (i:Nat),bA i (a++b)=((bA i a).1++(bA (bA i a).2 b).1,(bA (bA i a).2 b).2)
 |[],_,_=>rfl
 |v::a,b,i=>by
  simp only[List.cons_append,bA];rw[numberL_append a b]
theorem kR:∀(vs:List V) (i:Nat),(bQ i vs).flatMap V.cells=(bA i (vs.flatMap V.cells)).1
 |[],_=>rfl
 |v::r,i=>by
  simp only[bQ,List.flatMap_cons];obtain⟨h1,h2,_⟩:=kQ i v;rw[numberL_append,h1,kR r,h2]
theorem lT:∀{ts:List Ty} {x:(Ty.row ts).den} {vs:List V} (i:Nat),iQ ts x vs->iQ ts x (bQ i vs)
 |[],_,_,_,h=>by cases h;rfl
 |t::r,x,_,i,⟨v,vs',e0,h1,h2⟩=>by
  subst e0;obtain⟨k1,_,k3⟩:=kQ i v;exact⟨_,_,rfl,⟨by rw[k1];exact lG h1.1 (nS _ _),by rw[k3];exact h1.2⟩,lT _ h2⟩
theorem lH(i:Nat)(v:V):((∀nm f z n xs,v≠.sl (.own nm f) z n xs)/\number1 i v=(v,i))\/∃nm f z n xs,v=.sl (.own nm f) z n xs/\number1 i v=(.sl (.own i f) z n xs,i+1):=by
 cases v with
 |sl l z n cs=>
  cases l with
  |own nm f=>exact .inr ⟨_,_,_,_,_,rfl,rfl⟩
  |_=>exact .inl ⟨fun _ _ _ _ _ h=>(by cases h),rfl⟩
 |_=>exact .inl ⟨fun _ _ _ _ _ h=>(by cases h),rfl⟩
theorem pA:∀(cs:List V) (i k:Nat) (c':V),(bA i cs).1[k]?=some c'->∃c,cs[k]?=some c/\(((∀nm f z n xs,c≠.sl (.own nm f) z n xs)/\c'=c)\/∃nm f z n xs j,c=.sl (.own nm f) z n xs/\c'=.sl (.own j f) z n xs/\i<=j/\j<=i+k)
 |[],_,_,_,h=>by cases h
 |v::r,i,0,c',h=>by
  simp only[bA,List.getElem?_cons_zero,Option.some.injEq]at h;refine⟨v,rfl,?_⟩;rcases lH i v with⟨h1,h2⟩|⟨nm,f,z,n,xs,h1,h2⟩
  .rw[h2]at h;exact .inl ⟨h1,h.symm⟩
  .rw[h2]at h;exact .inr ⟨nm,f,z,n,xs,i,h1,h.symm,by omega,by omega⟩
 |v::r,i,k+1,c',h=>by
  simp only[bA,List.getElem?_cons_succ]at h;obtain⟨c,h1,h2⟩:=pA r _ k c' h;refine⟨c,by simpa using h1,?_⟩;rcases h2 with h2|⟨nm,f,z,n,xs,j,h3,h4,h5,h6⟩
  .exact .inl h2
  .refine .inr ⟨nm,f,z,n,xs,j,h3,h4,?_⟩;rcases lH i v with⟨_,h7⟩|⟨_,_,_,_,_,_,h7⟩<;>rw[h7]at h5 h6<;>simp only at h5 h6<;>omega
theorem sW:∀(cs:List V) (i:Nat) {k k' j f f' z z' n n':Nat} {xs xs':List V},(bA i cs).1[k]?=some (.sl (.own j f) z n xs)->(bA i cs).1[k']?=some (.sl (.own j f') z' n' xs')->k=k'
 |[],_,_,_,_,_,_,_,_,_,_,_,_,h,_=>by cases h
 |v::r,i,k,k',j,f,f',z,z',n,n',xs,xs',h,h'=>by
  simp only[bA]at h h';have low:∀{k j f z n:Nat} {xs:List V},(bA (number1 i v).2 r).1[k]?=some (.sl (.own j f) z n xs)->(number1 i v).2<=j:=by
   intro k j f z n xs h;obtain⟨c,_,h2⟩:=pA r _ k _ h;rcases h2 with⟨h3,h4⟩|⟨_,_,_,_,_,j',_,h4,h5,_⟩
   .exact absurd h4.symm (h3 _ _ _ _ _)
   .cases h4;exact h5
  have head:∀{j f z n:Nat} {xs:List V},(number1 i v).1=.sl (.own j f) z n xs->j+1=(number1 i v).2:=by
   intro j f z n xs h;rcases lH i v with⟨h1,h2⟩|⟨nm,f,z,n,xs,h1,h2⟩
   .rw[h2]at h;exact absurd h (h1 _ _ _ _ _)
   .rw[h2]at h ⊢;cases h;rfl
  cases k with
  |zero=>
   simp only[List.getElem?_cons_zero,Option.some.injEq]at h;cases k' with
   |zero=>rfl
   |succ k'=>
    simp only[List.getElem?_cons_succ]at h';have:=head h;have:=low h';omega
  |succ k=>
   simp only[List.getElem?_cons_succ]at h;cases k' with
   |zero=>
    simp only[List.getElem?_cons_zero,Option.some.injEq]at h';have:=head h';have:=low h;omega
   |succ k'=>
    simp only[List.getElem?_cons_succ]at h';rw[sW r _ h h']
theorem vA:∀(cs:List V) (i:Nat),(bA i cs).2<=i+cs.length
 |[],i=>by simp[bA]
 |v::r,i=>by
  simp only[bA,List.length_cons];have:=vA r (number1 i v).2;rcases lH i v with⟨_,h2⟩|⟨_,_,_,_,_,_,h2⟩<;>rw[h2]at this⊢<;> simp only at this⊢<;> omega
theorem aG9(vs:List V)(i:Nat):aEx (bQ i vs):=by
 intro c hc c' hc' j f f' z m cs z' m' cs' h1 h2;subst h1;subst h2;rw[kR]at hc hc';obtain⟨k,hk⟩:=List.getElem?_of_mem hc;obtain⟨k',hk'⟩:=List.getElem?_of_mem hc';have:=sW _ _ hk hk';subst this;rw[hk]at hk';cases hk';rfl
def ClP(all:List Nat):List (Ty×List (Nat×Bool))->List Ls->List V->Prop
 |[],[],[]=>True
 |(_,cl)::spec,l::ls,v::vs=>(∀i b,(i,b)∈cl->(aV l i).own=true/\(aV l i).tip=true/\(b=true->(aV l i).un=true)/\∀nm k z m cs,v.cells[i]?=some (.sl (.own nm k) z m cs)->all.count nm=1)/\ClP all spec ls vs
 |_,_,_=>False
theorem bR.nm{T:Nat->Nat}{lk:Nat->Bool}{gv:Nat->Prop}{E:Nat->V}{al:AL}{l:Lab}{nm:Nat}(h:bR T lk gv E al l)(hm:nm∈l.names):nm∈al.ns:=(h.1 nm hm).1
theorem aB7(T:Nat->Nat)(lk:Nat->Bool)(all:List Nat)(lab:Lab):aM T lk all lab=.none\/(∃nm k,aM T lk all lab=.arg nm/\lab=.own nm k/\nm<64)\/∃nm f,aM T lk all lab=.own nm f:=by
 cases lab with
 |own nm k=>
  simp only[aM];split
  .split
   .rename_i h;exact .inr (.inl ⟨nm,k,rfl,rfl,h⟩)
   .exact .inr (.inr ⟨nm,_,rfl⟩)
  .exact .inl rfl
 |_=>exact .inl rfl
theorem mD(v:V):v.names=aC v.cells:=by
 cases v<;>simp[V.cells,aC,V.names]
theorem aCE{nm:Nat}:∀{cells:List V} {i:Nat} {c:V},cells[i]?=some c->c.names=[nm]->(∀j c',cells[j]?=some c'->j≠i->nm∉c'.names)->(aC cells).count nm=1
 |[],_,_,h,_,_=>by cases h
 |v::r,0,c,h,hn,ho=>by
  simp only[List.getElem?_cons_zero,Option.some.injEq]at h;subst h;simp only[aC,List.count_append,hn];have:nm∉aC r:=fun hm=>by
   obtain⟨c',hc',hx⟩:=gA hm;obtain⟨j,hj⟩:=List.getElem?_of_mem hc';exact ho (j+1) c' (by simpa using hj) (by omega) hx
  rw[List.count_eq_zero.2 this];simp
 |v::r,i+1,c,h,hn,ho=>by
  simp only[List.getElem?_cons_succ]at h;simp only[aC,List.count_append];have:nm∉v.names:=ho 0 v rfl (by omega);rw[List.count_eq_zero.2 this,aCE h hn fun j c' hj hne=>ho (j+1) c' (by simpa using hj) (by omega)]
theorem aD1{c:V}(hc:c.cell):∀T lk gv E al,aBr T lk gv E al c->∀nm∈c.names,nm∈al.ns:=by
 intro T lk gv E al h nm hn;cases c with
 |sl l=>exact(h.1 nm hn).1
 |ep=>exact(hc:False).elim
 |agg=>exact(hc:False).elim
 |tup=>exact(hc:False).elim
 |reg=>exact(hc:False).elim
 |_=>cases hn
theorem aHE{T:Nat->Nat}{lk:Nat->Bool}{gv:Nat->Prop}{E:Nat->V}:∀{spec:List (Ty×List (Nat×Bool))} {x:(Ty.row (spec.map Prod.fst)).den} {ls:List Ls} {vs:List V} (pre before:List Nat),iQ (spec.map Prod.fst) x vs->aIq T lk gv E ls vs->aJS ls spec=true->aGJ ls spec before=true->(∀nm∈pre,nm∈before)->ClP (pre++aC vs) spec ls vs
 |[],_,[],[],_,_,_,_,_,_,_=>trivial
 |[],_,[],_::_,_,_,h,_,_,_,_=>by cases h
 |[],_,_::_,[],_,_,_,h,_,_,_=>h.elim
 |[],_,_::_,_::_,_,_,h,_,_,_,_=>by cases h
 |_::_,_,[],[],_,_,h,_,_,_,_=>by obtain⟨_,_,h,_⟩:=h;cases h
 |_::_,_,[],_::_,_,_,_,h,_,_,_=>h.elim
 |_::_,_,_::_,[],_,_,h,_,_,_,_=>by obtain⟨_,_,h,_⟩:=h;cases h
 |(t,cl)::spec,x,l::ls,v::vs,pre,before,⟨v',vs',e0,h1,h2⟩,⟨k1,k2,k3⟩,hc,hc2,hpre=>by
  cases e0;simp only[aJS,Bool.and_eq_true,List.all_eq_true]at hc;simp only[aGJ,Bool.and_eq_true,List.all_eq_true]at hc2;obtain⟨⟨c1,c2⟩,_⟩:=hc;obtain⟨d1,d2⟩:=hc2;have hk:=aG h1;rw[hk.1]at k1;have hvn:∀nm∈v.names,nm∈aR l:=fun nm hn=>by
   rw[mD]at hn;exact kL k1 hk.2.1 nm hn
  have hall:pre++aC (v::vs)=(pre++v.names)++aC vs:=by simp only[aC,List.append_assoc]
  have hrest:∀{spec:List (Ty×List (Nat×Bool))} {x:(Ty.row (spec.map Prod.fst)).den} {ls:List Ls} {vs:List V},iQ (spec.map Prod.fst) x vs->aIq T lk gv E ls vs->∀nm∈aC vs,nm∈ls.flatMap aR:=by
   intro spec
   induction spec with
   |nil=>intro x ls vs h _ nm hn;cases h;cases hn
   |cons q spec ih=>
    intro x ls vs ⟨w,ws,e0,g1,g2⟩ hL nm hn;subst e0;cases ls with
    |nil=>exact hL.elim
    |cons l ls=>
     obtain⟨m1,_,m3⟩:=hL;have hk:=aG g1;rw[hk.1]at m1;simp only[aC,List.mem_append]at hn;rw[List.flatMap_cons,List.mem_append];rcases hn with hn|hn
     .rw[mD]at hn;exact .inl (kL m1 hk.2.1 nm hn)
     .exact .inr (ih g2 m3 nm hn)
  refine⟨fun i b hib=>?_,?_⟩
  .have hq:=c1 (i,b) hib;have hq2:=d1 (i,b) hib;simp only[Bool.or_eq_true,Bool.not_eq_true',decide_eq_true_eq]at hq hq2;obtain⟨⟨⟨⟨⟨q1,q2⟩,q3⟩,q4⟩,q5⟩,q6⟩:=hq;refine⟨q1,q2,fun hb=>?_,fun nm k z m cs hcell=>?_⟩
   .rcases q3 with q3|q3
    .rw[hb]at q3;cases q3
    .exact q3
   .have hin:nm∈(aV l i).ns:=bR.nm (l:=.own nm k) (k1 i _ hcell) (by simp[Lab.names]);have n1:nm∉pre:=fun hm=>cL hq2 nm (hpre nm hm) hin
    have n2:nm∉aC vs:=fun hm=>cL q6 nm (hrest h2 k3 nm hm) hin
    have n3:(aC v.cells).count nm=1:=aCE hcell rfl fun j c' hj hne hx=>by
     have hcc:=hk.2.1 c' (List.mem_of_getElem? hj);have hjn:=aD1 hcc _ _ _ _ _ (k1 j c' hj) nm hx;rcases fA (ls:=l) (i:=j)with h0|h0
     .rw[h0]at hjn;cases hjn
     .rcases q5 _ h0 with h9|h9
      .exact hne h9
      .exact cL h9 nm hjn hin
    simp only[aC,List.count_append,mD,n3];rw[List.count_eq_zero.2 n1,List.count_eq_zero.2 n2]
  .rw[hall];exact aHE (pre++v.names) (aR l++before) h2 k3 c2 d2 fun nm hm=>by
    rcases List.mem_append.1 hm with hm|hm
    .exact List.mem_append_right _ (hpre nm hm)
    .exact List.mem_append_left _ (hvn nm hm)
theorem aB8{cl:List (Nat×Bool)}{i:Nat}{b:Bool}(h:dU cl i=some b):(i,b)∈cl:=by
 unfold dU at h;obtain⟨p,h1,h2⟩:=Option.map_eq_some_iff.1 h;have h3:=List.find?_some h1;have h4:=List.mem_of_find?_eq_some h1;simp only[beq_iff_eq]at h3;cases p with
 |mk a c=>simp only at h2 h3;subst h2;subst h3;exact h4
theorem aAP{cons:List Nat}{args:List V}{n:Nat}{T:Nat->Nat}{lk:Nat->Bool}{gv:Nat->Prop}{E:Nat->V}(hgv:∀nm,gv nm->cons.contains nm=true/\∃k z m cs,args[nm]?=some (.sl (.own nm k) z m cs))(hlk:∀nm,nm<64->lk nm=true){all:List Nat} :
  ∀{spec:List (Ty×List (Nat×Bool))} {x:(Ty.row (spec.map Prod.fst)).den} {ls:List Ls} {vs:List V} (i:Nat),iQ (spec.map Prod.fst) x vs->aIq T lk gv E ls vs->ClP all spec ls vs->i+gQ spec<=n->
   aB1 cons args n spec (bQ i (vs.map (V.mapLab (aM T lk all))))
 |[],_,_,_,_,_,_,_,_=>trivial
 |_::_,_,[],[],_,h,_,_,_=>by obtain⟨_,_,h,_⟩:=h;cases h
 |_::_,_,[],_::_,_,_,h,_,_=>h.elim
 |_::_,_,_::_,[],_,h,_,_,_=>by obtain⟨_,_,h,_⟩:=h;cases h
 |(t,cl)::spec,x,l::ls,v::vs,i,⟨v',vs',e0,h1,h2⟩,⟨k1,k2,k3⟩,⟨c1,c2⟩,hn=>by
  cases e0;have hk:=aG h1;rw[hk.1]at k1;have hsz:v.cells.length=t.size:=aF h1.1;simp only[gQ]at hn;have hnc:=kQ i (v.mapLab (aM T lk all));have hmc:(v.mapLab (aM T lk all)).cells=v.cells.map (V.mapLab1 (aM T lk all)):=kO h1;refine⟨_,_,rfl,fun k c' hc'=>?_,aAP hgv hlk _ h2 k3 c2 ?_⟩
  .rw[hnc.1,hmc]at hc';obtain⟨c1',q1,q2⟩:=pA _ _ _ _ hc';rw[List.getElem?_map]at q1;obtain⟨c0,q0,q1⟩:=Option.map_eq_some_iff.1 q1;have hkl:k<t.size:=by rw[<-hsz];exact(List.getElem?_eq_some_iff.1 q0).1
   have hlab:=k1 k c0 q0;have hcell:=hk.2.1 c0 (List.mem_of_getElem? q0);cases c0 with
   |sl lab z m xs=>
    have hlab:bR T lk gv E (aV l k) lab:=hlab;simp only[V.mapLab1]at q1;subst q1;have claim:∀b,dU cl k=some b->∃nm,lab=.own nm (T nm)/\all.count nm=1/\(b=true->lk nm=false):=by
     intro b hb;obtain⟨p1,p2,p3,p4⟩:=c1 k b (aB8 hb);obtain⟨nm,f,hl⟩:=hlab.2.2.1 p1;subst hl;have hf:=hlab.2.1 p2 nm f (.inl rfl);subst hf;exact⟨nm,rfl,p4 _ _ _ _ _ q0,fun hb=>(hlab.1 nm (by simp[Lab.names])).2.1 (p3 hb)⟩
    rcases q2 with⟨q2,rfl⟩|⟨nm,f,z',m',xs',j,q2,rfl,q3,q4⟩
    ·
     refine⟨?_,fun b hb=>?_⟩
     .rcases aB7 T lk all lab with hA|⟨nm,k',hA,rfl,hlt⟩|⟨nm,f,hA⟩
      .exact .inl hA
      .obtain⟨g1,k2,z2,m2,cs2,g2⟩:=hgv nm ((hlab.1 nm (by simp[Lab.names])).2.2 hlt);exact .inr (.inr ⟨nm,k2,z2,m2,cs2,hA,g1,g2⟩)
      .exact absurd (by rw[hA]) (q2 nm f z m xs)
     .obtain⟨nm,rfl,hcount,hun⟩:=claim b hb;have hA:aM T lk all (.own nm (T nm))=if nm<64 then .arg nm else .own nm (if lk nm then 1 else 0):=by
       simp only[aM];rw[if_pos ⟨trivial,hcount⟩]
      by_cases hlt:nm<64
      .rw[hA,if_pos hlt];refine⟨fun h=>(by cases h),fun hb=>?_⟩;rw[hlk nm hlt]at hun;exact absurd (hun hb) (by simp)
      .exfalso;rw[if_neg hlt]at hA;exact q2 _ _ _ _ _ (by rw[hA])
    ·
     simp only[V.sl.injEq]at q2;obtain⟨hA,rfl,rfl,rfl⟩:=q2;refine⟨.inr (.inl ⟨j,f,rfl,by omega⟩),fun b hb=>⟨fun h=>(by cases h),fun hb'=>?_⟩⟩;obtain⟨nm',rfl,hcount,hun⟩:=claim b hb;simp only[aM]at hA;rw[if_pos ⟨trivial,hcount⟩]at hA;split at hA
     .cases hA
     .rw[hun hb']at hA;cases hA;exact⟨j,rfl⟩
   |_=>
    rcases q2 with⟨_,rfl⟩|⟨_,_,_,_,_,_,q2,_⟩
    .subst q1;first|trivial|exact(hcell:False).elim
    .rw[<-q1]at q2;cases q2
  .rw[hnc.2.1,hmc];have:=vA (v.cells.map (V.mapLab1 (aM T lk all))) i;rw[List.length_map,hsz]at this;omega
end Go.VM
namespace Go.VM
section
variable{D:Nat->SY}{sg:Nat->Sg}{cf:NF sg}{cfv:cO}{vsg:Nat->Sig}
theorem tR{ts:List Ty}{x:(Ty.row ts).den}{vs:List V}(h:iQ ts x vs):(packed vs).results=vs/\∀v∈vs,aN v=false:=by
 have hv:∀{ts:List Ty} {x:(Ty.row ts).den} {vs:List V},iQ ts x vs->∀v∈vs,aN v=false/\∀us,v≠.tup us:=by
  intro ts
  induction ts with
  |nil=>intro x vs h v hm;cases h;cases hm
  |cons t r ih=>
   intro x vs ⟨w,ws,e0,h1,h2⟩ v hm;subst e0;rcases List.mem_cons.1 hm with rfl|hm
   .exact⟨(aG h1).2.2.1,(aG h1).2.2.2.1⟩
   .exact ih h2 v hm
 refine⟨?_,fun v hm=>(hv h v hm).1⟩;unfold packed;split
 .rename_i v;have:=(hv h v (by simp)).2;cases v with
  |tup us=>exact absurd rfl (this us)
  |_=>rfl
 .rfl
theorem kS:∀{bx:BX} (n:Nat),bX bx=true->bX (bx.take n)=true
 |[],n,_=>by cases n<;>rfl
 |a::r,0,_=>rfl
 |a::r,n+1,h=>by
  simp only[bX,Bool.and_eq_true]at h;simp only[List.take_succ_cons,bX,Bool.and_eq_true];exact⟨h.1,kS n h.2⟩
theorem vB:∀{ts:List Ty} {x:(Ty.row ts).den} {vs:List V},iQ ts x vs->bO vs=true
 |[],_,_,h=>by cases h;rfl
 |t::r,x,_,⟨v,vs',e0,h1,h2⟩=>by
  subst e0;simp only[bO,Bool.and_eq_true];exact⟨aHB h1,vB h2⟩
theorem aFU{t:Ty}{r:List PK}{i:Nat}{b:TE D->(Ty.row (bD (.p t::r))).den}(h:tO D (.p t::r) i=some b) :
  ∃c g,SY.get (D (bK i)) (.box t)=some c/\tO D r (i+1)=some g/\b=fun e=>aP t (bD r) (c (e (bK i))) (g e):=by
 have h:(match SY.get (D (bK i)) (.box t),tO D r (i+1)with
  |some c,some g=>some fun e=>aP t (bD r) (c (e (bK i))) (g e)
  |_,_=>none)=some b:=h
 split at h
 .rename_i c g hc hg;exact⟨c,g,hc,hg,(Option.some.inj h).symm⟩
 .cases h
theorem aFV{t:Ty}{r:List PK}{i:Nat}{b:TE D->(Ty.row (bD r)).den}(h:tO D (.d t::r) i=some b):tO D r (i+1)=some b:=h
theorem aHo{X:Cxt}{Λ:LS}{e:TE D}{β:Nat->Nat}{σ:St}(h:RS X D Λ [] e β σ):∀(ps:List PK) (i:Nat) (b:TE D->(Ty.row (bD ps)).den) (vs:List V),tO D ps i=some b->aH7 Λ ps i=true->vs.length=ps.length->
  (∀(j:Nat) t,ps[j]?=some (.p t)->∃k,vs[j]?=some (.bp k 0)/\β (bK (i+j))=k)->aEw σ.bx ps (b e) vs:=by
 intro ps
 induction ps with
 |nil=>intro i b vs _ _ _ _;trivial
 |cons p r ih=>
  intro i b vs hb hin hl hat;cases vs with
  |nil=>cases hl
  |cons v vs=>
   have hl':vs.length=r.length:=by simpa using hl
   have hat':∀(j:Nat) t,r[j]?=some (.p t)->∃k,vs[j]?=some (.bp k 0)/\β (bK (i+1+j))=k:=fun j t hj=>by
    have:=hat (j+1) t (by simpa using hj);rw[show i+1+j=i+(j+1) by omega];simpa using this
   cases p with
   |d t=>exact ih (i+1) b vs (aFV hb) hin hl' hat'
   |p t=>
    obtain⟨c,g,hc,hg,rfl⟩:=aFU hb;simp only[aH7,Bool.and_eq_true]at hin;obtain⟨h1,h2⟩:=hin;obtain⟨sv,hsv⟩:=Option.isSome_iff_exists.1 h1;obtain⟨q1,_,_⟩:=h.yes (bK i) sv (jE hsv) cH;obtain⟨_,cells,z1,z2,z3⟩:=bS hc q1;obtain⟨k,hk1,hk2⟩:=hat 0 t rfl;simp only[List.getElem?_cons_zero,Option.some.injEq]at hk1;rw[Nat.add_zero]at hk2;rw[hk2]at z1;refine⟨⟨k,cells,by rw[hk1];rfl,z1,by show bP t (dT t (bD r) (aP t (bD r) _ _)) cells;rw[cM];exact z2,z3⟩,?_⟩;show aEw σ.bx r (eA t (bD r) (aP t (bD r) _ (g e))) vs;rw[cF];exact ih (i+1) g vs hg h2 hl' hat'
theorem sX{bx bx':BX}:∀{ps:List PK} {x:(Ty.row (bD ps)).den} {vs:List V},aEw bx ps x vs->(∀(i:Nat) cells,bx[i]?=some cells->i∈gN ps vs->bx'[i]?=some cells)->aEw bx' ps x vs
 |[],_,_,_,_=>trivial
 |.d _::r,x,vs,h,hb=>sX (ps:=r) (x:=x) (vs:=vs.tail) h fun i cells hi hm=>hb i cells hi (by cases vs with
  |nil=>cases r with
   |nil=>cases hm
   |cons p r=>cases p<;>cases hm
  |cons v vs=>exact hm)
 |.p t::r,x,[],⟨⟨_,_,h,_⟩,_⟩,_=>by cases h
 |.p t::r,x,v::vs,⟨⟨b,cells,h1,h2,h3,h4⟩,h5⟩,hb=>by
  have h1:v=.bp b 0:=by simpa using h1
  subst h1;exact⟨⟨b,cells,rfl,hb b cells h2 (List.mem_cons_self ..),h3,h4⟩,sX h5 fun i cells hi hm=>hb i cells hi (List.mem_cons_of_mem _ hm)⟩
theorem vC:∀{ts us:List Ty} {x:(Ty.row ts).den} {y:(Ty.row us).den},eR ts us (nD ts us x y)=x
 |[],_,_,_=>rfl
 |t::r,us,x,y=>by
  show aP t r (dT t (r++us) (aP t (r++us) (dT t r x) _)) (eR r us (eA t (r++us) (aP t (r++us) _ (nD r us (eA t r x) y))))=x;rw[cM,cF,vC];cases r<;>rfl
theorem aFW:∀{s:Sg} {rs:List RV} {f:TE D->(Ty.row s.vts).den},s.nb=none->aJg D s rs=some f->∃g:TE D->(Ty.row (s.rs.map Prod.fst)).den,aE0 D (s.rs.map Prod.fst) rs=some g/\∀e vs,iQ (s.rs.map Prod.fst) (g e) vs->iQ s.vts (f e) vs
 |⟨_,_,some _⟩,_,_,hn,_=>by cases hn
 |⟨_,_,none⟩,_,f,_,h=>⟨f,h,fun _ _ h=>h⟩
theorem aFX:∀{s:Sg} {rs:List RV} {f:TE D->(Ty.row s.vts).den} {t:Ty},s.nb=some t->aJg D s rs=some f->∃tt b c,rs=[.tmp tt]/\D tt=.ptr b 0/\SY.get (D b) (.box t)=some c/\∀e cells,bP t (c (e b)) cells->bP (Ty.row s.vts) (f e) cells
 |⟨_,_,none⟩,_,_,_,hn,_=>by cases hn
 |⟨_,_,some t⟩,rs,f,t',hn,h=>by
  have hn:t=t':=by simpa using hn
  subst hn;have h:aJf D t rs=some f:=h;unfold aJf at h;split at h
  .skip
   split at h
   .rename_i b hD;obtain⟨c,hc,rfl⟩:=Option.map_eq_some_iff.1 h;exact⟨_,b,c,rfl,hD,hc,fun e cells h=>h⟩
   .cases h
  .cases h
theorem aGa(hcf:∀f,aF7 vsg cfv f (cf f)){f N:Nat}{fi:FI}{vf:VF}{cfv':cO}(hv:vsg f=⟨vf.cons,vf.quiet⟩)(hck:aH8 sg vsg (sg f) fi vf=true)
  (hcall:∀vs bx,cfv' f vs bx=aF8 vf bx.length (exec cfv vsg N vf.code (start vf vs bx))):aF7 vsg cfv' f (aE1 (eG N) cf (sg f) fi vf):=by
 intro x r hx vs bx hA hnd hnb;rw[hv]at hA;have hvc:(vsg f).cons=vf.cons:=by rw[hv]
 simp only[aH8]at hck;split at hck
 case h_2=>cases hck
 rename_i n xs hchk;simp only[Bool.and_eq_true,List.all_eq_true,decide_eq_true_eq,List.mem_range,List.contains_iff_mem]at hck;obtain⟨⟨⟨⟨⟨c1,c2⟩,c3⟩,c4⟩,c5⟩,c6⟩:=hck;have hcn:∀j,j<64->vf.cons.contains j=true->aE5 (sg f).ps[j]?=true:=fun j hj hc=>by
  have:=c6 j hj;rw[hc]at this;simpa using this
 unfold aE1 at hx;split at hx
 case h_2=>cases hx
 rename_i p rr bb hp hrr hbb;have hst:=aFS hp hA c5 hcn c2 c4 hnd hnb;have hkeys:(start vf vs bx).env.map (·.1)=vf.kept:=by
  show(qI vf vs).map (·.1)=vf.kept;unfold qI;rw[List.map_map];exact(List.map_congr_left (fun _ _=>rfl)).trans (List.map_id _)
 have hlen:=qG hA;obtain⟨ex,e',β',τ,k1,k2,k3,Λ',k4,k5⟩:=cY hcf c4 vf.code fi.hs _ hst hkeys hchk hx;have fin:aGK (aD9 fi.D) (sg f) vf.res Λ'=true/\nD (sg f).vts (bD (sg f).ps) (rr e') (bb e')=r/\(ex=.nrm\/ex=.ret):=by
  cases ex with
  |nrm=>
   obtain⟨k5,k6⟩:=k5;subst k5;exact⟨c1,Option.some.inj k6,.inl rfl⟩
  |exit id=>cases k5.2
  |ret=>exact⟨k5.1,Option.some.inj k5.2,.inr rfl⟩
 obtain⟨hres,rfl,hex⟩:=fin;rw[oY,vC,hvc]
 have hend : cfv' f vs bx = match dB (get τ.env) vf.res with
     |some vs=>some (packed (dJ τ.tips τ.lk vs),dC bx.length (dJ τ.tips τ.lk vs) τ.bx)
     |none=>none:=by
  rw[hcall,k1];rcases hex with rfl|rfl<;>rfl
 simp only[aGK,Bool.and_eq_true]at hres;obtain⟨hbin,hres⟩:=hres;have hn0:bx.length<=τ.bx.length:=k4.b3.1;have hat:∀(j:Nat) t,(sg f).ps[j]?=some (.p t)->∃k,vs[j]?=some (.bp k 0):=by
  have:∀{ps:List PK} {i:Nat} {x:(Ty.row (ps.map PK.ty)).den} {vs:List V},aAB vf.cons bx ps i x vs->∀(j:Nat) t,ps[j]?=some (.p t)->∃k,vs[j]?=some (.bp k 0):=by
   intro ps
   induction ps with
   |nil=>intro i x vs _ j t hj;cases hj
   |cons q r ih=>
    intro i x vs h j t hj;cases q with
    |d u=>
     obtain⟨w,ws,rfl,_,_,_,h2⟩:=h;cases j with
     |zero=>cases hj
     |succ j=>exact ih h2 j t hj
    |p u=>
     obtain⟨b,cells,ws,rfl,_,_,_,h2⟩:=h;cases j with
     |zero=>exact⟨b,rfl⟩
     |succ j=>exact ih h2 j t hj
  exact this hA
 have hpb:∀(j:Nat) t k,(sg f).ps[j]?=some (.p t)->vs[j]?=some (.bp k 0)->aAM vs (bK j)=k:=fun j t k _ hk=>by
  unfold aAM bK;rw[Nat.add_sub_cancel,hk]
 have hbxin:∀{Λ:LS} {ps:List PK} {i:Nat},aH7 Λ ps i=true->∀(j:Nat) t,ps[j]?=some (.p t)->(Λ.has (bK (i+j))).isSome=true:=by
  intro Λ ps
  induction ps with
  |nil=>intro i _ j t hj;cases hj
  |cons q r ih=>
   intro i h j t hj;cases q with
   |d u=>cases j with
    |zero=>cases hj
    |succ j=>
     have:=ih (i:=i+1) h j t (by simpa using hj);rw[show i+1+j=i+(j+1) by omega]at this;exact this
   |p u=>
    simp only[aH7,Bool.and_eq_true]at h;cases j with
    |zero=>exact h.1
    |succ j=>
     have:=ih (i:=i+1) h.2 j t (by simpa using hj);rw[show i+1+j=i+(j+1) by omega]at this;exact this
 have hbox:∀{ps:List PK} {i:Nat} {b:TE (aD9 fi.D)->(Ty.row (bD ps)).den},tO (aD9 fi.D) ps i=some b->∀(j:Nat) t,ps[j]?=some (.p t)->(aD9 fi.D (bK (i+j))).isBox=true:=by
  intro ps
  induction ps with
  |nil=>intro i b _ j t hj;cases hj
  |cons q r ih=>
   intro i b h j t hj;cases q with
   |d u=>cases j with
    |zero=>cases hj
    |succ j=>
     have:=ih (i:=i+1) (aFV h) j t (by simpa using hj);rw[show i+1+j=i+(j+1) by omega]at this;exact this
   |p u=>
    obtain⟨c,g,hc,hg,_⟩:=aFU h;cases j with
    |zero=>
     obtain⟨hD,_⟩:=eK hc;rw[Nat.add_zero,hD];rfl
    |succ j=>
     have:=ih (i:=i+1) hg j t (by simpa using hj);rw[show i+1+j=i+(j+1) by omega]at this;exact this
 have hβ:∀(j:Nat) t,(sg f).ps[j]?=some (.p t)->∃k,vs[j]?=some (.bp k 0)/\β' (bK (0+j))=k:=by
  intro j t hj;obtain⟨k,hk⟩:=hat j t hj;refine⟨k,hk,?_⟩;obtain⟨sv,hsv⟩:=Option.isSome_iff_exists.1 (hbxin hbin j t hj);rcases(k4.b1 _ sv (hbox hbb j t hj) (jE hsv)).2 with⟨_,_,q⟩|⟨q,_⟩
  .rw[q,Nat.zero_add];exact hpb j t k hj hk
  .exfalso;unfold bK at q;omega
 have hB0:aEw τ.bx (sg f).ps (bb e') vs:=aHo k4 (sg f).ps 0 bb vs hbb hbin hlen hβ;have hunch:∀i,i<bx.length->i∉gN (sg f).ps vs->τ.bx[i]?=bx[i]?:=fun i hi hm=>k4.b3.2 i hi fun b ⟨j,t,hj,hpj,hbj⟩ he=>by
  obtain⟨k,hk⟩:=hat j t hpj;have he:aAM vs b=i:=he;rw[hbj,hpb j t k hpj hk]at he;subst he;exact hm (xJ hpj hk)
 have hbl:∀i∈gN (sg f).ps vs,i<bx.length:=by
  have:∀{ps:List PK} {i:Nat} {x:(Ty.row (ps.map PK.ty)).den} {vs:List V},aAB vf.cons bx ps i x vs->∀k∈gN ps vs,k<bx.length:=by
   intro ps
   induction ps with
   |nil=>intro i x vs _ k hk;cases hk
   |cons q r ih=>
    intro i x vs h k hk;cases q with
    |d u=>
     obtain⟨w,ws,rfl,_,_,_,h2⟩:=h;exact ih h2 k hk
    |p u=>
     obtain⟨b,cells,ws,rfl,h1,_,_,h2⟩:=h;rcases List.mem_cons.1 hk with rfl|hk
     .exact(List.getElem?_eq_some_iff.1 h1).1
     .exact ih h2 k hk
  exact this hA
 cases hnbq:(sg f).nb with
 |none=>
  rw[hnbq]at hres;simp only at hres;split at hres
  case h_2=>cases hres
  rename_i ls hls;simp only[Bool.and_eq_true]at hres;obtain⟨⟨d1,d2⟩,d3⟩:=hres;obtain⟨g,hg1,hg2⟩:=aFW hnbq hrr;obtain⟨us,m1,m2,m3⟩:=aB6 k4 vf.res hg1 hls d3;have hclp:=aHE [] [] m2 m3 d1 d2 (fun _ h=>by cases h);rw[List.nil_append]at hclp;obtain⟨t1,_⟩:=xB (F:=aM τ.tips τ.lk (aC us)) m2;have t2:=lT 0 t1;have hRL:=aAP (cons:=vf.cons) (args:=vs) (n:=gQ (sg f).rs) (T:=τ.tips) (lk:=τ.lk) (gv:=(aIp (sg f).ps vf.cons vs bx).gv) (E:=get τ.env) (fun nm h=>h) (fun nm hn=>k3 nm hn (by simpa[start]using hn)) (all:=aC us) 0 m2 m3 hclp (by omega);have hfin:iQ (sg f).vts (rr e') (dJ τ.tips τ.lk us):=hg2 _ _ t2;obtain⟨p1,p2⟩:=tR t2;have p1:(packed (dJ τ.tips τ.lk us)).results=dJ τ.tips τ.lk us:=p1;have hkb:dC bx.length (dJ τ.tips τ.lk us) τ.bx=τ.bx.take bx.length:=by
   unfold dC;split
   .rename_i he;rw[<-he,List.take_length]
   .have:bO (dJ τ.tips τ.lk us)=true:=vB t2;rw[this,kS _ k4.nb];rfl
  have htk:∀i,i<bx.length->(τ.bx.take bx.length)[i]?=τ.bx[i]?:=fun i hi=>List.getElem?_take_of_lt hi
  have htl:(τ.bx.take bx.length).length=bx.length:=by rw[List.length_take];omega
  refine⟨_,_,by rw[hend,m1],?_,?_,?_,?_,?_,fun _=>⟨?_,?_,?_,?_⟩,fun t ht=>(by cases ht)⟩
  .rw[hkb];exact sX hB0 fun i cells hi hm=>by rw[htk i (hbl i hm)];exact hi
  .intro i hi hm;rw[hkb,htk i hi];exact hunch i hi hm
  .rw[hkb,htl];exact Nat.le_refl _
  .rw[hkb];exact kS _ k4.nb
  .rw[p1];exact⟨p2,rfl⟩
  .rw[p1];exact hfin
  .rw[p1];exact hRL
  .rw[p1];exact aG9 _ _
  .rw[hkb];exact htl
 |some t=>
  rw[hnbq]at hres;obtain⟨tt,b,c,hrs,hD,hc,hcr⟩:=aFX hnbq hrr;rw[hrs]at hres hend;simp only at hres;split at hres
  case h_2=>cases hres
  rename_i b' l hD' hrd;rw[hD]at hD';cases hD';simp only[Bool.and_eq_true,decide_eq_true_eq]at hres;obtain⟨q1,q2⟩:=hres;obtain⟨sv,hsv⟩:=Option.isSome_iff_exists.1 q1;obtain⟨_,w1,_,_⟩:=k4.ad (cs:=[]) cH (show adO (aD9 fi.D) (.tmp tt)=.ptr b 0 by simp only[adO];rw[hD]) rfl hrd 0;have w1:ev (get τ.env) (.tmp tt)=.bp (β' b) 0:=w1;obtain⟨y1,_,_⟩:=k4.yes b sv (jE hsv) cH;obtain⟨_,cells,z1,z2,z3⟩:=bS hc y1;have hbox':(aD9 fi.D b).isBox=true:=by
   obtain⟨hDb,_⟩:=eK hc;rw[hDb];rfl
  have hge:bx.length<=β' b:=by
   rcases(k4.b1 b sv hbox' (jE hsv)).2 with⟨q,_,_⟩|⟨_,q⟩
   .omega
   .exact q
  have hlt:β' b<τ.bx.length:=(List.getElem?_eq_some_iff.1 z1).1;have hrv:dB (get τ.env) [.tmp tt]=some [.bp (β' b) 0]:=by
   simp only[dB,w1];rfl
  have hfin:dJ τ.tips τ.lk [.bp (β' b) 0]=[.bp (β' b) 0]:=rfl;have hkb:dC bx.length [.bp (β' b) 0] τ.bx=τ.bx:=by
   unfold dC;rw[if_neg (by omega)];rfl
  refine⟨.bp (β' b) 0,τ.bx,by rw[hend,hrv];simp only[hfin,hkb];rfl,hB0,hunch,hn0,k4.nb,⟨?_,rfl⟩,fun h=>(by cases h),fun u hu=>⟨β' b,cells,rfl,hge,z1,hcr e' cells z2,z3⟩⟩;intro v hv;have:v=.bp (β' b) 0:=by simpa[V.results]using hv
  subst this;rfl
end
end Go.VM
namespace Go.VM
section
variable{sg:Nat->Sg}{F:Nat->Option Entry}
def aKG(sg:Nat->Sg)(vsg:Nat->Sig)(F:Nat->Option Entry)(f:Nat):NE (sg f)->Prop
 |.code fi vf=>F f=some (.code vf)/\aH8 sg vsg (sg f) fi vf=true
 |.prim p=>∀N,wZ (sg f) (vsg f).cons (call F (N+1) f) p
 |.no=>True
theorem aIr{vsg:Nat->Sig}(hv:∀f,aAW F f=vsg f){T:(f:Nat)->NE (sg f)}(hT:∀f,aKG sg vsg F f (T f)):∀N f,aF7 (aAW F) (call F N) f (nfN T N f):=by
 have hv:aAW F=vsg:=funext hv;subst hv;intro N
 induction N with
 |zero=>exact fun f x r h=>by cases h
 |succ N ih=>
  intro f;have h:=hT f;cases hf:T f with
  |no=>
   intro x r hx;simp only[nfN,hf]at hx;cases hx
  |prim p=>
   rw[hf]at h;have e:nfN T (N+1) f=p:=by
    funext x
    simp only[nfN,hf]
   rw[e];exact h N
  |code fi vf=>
   rw[hf]at h;obtain⟨h1,h2⟩:=h;have e:nfN T (N+1) f=aE1 (eG N) (nfN T N) (sg f) fi vf:=by
    funext x
    simp only[nfN,hf]
   rw[e];refine aGa (N:=N) (cfv:=call F N) ih ?_ h2 fun vs bx=>?_
   .simp only[aAW,h1]
   .simp only[call,h1]
end
def InR:(t:Ty)->t.den->Prop
 |.int k,(n:Int)=>k.min<=n/\n<=k.max
 |.str,(s:List UInt8)=>s.length<=maxLen
 |.sl t,(l:List t.den)=>l.length<=maxLen/\∀x∈l,InR t x
 |.st t,x=>InR t x
 |.pair a b,x=>InR a x.1/\InR b x.2
 |_,_=>True
def aGb:(ts:List Ty)->(Ty.row ts).den->Prop
 |[],_=>True
 |t::r,x=>InR t (dT t r x)/\aGb r (eA t r x)
def aGc(f:TypeId->Option Ty):List TypeId->Option (List Ty)
 |[]=>some []
 |t::r=>match f t,aGc f r with
  |some a,some b=>some (if 0<a.size then a::b else b)
  |_,_=>none
def tyN(P:Program):Nat->TypeId->Option Ty
 |0,_=>none
 |d+1,t=>match P.underlying t with
  |some .bool=>some .bool
  |some (.int k)=>some (.int k)
  |some .string=>some .str
  |some (.slice e)=>match tyN P d e with
   |some u=>if P.cellsOf e=u.size then some (.sl u)else none
   |none=>none
  |some (.array n e)=>(tyN P d e).map (Ty.arr n)
  |some (.struct fs)=>(aGc (tyN P d) (fs.toList.map (·.type))).map fun ts=>.st (Ty.row ts)
  |_=>none
section
variable{P:Program}
def aJw(P:Program)(t:TypeId)(ty:Ty):Prop:=∀cs,TyC P t cs->∃x:ty.den,bP ty x cs/\InR ty x/\∀c∈cs,c.bare0
theorem aGd{t:Ty}:∀{r:List Ty} {x:t.den} {y:(Ty.row r).den} {c d:List V},bP t x c->bP (Ty.row r) y d->bP (Ty.row (t::r)) (aP t r x y) (c++d)
 |[],_,_,c,d,h,h'=>by
  have h':d=[]:=h';subst h';rw[List.append_nil];exact h
 |_::_,_,_,c,d,h,h'=>⟨c,d,rfl,h,h'⟩
theorem aHp{t:Ty}:∀{r:List Ty} {x:t.den} {y:(Ty.row r).den},InR t x->InR (Ty.row r) y->InR (Ty.row (t::r)) (aP t r x y)
 |[],_,_,h,_=>h
 |_::_,_,_,h,h'=>⟨h,h'⟩
theorem aCF{f:TypeId->Option Ty}(hf:∀t ty,f t=some ty->aJw P t ty):∀{ts:List TypeId} {tys:List Ty} {css:List (List V)},aGc f ts=some tys->aIY P ts css->∃x:(Ty.row tys).den,bP (Ty.row tys) x css.flatten/\InR (Ty.row tys) x/\∀c∈css.flatten,c.bare0
 |[],_,css,h,hc=>by
  cases h;have hc:css=[]:=hc;subst hc;exact⟨(),rfl,trivial,fun c hc=>by cases hc⟩
 |t::ts,tys,css,h,hc=>by
  obtain⟨c,r,rfl,h1,h2⟩:=hc;simp only[aGc]at h;split at h
  .rename_i a b ha hb;cases h;obtain⟨x,k1,k2,k3⟩:=hf t a ha c h1;obtain⟨y,m1,m2,m3⟩:=aCF hf hb h2;have hall:∀v∈(c::r).flatten,v.bare0:=fun v hv=>by
    rw[List.flatten_cons]at hv;exact(List.mem_append.1 hv).elim (k3 v) (m3 v)
   by_cases hz:0<a.size
   .rw[if_pos hz];exact⟨aP a b x y,by rw[List.flatten_cons];exact aGd k1 m1,aHp k2 m2,hall⟩
   .rw[if_neg hz];have:c=[]:=List.eq_nil_of_length_eq_zero (by rw[aF k1];omega);subst this;exact⟨y,m1,m2,hall⟩
  .cases h
theorem xK{t:Ty}:∀{n:Nat} {css:List (List V)},css.length=n->(∀c∈css,∃x:t.den,bP t x c/\InR t x/\∀v∈c,v.bare0)->∃x:(t.rep n).den,bP (t.rep n) x css.flatten/\InR (t.rep n) x/\∀v∈css.flatten,v.bare0
 |0,[],_,_=>⟨(),rfl,trivial,fun c hc=>by cases hc⟩
 |0,_::_,h,_=>by simp at h
 |_+1,[],h,_=>by simp at h
 |1,[c],_,hc=>by
  obtain⟨x,k1,k2,k3⟩:=hc c (by simp);exact⟨x,by rw[List.flatten_cons,List.flatten_nil,List.append_nil];exact k1,k2,by simpa using k3⟩
 |1,_::_::_,h,_=>by simp at h
 |n+2,c::css,h,hc=>by
  obtain⟨x,k1,k2,k3⟩:=hc c (by simp);obtain⟨y,m1,m2,m3⟩:=xK (n:=n+1) (css:=css) (by simpa using h) fun c hm=>hc c (List.mem_cons_of_mem _ hm)
  exact⟨(x,y),⟨c,css.flatten,by rw[List.flatten_cons],k1,m1⟩,⟨k2,m2⟩,fun v hv=>by
   rw[List.flatten_cons]at hv;exact(List.mem_append.1 hv).elim (k3 v) (m3 v)⟩
theorem sY{t:Ty}:∀{css:List (List V)},(∀c∈css,∃x:t.den,bP t x c/\InR t x/\∀v∈c,v.bare0)->∃l:List t.den,l.length=css.length/\aL (bP t) l css.flatten/\(∀x∈l,InR t x)/\∀v∈css.flatten,v.bare0
 |[],_=>⟨[],rfl,rfl,fun x hx=>(by cases hx),fun v hv=>(by cases hv)⟩
 |c::css,hc=>by
  obtain⟨x,k1,k2,k3⟩:=hc c (by simp);obtain⟨l,m0,m1,m2,m3⟩:=sY (css:=css) fun c hm=>hc c (List.mem_cons_of_mem _ hm)
  refine⟨x::l,by simp[m0],⟨c,css.flatten,by rw[List.flatten_cons],k1,m1⟩,fun y hy=>?_,fun v hv=>?_⟩
  .rcases List.mem_cons.1 hy with rfl|hy
   .exact k2
   .exact m2 y hy
  .rw[List.flatten_cons]at hv;exact(List.mem_append.1 hv).elim (k3 v) (m3 v)
theorem aFY{t:Ty}{n:Nat}{css:List (List V)}(h:css.length=n)(hc:∀c∈css,∃x:t.den,bP t x c/\InR t x/\∀v∈c,v.bare0):∃x:(t.repA n).den,bP (t.repA n) x css.flatten/\InR (t.repA n) x/\∀v∈css.flatten,v.bare0:=by
 cases t with
 |int k=>
  by_cases h16:16<n
  .have e:(Ty.int k).repA n=.av k n:=if_pos h16;rw[e];obtain⟨l,m0,m1,m2,m3⟩:=sY hc;exact⟨(l:List Int),⟨Eq.trans m0 h,aBM m1⟩,trivial,m3⟩
  .have e:(Ty.int k).repA n=(Ty.int k).rep n:=if_neg h16;rw[e];exact xK h hc
 |_=>exact xK h hc
theorem aCG:∀(d:Nat) (t:TypeId) (ty:Ty),tyN P d t=some ty->aJw P t ty
 |0,_,_,h=>by cases h
 |d+1,t,ty,h=>by
  intro cs hc;have ih:=aCG d;simp only[tyN]at h;split at h
  .rename_i hu;cases h;obtain⟨b,rfl⟩:=wE hc hu;exact⟨b,rfl,trivial,fun c hc=>by rw[List.mem_singleton.1 hc];trivial⟩
  .rename_i k hu;cases h;obtain⟨n,rfl,h1,h2⟩:=aBE hc hu;exact⟨n,rfl,⟨h1,h2⟩,fun c hc=>by rw[List.mem_singleton.1 hc];trivial⟩
  .rename_i hu;cases h;obtain⟨s,rfl,h1⟩:=aBF hc hu;exact⟨s,rfl,h1,fun c hc=>by rw[List.mem_singleton.1 hc];trivial⟩
  .rename_i e hu;split at h
   .rename_i u hu2;split at h
    .rename_i hz;cases h;rcases rP hc hu with rfl|⟨css,rfl,h1,h2,h3,h4⟩
     .exact⟨([]:List u.den),.inl ⟨rfl,rfl⟩,⟨by simp,fun x hx=>by cases hx⟩,fun c hc=>by rw[List.mem_singleton.1 hc];trivial⟩
     .obtain⟨l,m0,m1,m2,m3⟩:=sY (css:=css) fun c hm=>ih e u hu2 c (h3 c hm)
      refine⟨l,.inr ⟨.none,css.flatten,by rw[hz,<-m0],m1,m3⟩,⟨by rw[m0];exact h2,m2⟩,fun c hc=>?_⟩;rw[List.mem_singleton.1 hc];rfl
    .cases h
   .cases h
  .rename_i n e hu;obtain⟨u,hu2,rfl⟩:=Option.map_eq_some_iff.1 h;obtain⟨css,rfl,h1,h2⟩:=zF hc hu;exact aFY h1 fun c hm=>ih e u hu2 c (h2 c hm)
  .rename_i fs hu;obtain⟨ts,hts,rfl⟩:=Option.map_eq_some_iff.1 h;obtain⟨css,rfl,h1⟩:=uL hc hu;exact aCF ih hts h1
  .cases h
def psB(P:Program):List TypeId->List PK->Bool
 |[],[]=>true
 |t::ts,.d ty::ps=>decide (tyN P 30 t=some ty)&&psB P ts ps
 |_,_=>false
theorem aHq{d:Nat}{t:TypeId}{ty:Ty}{v:V}(h:tyN P d t=some ty)(hv:TyV P t v):TyC P t v.cells/\v.isAgg=ty.agg:=by
 cases d with
 |zero=>cases h
 |succ d=>
  simp only[tyN]at h;unfold TyV at hv;split at h
  .rename_i hu;rw[hu]at hv;cases h;obtain⟨b,hb⟩:=wE hv hu;cases hb;exact⟨hv,rfl⟩
  .rename_i hu;rw[hu]at hv;cases h;obtain⟨b,hb,_⟩:=aBE hv hu;cases hb;exact⟨hv,rfl⟩
  .rename_i hu;rw[hu]at hv;cases h;obtain⟨b,hb,_⟩:=aBF hv hu;cases hb;exact⟨hv,rfl⟩
  .rename_i hu;rw[hu]at hv;split at h
   .split at h
    .cases h;rcases rP hv hu with hb|⟨_,hb,_⟩<;>cases hb<;>exact⟨hv,rfl⟩
    .cases h
   .cases h
  .rename_i hu;rw[hu]at hv;obtain⟨u,_,rfl⟩:=Option.map_eq_some_iff.1 h;obtain⟨cs,rfl,h1⟩:=hv;exact⟨h1,rfl⟩
  .rename_i hu;rw[hu]at hv;obtain⟨u,_,rfl⟩:=Option.map_eq_some_iff.1 h;obtain⟨cs,rfl,h1⟩:=hv;exact⟨h1,rfl⟩
  .cases h
theorem aFZ:∀{ts:List TypeId} {ps:List PK} {vs:List V} (i:Nat),psB P ts ps=true->aIX P ts vs->∃x:(Ty.row (ps.map PK.ty)).den,aGb (ps.map PK.ty) x/\(∀bx,aAB [] bx ps i x vs)/\gN ps vs=[]
 |[],[],[],_,_,_=>⟨(),trivial,fun _=>rfl,rfl⟩
 |[],[],_::_,_,_,h=>h.elim
 |[],_::_,_,_,h,_=>by cases h
 |_::_,[],_,_,h,_=>by cases h
 |_::_,.p _::_,_,_,h,_=>by cases h
 |_::_,.d _::_,[],_,_,h=>h.elim
 |t::ts,.d ty::ps,v::vs,i,h,hv=>by
  simp only[psB,Bool.and_eq_true,decide_eq_true_eq]at h;obtain⟨h1,h2⟩:=h;obtain⟨v1,v2⟩:=hv;obtain⟨k1,k2⟩:=aHq h1 v1;obtain⟨x,m1,m2,m3⟩:=aCG 30 t ty h1 _ k1;obtain⟨y,n1,n2,n3⟩:=aFZ (i+1) h2 v2;refine⟨aP ty (ps.map PK.ty) x y,⟨?_,?_⟩,fun bx=>⟨v,vs,rfl,?_,.inl m3,fun hc=>(by cases hc),?_⟩,n3⟩
  .show InR ty (dT ty (ps.map PK.ty) (aP ty (ps.map PK.ty) x y));rw[cM];exact m2
  .show aGb (ps.map PK.ty) (eA ty (ps.map PK.ty) (aP ty (ps.map PK.ty) x y));rw[cF];exact n1
  .rw[cM];exact⟨m1,k2⟩
  .rw[cF];exact n2 bx
theorem aJx{ps:List PK}{ts:List TypeId}{c:Nat->List V->BX->Option (V×BX)}{g:Nat->(Sg.a ⟨ps,[(.bool,[])],none⟩).den->Option (Sg.r ⟨ps,[(.bool,[])],none⟩).den}
  (hok:∀N,wZ ⟨ps,[(.bool,[])],none⟩ [] (c N) (g N)) (hps:psB P ts ps=true) (hlaw:∀x,aGb (ps.map PK.ty) x->∃N r,g N x=some r/\eR [.bool] (bD ps) r=true)
  (vs:List V) (h:aIX P ts vs):∃N,c N vs []=some (.bool true,[]):=by
 obtain⟨x,h1,h2,h3⟩:=aFZ 0 hps h;obtain⟨N,r,hN,hr⟩:=hlaw x h1;obtain⟨w,bx',k1,_,_,_,_,k2,k3,_⟩:=hok N x r hN vs [] (h2 []) (by rw[h3];exact List.nodup_nil) rfl;obtain⟨k4,_,_,k6⟩:=k3 rfl;have k4:iQ [.bool] (eR [.bool] (bD ps) r) w.results:=k4;rw[hr]at k4;obtain⟨v,vs',k5,k7,k8⟩:=k4;have k8:vs'=[]:=k8;subst k8;have k7:gP .bool true v:=k7;have:=nH (v:=v) (b:=true) k7;subst this;have k2:=k2.2;rw[k5]at k2;have:bx'=[]:=List.eq_nil_of_length_eq_zero k6;subst this;exact⟨N,by rw[k1,k2];rfl⟩
end
end Go.VM
namespace Go.VM
open Go.RowKit
def aJy{α β:Type}(x:α)(f:α->β):β:=f x
theorem aJl{α β:Type}(x:α)(f:α->β):aJy x f=f x:=rfl
def aKN(P:Program)(h:Hints)(kept cons:List Nat)(fn:Func):VF:=(mM P h kept cons fn).getD ⟨[],[],false,.skip,[]⟩
theorem dps{ps:List PK}{vs:List V}{bx:BX}(hp:∀p∈ps,∃u,p=.d u):gN ps vs=[]/\∀(y:(Ty.row (bD ps)).den),aEw bx ps y vs:=by
 induction ps generalizing vs with
 |nil=>exact⟨rfl,fun _=>trivial⟩
 |cons p r ih=>
  obtain⟨u,rfl⟩:=hp p (by simp);have:=ih (vs:=vs.tail) fun q hq=>hp q (List.mem_cons_of_mem _ hq)
  cases vs with
  |nil=>exact⟨by cases r<;>rfl,fun y=>this.2 y⟩
  |cons v vs=>exact⟨this.1,fun y=>this.2 y⟩
theorem aAQ:∀{ts:List Ty} {x:(Ty.row ts).den} {vs:List V},iQ ts x vs->∀v∈vs,aN v=false
 |[],_,_,h=>by cases h;intro v hv;cases hv
 |t::r,_,_,⟨v,vs',e,h1,h2⟩=>by
  subst e;intro u hu;rcases List.mem_cons.1 hu with rfl|hu
  .exact(aG h1).2.2.1
  .exact aAQ h2 u hu
theorem vD{cons:List Nat}{vs:List V}{n:Nat}:∀{rs:List (Ty×List (Nat×Bool))} {x:(Ty.row (rs.map Prod.fst)).den} {ws:List V},(∀p∈rs,p.2=[])->iQ (rs.map Prod.fst) x ws->(∀c∈ws.flatMap V.cells,c.bare0)->aB1 cons vs n rs ws
 |[],_,_,_,_,_=>trivial
 |(t,cl)::r,_,_,hp,⟨v,vs',e,h1,h2⟩,hb=>by
  subst e;refine⟨v,vs',rfl,fun i c hc=>?_,vD (fun p hp'=>hp p (List.mem_cons_of_mem _ hp')) h2 fun c hc=>hb c (by rw[List.flatMap_cons];exact List.mem_append_right _ hc)⟩;have h0:c.bare0:=hb c (by rw[List.flatMap_cons];exact List.mem_append_left _ (List.mem_of_getElem? hc));have hcl:cl=[]:=hp (t,cl) List.mem_cons_self;cases c with
  |sl l z n cs=>
   refine⟨.inl h0,fun b hbc=>?_⟩;rw[hcl]at hbc;cases hbc
  |_=>trivial
theorem aGe{ps:List PK}{rs:List (Ty×List (Nat×Bool))}{F:Nat->Option Entry}{f:Nat}{cons:List Nat}{pv:List V->Option V}(hF:F f=some (.prim cons pv)){g:(Sg.a ⟨ps,rs,none⟩).den->Option (Sg.r ⟨ps,rs,none⟩).den}
  (hd:∀p∈ps,∃u,p=.d u) (hrs:∀p∈rs,p.2=[]) (h:∀x r,g x=some r->∀vs bx,aAB [] bx ps 0 x vs->∃w,pv vs=some w/\iQ (rs.map Prod.fst) (eR (rs.map Prod.fst) (bD ps) r) w.results/\(∀c∈w.results.flatMap V.cells,c.bare0)/\w=packed w.results) (N:Nat) :
  wZ ⟨ps,rs,none⟩ [] (call F (N+1) f) g:=by
 intro x r hx vs bx hA _ hnb;obtain⟨w,h1,h2,h3,h4⟩:=h x r hx vs bx hA;refine⟨w,bx,by simp only[call,hF,h1];rfl,(dps hd).2 _,fun _ _ _=>rfl,Nat.le_refl _,hnb,⟨aAQ h2,h4⟩,fun _=>⟨h2,vD hrs h2 h3,?_,rfl⟩,fun u hu=>by cases hu⟩;intro c hc c' hc' j f f' z m cs z' m' cs' e1 e2;have:=h3 c hc;subst e1;cases this
theorem sZ:∀{l:List (List UInt8)} {rs:List V},aL (bP .str) l rs->kC rs=some l
 |[],rs,h=>by cases h;rfl
 |s::l,rs,⟨c,r,e0,h1,h2⟩=>by
  subst e0;have h1:c=[.str s]:=h1;subst h1;simp only[List.singleton_append,kC,sZ h2];rfl
end Go.VM
namespace Go.VM
theorem aJY{α R:Type}(k:α->Option R)(f:(α->Option R)->Option R):aBJ k f=f k:=Eq.trans rfl rfl
theorem aJZ{α R:Type}(s:α):(tN s:Option (α ⊕ R))=some (.inl s):=Eq.trans rfl rfl
theorem aIE{α R:Type}(r:R):(lJ (some r):Option (α ⊕ R))=some (.inr r):=Eq.trans rfl rfl
theorem aKO{α β:Type}(x:α)(f:α->β):aJy x f=f x:=Eq.trans rfl rfl
theorem aKI{α β:Type}(a:α)(f:α->Option β):(some a).bind f=f a:=Eq.trans rfl rfl
theorem aKJ{α:Type}(x y:α):(bif true then x else y)=x:=Eq.trans rfl rfl
theorem aKK{α:Type}(x y:α):(bif false then x else y)=y:=Eq.trans rfl rfl
@[simp]theorem aIF(b:Bool):(false != b)=b:=by cases b<;>rfl
@[simp]theorem aIt(b:Bool):(true != b)=!b:=by cases b<;>rfl
theorem aJz(b:Bool){α:Type}(x y:α):(bif b then x else y)=if b=true then x else y:=by cases b<;>rfl
theorem aAR{α R:Type}{body:α->Option (α ⊕ R)}(I:Nat->α->Prop)(Q:R->Prop)
  (h:∀k x,I k x->(∃y,body x=some (.inl y)/\∃k',k'<k/\I k' y)\/∃r,body x=some (.inr r)/\Q r):∀m k x,I k x->k<m->∃r,eG m body x=some r/\Q r
 |0,_,_,_,hm=>absurd hm (Nat.not_lt_zero _)
 |m+1,k,x,hI,hm=>by
  rcases h k x hI with⟨y,h1,k',h2,h3⟩|⟨r,h1,h2⟩
  .obtain⟨r,h4,h5⟩:=aAR I Q h m k' y h3 (by omega);exact⟨r,by simp only[eG,h1];exact h4,h5⟩
  .exact⟨r,by simp only[eG,h1],h2⟩
theorem aIu{α R:Type}{body:α->Option (α ⊕ R)}(s:Nat->α)(n:Nat){r:R}(h:∀k,k<n->body (s k)=some (.inl (s (k+1))))(hr:body (s n)=some (.inr r)){m:Nat}(hm:n<m):eG m body (s 0)=some r:=by
 obtain⟨q,h1,h2⟩:=aAR (body:=body) (fun k x=>k<=n/\x=s (n-k)) (fun q=>q=r) (fun k x ⟨hk,hx⟩=>by
  subst hx;by_cases h0:k=0
  .subst h0;exact .inr ⟨r,hr,rfl⟩
  .refine .inl ⟨s (n-k+1),h _ (by omega),k-1,by omega,by omega,?_⟩;rw[show n-k+1=n-(k-1) by omega]) m n (s 0) ⟨Nat.le_refl _,by rw[Nat.sub_self]⟩ hm
 rw[h1,h2]
theorem aJm{α:Type}{b:Nat}{l m:List α}(h:(l.length+m.length)*b<=140737488355328)(h2:l.length+m.length<=9223372036854775807):aH3 b l m=some (l++m):=if_pos ⟨h,h2⟩
theorem aJ0{α:Type}{l:List α}{n:Nat}(h:n<=l.length):aEV l (n:Int)=some (l.take n):=by
 unfold aEV;rw[if_pos ⟨by omega,by omega⟩];rfl
theorem aJ1{α:Type}{l:List α}{n:Nat}(h:n<=l.length):aEW l (n:Int)=some (l.drop n):=by
 unfold aEW;rw[if_pos ⟨by omega,by omega⟩];rfl
theorem aHr{α:Type}{l:List α}{n:Nat}{x:α}(h:l[n]?=some x):aEU l (n:Int)=some x:=by
 unfold aEU;rw[if_pos (by omega)];exact h
theorem aJo{α:Type}{l:List α}{n:Nat}(h:n<l.length):aEU l (n:Int)=some l[n]:=aHr (List.getElem?_eq_getElem h)
end Go.VM
namespace Go.VM
def OLe{α:Type}(a b:Option α):Prop:=∀r,a=some r->b=some r
theorem OLe.refl{α:Type}(a:Option α):OLe a a:=fun _ h=>h
theorem OLe.bind{α β:Type}{a b:Option α}{f g:α->Option β}(h:OLe a b)(hf:∀x,OLe (f x) (g x)):OLe (a.bind f) (b.bind g):=by
 intro r hr;obtain⟨x,h1,h2⟩:=Option.bind_eq_some_iff.1 hr;rw[h x h1];exact hf x r h2
theorem vE{α R:Type}{f g:α->Option (α ⊕ R)}(h:∀x,OLe (f x) (g x)):∀{m n:Nat},m<=n->∀x,OLe (eG m f x) (eG n g x)
 |0,_,_,_=>fun r hr=>by cases hr
 |m+1,0,hmn,_=>absurd hmn (by omega)
 |m+1,n+1,hmn,x=>by
  intro r hr;simp only[eG]at hr ⊢;split at hr
  .rename_i s hs;rw[h x _ hs];exact vE h (by omega) s r hr
  .rename_i q hq;rw[h x _ hq];exact hr
  .cases hr
section
variable{D:Nat->SY}{sg:Nat->Sg}{cf cf':NF sg}
theorem nT{E R:Type}{o:OD E}{e:E}{g:Option Bool}{K K':E->Option R}(hK:∀e,OLe (K e) (K' e)):OLe (o.go e g K) (o.go e g K'):=by
 cases o with
 |t f=>exact hK _
 |p α z f k=>
  cases g with
  |none=>exact OLe.bind (OLe.refl _) fun a=>hK _
  |some b=>exact OLe.bind (OLe.refl _) fun a=>hK _
theorem aHF{E R:Type}{α:Type}{z:E->α}{f f':E->Option α}{k:E->α->E}{e:E}{g:Option Bool}{K K':E->Option R}(hf:∀e,OLe (f e) (f' e))(hK:∀e,OLe (K e) (K' e)):OLe ((OD.p α z f k).go e g K) ((OD.p α z f' k).go e g K'):=by
 cases g with
 |none=>exact OLe.bind (hf e) fun a=>hK _
 |some b=>
  refine OLe.bind ?_ fun a=>hK _
  cases b with
  |true=>exact hf e
  |false=>exact OLe.refl _
theorem aGh{dst:Option Nat}{op:VOp}(h:∀f xs q av,op≠.call f xs q av):dop D cf dst op=dop D cf' dst op:=by
 cases op with
 |call f xs q av=>exact absurd rfl (h f xs q av)
 |len st x=>cases st<;>cases dst<;>rfl
 |mkfn f0 a0 cap=>cases f0<;>cases a0<;>cases dst<;>rfl
 |_=>cases dst<;>rfl
theorem aGi(hcf:∀f x,OLe (cf f x) (cf' f x)){R:Type}{dst:Option Nat}{op:VOp}{e:TE D}{g:Option Bool}{K K':TE D->Option R}(hK:∀e,OLe (K e) (K' e)):OLe ((dop D cf dst op).go e g K) ((dop D cf' dst op).go e g K'):=by
 by_cases hc:∃f xs q av,op=.call f xs q av
 .obtain⟨f,xs,q,av,rfl⟩:=hc;cases dst with
  |none=>exact nT hK
  |some d=>
   show OLe ((aBI D cf d f xs).go e g K) ((aBI D cf' d f xs).go e g K');unfold aBI;split
   .split
    .split
     .exact aHF (fun e=>hcf f _) hK
     .exact nT hK
    .split
     .exact aHF (fun e=>hcf f _) hK
     .exact nT hK
   .exact nT hK
 .rw[aGh (cf:=cf) (cf':=cf') (fun f xs q av h=>hc ⟨f,xs,q,av,h⟩)];exact nT hK
theorem tA(hcf:∀f x,OLe (cf f x) (cf' f x)){R:Type}:∀(ops:List VOper) (C:CC) {K K':TE D->Option R} (_:∀e,OLe (K e) (K' e)) (e:TE D),OLe (kE D cf ops C K e) (kE D cf' ops C K' e)
 |[],_,_,_,hK,e=>hK e
 |_::r,_,_,_,hK,_=>aGi hcf fun e=>tA hcf r _ hK e
def KLe{R:Type}(K K':Kt D R):Prop:=(∀e,OLe (K.n e) (K'.n e))/\(∀i e,OLe (K.x i e) (K'.x i e))/\∀e,OLe (K.r e) (K'.r e)
theorem vF{α R:Type}{a b:Option R}(h:OLe a b):OLe (lJ a:Option (α ⊕ R)) (lJ b):=by
 intro r hr;obtain⟨q,h1,h2⟩:=Option.map_eq_some_iff.1 hr;unfold lJ;rw[h q h1];exact congrArg some h2
theorem gY(hcf:∀f x,OLe (cf f x) (cf' f x)){N N':Nat}(hN:N<=N'):∀(c:VC) {R:Type} (hs:List HN) {K K':Kt D R} (_:KLe K K') (e:TE D),OLe (den D (eG N) cf c hs K e) (den D (eG N') cf' c hs K' e)
 |.skip,R,hs,K,K',hK,e=>hK.1 e
 |.region ops,R,hs,K,K',hK,e=>tA hcf ops [] hK.1 e
 |.seq a b,R,hs,K,K',hK,e=>gY hcf hN a hs (K:={K with n:=_}) (K':={K' with n:=_}) ⟨fun e=>gY hcf hN b _ hK e,hK.2⟩ e
 |.cond c a b,R,hs,K,K',hK,e=>by
  have key:∀{K K':Kt D R} (f:TE D->Bool) (hs:List HN),KLe K K'->OLe (bif f e then den D (eG N) cf a hs K e else den D (eG N) cf b (hs.drop (hn a)) K e) (bif f e then den D (eG N') cf' a hs K' e else den D (eG N') cf' b (hs.drop (hn a)) K' e):=by
   intro K K' f hs hK;cases f e with
   |true=>exact gY hcf hN a _ hK e
   |false=>exact gY hcf hN b _ hK e
  cases hf:opB D c with
  |none=>simp only[den,hf];exact OLe.refl _
  |some f=>
   cases hs with
   |nil=>simp only[den,hf];exact OLe.refl _
   |cons h hs=>
    cases h with
    |j L=>
     simp only[den,hf,aBJ];exact key f hs ⟨fun e=>hK.1 _,hK.2⟩
    |n=>simp only[den,hf];exact key f hs hK
    |l=>simp only[den,hf];exact key f hs hK
 |.block id a,R,hs,K,K',hK,e=>by
  have key:∀{g g':TE D->Option R} (hs:List HN),(∀e,OLe (g e) (g' e))->OLe (den D (eG N) cf a hs {n:=g,x:=fun i e=>if i=id then g e else K.x i e,r:=K.r} e) (den D (eG N') cf' a hs {n:=g',x:=fun i e=>if i=id then g' e else K'.x i e,r:=K'.r} e):=by
   intro g g' hs hg;refine gY hcf hN a hs (K:={n:=g,x:=fun i e=>if i=id then g e else K.x i e,r:=K.r}) (K':={n:=g',x:=fun i e=>if i=id then g' e else K'.x i e,r:=K'.r}) ⟨hg,fun i e=>?_,hK.2.2⟩ e;by_cases hi:i=id
   .simp only[hi,if_true];exact hg e
   .simp only[hi,if_false];exact hK.2.1 i e
  cases hs with
  |nil=>simp only[den];exact OLe.refl _
  |cons h hs=>
   cases h with
   |j L=>
    simp only[den,aBJ];exact key hs fun e=>hK.1 _
   |n=>simp only[den];exact key hs hK.1
   |l=>simp only[den];exact key hs hK.1
 |.loop a,R,hs,K,K',hK,e=>by
  cases hs with
  |nil=>simp only[den];exact OLe.refl _
  |cons h hs=>
   cases h with
   |j L=>simp only[den];exact OLe.refl _
   |n=>simp only[den];exact OLe.refl _
   |l L inv=>
    simp only[den];exact vE (fun p=>gY hcf hN a hs (K:={n:=fun e=>tN (zJ L e),x:=fun i e=>lJ (K.x i e),r:=fun e=>lJ (K.r e)}) (K':={n:=fun e=>tN (zJ L e),x:=fun i e=>lJ (K'.x i e),r:=fun e=>lJ (K'.r e)}) ⟨fun e=>OLe.refl _,fun i e=>vF (hK.2.1 i e),fun e=>vF (hK.2.2 e)⟩ _) hN _
 |.exit id,R,hs,K,K',hK,e=>hK.2.1 id e
 |.scope a,R,hs,K,K',hK,e=>gY hcf hN a hs hK e
 |.ret,R,hs,K,K',hK,e=>hK.2.2 e
end
theorem aGj{sg:Nat->Sg}{T:(f:Nat)->NE (sg f)}:∀{N N':Nat},N<=N'->∀f x,OLe (nfN T N f x) (nfN T N' f x)
 |0,_,_,_,_=>fun r hr=>by cases hr
 |N+1,0,h,_,_=>absurd h (by omega)
 |N+1,N'+1,h,f,x=>by
  have hN:N<=N':=by omega
  have ih:=aGj (T:=T) hN;intro r hr;cases hT:T f with
  |no=>simp only[nfN,hT]at hr;cases hr
  |prim p=>simp only[nfN,hT]at hr ⊢;exact hr
  |code fi vf=>
   simp only[nfN,hT]at hr ⊢;unfold aE1 at hr ⊢;split at hr
   .exact gY ih hN vf.code fi.hs ⟨fun e=>OLe.refl _,fun i e=>OLe.refl _,fun e=>OLe.refl _⟩ _ r hr
   .cases hr
end Go.VM
namespace Go.VM
open Go.RowKit
def Ty.toFa:(t:Ty)->t.den->Option FA
 |.bool,(x:Bool)=>some (.b x)
 |.int k,(n:Int)=>some (.i k n)
 |.str,(l:List UInt8)=>some (.s l)
 |.sl .str,(l:List (List UInt8))=>some (.r l)
 |_,_=>none
def Ty.ofFa:(t:Ty)->FA->Option t.den
 |.bool,.b x=>some x
 |.int k,.i k' n=>if k=k' then some (n:Int)else none
 |.str,.s l=>some l
 |.err,.e _ x=>some x
 |.sl .str,.r l=>some l
 |_,_=>none
def aF1:(ps:List PK)->(Ty.row (ps.map PK.ty)).den->Option (List FA)
 |[],_=>some []
 |.d t::r,x=>(t.toFa (dT t (r.map PK.ty) x)).bind fun a=>(aF1 r (eA t (r.map PK.ty) x)).bind fun l=>some (a::l)
 |.p _::_,_=>none
def aF2:(ts us:List Ty)->List FA->Option (Ty.row (ts++us)).den
 |[],us,[]=>some (Ty.row us).dflt
 |t::r,us,y::l=>(t.ofFa y).bind fun a=>(aF2 r us l).bind fun b=>some (aP t (r++us) a b)
 |_,_,_=>none
def qF(g:List FA->Option (List FA))(s:Sg)(x:s.a.den):Option s.r.den:=(aF1 s.ps x).bind fun xs=>(g xs).bind fun ys=>aF2 s.vts (bD s.ps) ys
theorem aAS:∀{l:List (List UInt8)} {rs:List V},aL (bP .str) l rs->kC rs=some l:=sZ
theorem pL:∀(l:List (List UInt8)),aL (bP .str) l (l.map V.str)
 |[]=>rfl
 |s::l=>⟨[.str s],l.map V.str,rfl,rfl,pL l⟩
theorem aGk{t:Ty}{x:t.den}{v:V}{a:FA}(h:gP t x v)(ha:t.toFa x=some a):v.fa=some a:=by
 cases t with
 |bool=>have:=nH h;subst this;exact ha
 |int k=>have:=wV h;subst this;exact ha
 |str=>have:=nI h;subst this;exact ha
 |sl t=>
  cases t with
  |str=>
   cases ha;rcases eX h with⟨rfl,e⟩|⟨lb,rs,rfl,e,_⟩
   .subst e;rfl
   .show(kC rs).map FA.r=_;rw[aAS e];rfl
  |_=>cases ha
 |_=>cases ha
theorem aGl{t:Ty}{x:t.den}{y:FA}(h:t.ofFa y=some x):gP t x y.v/\∀c∈y.v.cells,c.bare0:=by
 cases t with
 |bool=>
  cases y with
  |b x=>cases h;exact⟨⟨rfl,rfl⟩,fun c hc=>by simp[FA.v,V.cells]at hc;subst hc;trivial⟩
  |_=>cases h
 |int k=>
  cases y with
  |i k' n=>
   unfold Ty.ofFa at h;simp only at h;split at h
   .rename_i e;subst e;cases h;exact⟨⟨rfl,rfl⟩,fun c hc=>by simp[FA.v,V.cells]at hc;subst hc;trivial⟩
   .cases h
  |_=>cases h
 |str=>
  cases y with
  |s l=>cases h;exact⟨⟨rfl,rfl⟩,fun c hc=>by simp[FA.v,V.cells]at hc;subst hc;trivial⟩
  |_=>cases h
 |err=>
  cases y with
  |e t b=>
   cases h;cases x with
   |false=>exact⟨⟨.inl ⟨rfl,rfl⟩,rfl⟩,fun c hc=>by simp[FA.v,V.cells]at hc;subst hc;trivial⟩
   |true=>exact⟨⟨.inr ⟨t,.undef,rfl,rfl,rfl⟩,rfl⟩,fun c hc=>by simp[FA.v,V.cells]at hc;subst hc;trivial⟩
  |_=>cases h
 |sl t=>
  cases t with
  |str=>
   cases y with
   |r l=>
    cases h;refine⟨⟨.inr ⟨.none,List.map V.str x,rfl,pL x,fun c hc=>?_⟩,rfl⟩,fun c hc=>by simp[FA.v,V.cells]at hc;subst hc;rfl⟩;obtain⟨s,_,rfl⟩:=List.mem_map.1 hc;trivial
   |_=>cases h
  |_=>cases y<;>cases h
 |_=>cases y<;>cases h
theorem aAT{cons:List Nat}{bx:BX}:∀{ps:List PK} {i:Nat} {x:(Ty.row (ps.map PK.ty)).den} {vs:List V} {xs:List FA},aF1 ps x=some xs->aAB cons bx ps i x vs->aCp vs=some xs
 |[],_,_,_,_,h,hA=>by cases h;cases hA;rfl
 |.p _::_,_,_,_,_,h,_=>by cases h
 |.d t::r,i,x,_,_,h,⟨v,vs',e,h1,_,_,h2⟩=>by
  subst e;unfold aF1 at h;obtain⟨a,k1,h⟩:=Option.bind_eq_some_iff.1 h;obtain⟨l,k2,h⟩:=Option.bind_eq_some_iff.1 h;cases h;simp only[aCp,aGk h1 k1,aAT k2 h2]
theorem aAU:∀{ts us:List Ty} {ys:List FA} {r:(Ty.row (ts++us)).den},aF2 ts us ys=some r->iQ ts (eR ts us r) (ys.map FA.v)/\∀c∈(ys.map FA.v).flatMap V.cells,c.bare0
 |[],us,[],_,_=>⟨rfl,fun c hc=>by cases hc⟩
 |[],us,_::_,_,h=>by cases h
 |_::_,us,[],_,h=>by cases h
 |t::r,us,y::l,z,h=>by
  unfold aF2 at h;obtain⟨a,k1,h⟩:=Option.bind_eq_some_iff.1 h;obtain⟨b,k2,h⟩:=Option.bind_eq_some_iff.1 h;cases h;obtain⟨q1,q2⟩:=aGl k1;obtain⟨q3,q4⟩:=aAU k2;refine⟨⟨y.v,l.map FA.v,rfl,?_,?_⟩,fun c hc=>?_⟩
  .show gP t (dT t r (aP t r (dT t (r++us) (aP t (r++us) a b)) _)) y.v;rw[cM,cM];exact q1
  .show iQ r (eA t r (aP t r (dT t (r++us) (aP t (r++us) a b)) (eR r us (eA t (r++us) (aP t (r++us) a b))))) (l.map FA.v);rw[cF,cF];exact q3
  .rw[List.map_cons,List.flatMap_cons]at hc;rcases List.mem_append.1 hc with hc|hc
   .exact q2 c hc
   .exact q4 c hc
theorem aKL{s:Sg}{F:Nat->Option Entry}{f:Nat}{cons:List Nat}{g:List FA->Option (List FA)}(hF:F f=some (.prim cons (pF g)))(hnb:s.nb=none)(hd:∀p∈s.ps,∃u,p=.d u)(hrs:∀p∈s.rs,p.2=[])(N:Nat) :
  wZ s [] (call F (N+1) f) (qF g s):=by
 obtain⟨ps,rs,nb⟩:=s;cases hnb;refine aGe (ps:=ps) (rs:=rs) hF hd hrs (fun x r hx vs bx hA=>?_) N;unfold qF at hx;obtain⟨xs,k1,hx⟩:=Option.bind_eq_some_iff.1 hx;obtain⟨ys,k2,hx⟩:=Option.bind_eq_some_iff.1 hx;have h1:=aAT k1 hA;obtain⟨h2,h3⟩:=aAU hx;refine⟨packed (ys.map FA.v),?_,?_,?_,?_⟩
 .unfold pF;simp only[h1,k2,Option.map_some]
 .rw[iI];exact h2
 .rw[iI];exact h3
 .rw[iI]
end Go.VM
namespace Go.VM
def aKC:List PK->Bool
 |[]=>true
 |.d _::r=>aKC r
 |_=>false
theorem aKP{ps:List PK}(h:aKC ps=true):∀p∈ps,∃u,p=.d u:=by
 induction ps with
 |nil=>intro p hp;cases hp
 |cons q r ih=>
  cases q with
  |d u=>
   intro p hp;rcases List.mem_cons.1 hp with rfl|hp
   .exact⟨u,rfl⟩
   .exact ih h p hp
  |p u=>cases h
theorem rsE{rs:List (Ty×List (Nat×Bool))}(h:(rs.all fun p=>p.2.isEmpty)=true):∀p∈rs,p.2=[]:=fun p hp=>by
 have:=List.all_eq_true.1 h p hp;exact List.isEmpty_iff.1 this
end Go.VM
