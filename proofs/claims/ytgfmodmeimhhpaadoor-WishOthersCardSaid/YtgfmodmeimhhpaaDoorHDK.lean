/- The deck's functions, as the walks by hand call them. -/
import Derived.Test.YtgfmodmeimhhpaaDoorGB
import Derived.Test.YtgfmodmeimhhpaaDoorZO
import Derived.Test.YtgfmodmeimhhpaaDoorH4
import Derived.KernelRfl
namespace Go.VM
theorem ints_uniq:∀{l:List Int} {rs rs':List V},aL (bP (.int .i64)) l rs->aL (bP (.int .i64)) l rs'->rs=rs'
 |[],_,_,h,k=>by cases h;cases k;rfl|a::l,_,_,⟨c,r,e,h1,h2⟩,⟨c',r',e',k1,k2⟩=>by have h1:c=[.int .i64 a]:=h1;have k1:c'=[.int .i64 a]:=k1;rw[e,e',h1,k1,ints_uniq h2 k2]
theorem dk_same{l:List Int}{V0 V1:V}(h:bP (.sl (.int .i64)) l [V0])(k:bP (.sl (.int .i64)) l [V1])(hl:l≠[])(b0:V0.bare0)(b1:V1.bare0):V0=V1:=by rcases h with⟨_,e⟩|⟨lb,rs,e,h1,_⟩;exact absurd e hl;rcases k with⟨_,e'⟩|⟨lb',rs',e',k1,_⟩;exact absurd e' hl;cases e;cases e';have b0:lb=.none:=b0;have b1:lb'=.none:=b1;rw[b0,b1,ints_uniq h1 k1]
theorem dk_nil{V0:V}(h:bP (.sl (.int .i64)) ([]:List Int) [V0])(b0:V0.bare0):V0=.nils\/V0=.sl .none 1 0 []:=by rcases h with⟨e,_⟩|⟨lb,rs,e,h1,_⟩;cases e;exact .inl rfl;cases e;have b0:lb=.none:=b0;have h1:rs=[]:=h1;subst b0;subst h1;exact .inr rfl
theorem DK_nil{a:Int}(h:0<=a/\a<=(([]:List Int).length:Int)):a=0:=by have:=h.2;simp only[List.length_nil]at this;have:=h.1;omega
theorem deck_word{F:Nat->Option Entry}{n f:Nat}{ps:List PK}{t:Ty}{cl:List (Nat×Bool)}{g:(Sg.a ⟨.p tyDk::ps,[(t,cl)],none⟩).den->Option (Sg.r ⟨.p tyDk::ps,[(t,cl)],none⟩).den}(hty:wZ ⟨.p tyDk::ps,[(t,cl)],none⟩ [] (call F n f) g)
  (hd:∀p∈ps,∃u,p=.d u) {x:(Sg.a ⟨.p tyDk::ps,[(t,cl)],none⟩).den} {r:(Sg.r ⟨.p tyDk::ps,[(t,cl)],none⟩).den} (hx:g x=some r) {V0:V} {vs1:List V} {l:List Int} {a a':Int} (hA:aAB [] [[V0,.int .i64 a]] (.p tyDk::ps) 0 x (.bp 0 0::vs1))
  (h0:bP (.sl (.int .i64)) l [V0]) (hl:l≠[]) (b0:V0.bare0) (hr:rowHd tyDk (bD ps) (pI [t] (bD (.p tyDk::ps)) r)=(l,a')) :
  ∃v0,call F n f (.bp 0 0::vs1) [[V0,.int .i64 a]]=some (v0,[[V0,.int .i64 a']])/\gP t (eR [t] (bD (.p tyDk::ps)) r) v0/\∀i c,v0.cells[i]?=some c->aHg [] (.bp 0 0::vs1) t.size cl i c:=by
 have hbp:gN (.p tyDk::ps) (.bp 0 0::vs1)=[0]:=by show 0::gN ps vs1=[0];rw[(dps (bx:=[]) hd).1]
 have hnb:bX [[V0,.int .i64 a]]=true:=by
  have:=aHB (t:=.sl (.int .i64)) (x:=l) (v:=V0) (by rcases h0 with⟨e,h⟩|⟨lb,rs,e,h⟩;cases e;exact⟨.inl ⟨rfl,h⟩,rfl⟩;cases e;exact⟨.inr ⟨lb,rs,rfl,h⟩,rfl⟩)
  simp only[bX,bO,Bool.and_true];exact Bool.and_eq_true_iff.2 ⟨this,rfl⟩
 obtain⟨v,bx',q1,q2,_,_,_,⟨_,q3⟩,q4,_⟩:=hty x r hx _ _ hA (by rw[hbp];simp) hnb;obtain⟨q5,q6,_,q7⟩:=q4 rfl;obtain⟨⟨b,cells,e1,e2,e3,e4⟩,_⟩:=q2;cases e1;have hbx:bx'=[cells]:=by
  match bx',q7,e2 with
  |[c],_,e2=>simp at e2;rw[e2]
 subst hbx;have e3:bP tyDk (rowHd tyDk (bD ps) (pI [t] (bD (.p tyDk::ps)) r)) cells:=e3;rw[hr]at e3;obtain⟨V1,rfl,h1⟩:=dk_words e3;have:V1=V0:=dk_same h1 h0 hl (e4 _ (by simp)) b0;subst this;obtain⟨v0,us,e5,k1,k2⟩:=q5;have k2:us=[]:=k2;subst k2;have hv:v=v0:=by rw[q3,e5];rfl
 subst hv;rw[e5]at q6;obtain⟨v',rs',e6,k3,_⟩:=q6;cases e6;exact⟨v,q1,k1,fun i c hc=>by simpa[gQ]using k3 i c hc⟩
end Go.VM
namespace Go.Proofs.YtgfmodmeimhhpaaDoor
open Go.RowKit Go.Lib Go.VM
theorem tNext:wZ ⟨[.p tyDk,.d (.int .i64)],[(.int .i64,[])],none⟩ [] (call Z.FT 60 13) (Z.n13 60):=by have h:=Z.typed 60 13;unfold aF7 at h;rw[Z.sigOk 13]at h;exact h
theorem tComm:wZ ⟨[.p tyDk],[(.sl tyCm,[(0,true)])],none⟩ [] (call Z.FT 60 32) (Z.n32 60):=by have h:=Z.typed 60 32;unfold aF7 at h;rw[Z.sigOk 32]at h;exact h
theorem tLarge:wZ ⟨[.p tyDk],[(.sl tyLg,[(0,true)])],none⟩ [] (call Z.FT 60 33) (Z.n33 60):=by have h:=Z.typed 60 33;unfold aF7 at h;rw[Z.sigOk 33]at h;exact h
theorem next_nil(b:Int):call Z.FT 60 13 [.bp 0 0,.int .i64 b] [[.nils,.int .i64 0]]=some (.int .i64 0,[[.nils,.int .i64 0]])/\call Z.FT 60 13 [.bp 0 0,.int .i64 b] [[.sl .none 1 0 [],.int .i64 0]]=some (.int .i64 0,[[.sl .none 1 0 [],.int .i64 0]]):=⟨by kernel_rfl,by kernel_rfl⟩
theorem comm_nil:call Z.FT 60 32 [.bp 0 0] [[.nils,.int .i64 0]]=some (.nils,[[.nils,.int .i64 0]])/\call Z.FT 60 32 [.bp 0 0] [[.sl .none 1 0 [],.int .i64 0]]=some (.nils,[[.sl .none 1 0 [],.int .i64 0]]):=⟨by kernel_rfl,by kernel_rfl⟩
theorem large_nil:call Z.FT 60 33 [.bp 0 0] [[.nils,.int .i64 0]]=some (.nils,[[.nils,.int .i64 0]])/\call Z.FT 60 33 [.bp 0 0] [[.sl .none 1 0 [],.int .i64 0]]=some (.nils,[[.sl .none 1 0 [],.int .i64 0]]):=⟨by kernel_rfl,by kernel_rfl⟩
structure DkV(l:List Int)(V0:V):Prop where
 rel:bP (.sl (.int .i64)) l [V0]
 bare:V0.bare0
theorem DkV.names{l:List Int}{V0:V}(h:DkV l V0):aC [V0]=[]:=by obtain⟨h,b⟩:=h;rcases h with⟨e,_⟩|⟨lb,rs,e,h1,_⟩;cases e;rfl;cases e;have b:lb=.none:=b;subst b;rfl
theorem DkV.dk{l:List Int}{V0:V}(h:DkV l V0)(a:Int):bP tyDk (l,a) [V0,.int .i64 a]/\∀c∈[V0,V.int .i64 a],c.bare0:=
 ⟨⟨[V0],[.int .i64 a],rfl,h.rel,rfl⟩,fun c hc=>by simp only[List.mem_cons,List.not_mem_nil,or_false]at hc;rcases hc with rfl|rfl;exact h.bare;trivial⟩
theorem next_word{d:Dk}(hd:DK d){V0:V}(h:DkV d.1 V0){b:Int}(hb:0<b)(hb2:b<=9223372036854775807):call Z.FT 60 13 [.bp 0 0,.int .i64 b] [[V0,.int .i64 d.2]]=some (.int .i64 (nx d b).1,[[V0,.int .i64 (nx d b).2.2]]):=by
 obtain⟨l,a⟩:=d;by_cases hl:l=[];subst hl;have h0:=DK_nil ⟨hd.1,hd.2.1⟩;simp only at h0;subst h0;have e:nx (([]:List Int),0) b=(0,[],0):=rfl;rw[e];rcases dk_nil h.rel h.bare with rfl|rfl;exact(next_nil b).1;exact(next_nil b).2
 · obtain ⟨v0, k1, k2, _⟩ := deck_word (a' := (nx (l, a) b).2.2) tNext (fun p hp => ⟨_, List.mem_singleton.1 hp⟩) (x := ((l, a), b)) (Z.next_eq 58 hd hb hb2) (vs1 := [.int .i64 b]) ⟨0, _, _, rfl, rfl, (h.dk a).1, (h.dk a).2, _, _, rfl, ⟨rfl, rfl⟩, .inl fun c hc => by rw [List.mem_singleton.1 hc]; trivial, fun h => by simp at h, rfl⟩ h.rel hl h.bare (by
     show(nx (l,a) b).2=_;exact Prod.ext (nx_list _ _) rfl)
   have:=wV (k:=.i64) k2;rw[this]at k1;exact k1
noncomputable def commD(d:Dk):List (Int×Int)×Dk:=(Z.n32 60 d).getD ([],d)
noncomputable def largeD(d:Dk):List (Int×Int×Int)×Dk:=(Z.n33 60 d).getD ([],d)
theorem comm_eq{d:Dk}(hd:DK d):Z.n32 60 d=some (commD d)/\(commD d).1.Sublist Z.allC/\(commD d).2.1=d.1/\DK (commD d).2:=by
 obtain⟨r,h,k⟩:=Z.comm_ok 57 (by decide) hd;have e:commD d=r:=by unfold commD;rw[h];rfl
 rw[e];exact⟨h,k⟩
theorem large_eq{d:Dk}(hd:DK d):Z.n33 60 d=some (largeD d)/\(largeD d).1.Sublist Z.allL/\(largeD d).2.1=d.1/\DK (largeD d).2:=by
 obtain⟨r,h,k⟩:=Z.large_ok 57 (by decide) hd;have e:largeD d=r:=by unfold largeD;rw[h];rfl
 rw[e];exact⟨h,k⟩
theorem resV_sl{t:Ty}{x:(Ty.sl t).den}{v:V}{vs:List V}{n:Nat}{cl:List (Nat×Bool)}(h:gP (.sl t) x v)(hr:∀i c,v.cells[i]?=some c->aHg [] vs n cl i c)(hn:n<=64):resV v:=by
 have:=h.1;cases v with
 |sl l z m ws=>
  have k:=(hr 0 _ rfl).1;rcases k with rfl|⟨j,f,rfl,hj⟩|⟨_,_,_,_,_,_,hc,_⟩;trivial;show j<64;omega;simp at hc
 |nils=>trivial|_=>rcases eX h with⟨e,_⟩|⟨_,_,e,_⟩<;>cases e
theorem comm_word{d:Dk}(hd:DK d){V0:V}(h:DkV d.1 V0):∃v0,call Z.FT 60 32 [.bp 0 0] [[V0,.int .i64 d.2]]=some (v0,[[V0,.int .i64 (commD d).2.2]])/\gP (.sl tyCm) (commD d).1 v0/\resV v0:=by
 obtain⟨l,a⟩:=d;obtain⟨c1,c2,c3,c4⟩:=comm_eq hd;by_cases hl:l=[];subst hl;have h0:=DK_nil ⟨hd.1,hd.2.1⟩;simp only at h0;subst h0;have e:commD (([]:List Int),0)=([],[],0):=by kernel_rfl
 rw[e];rcases dk_nil h.rel h.bare with rfl|rfl;exact⟨_,comm_nil.1,⟨.inl ⟨rfl,rfl⟩,rfl⟩,trivial⟩;exact⟨_,comm_nil.2,⟨.inl ⟨rfl,rfl⟩,rfl⟩,trivial⟩;generalize commD (l,a)=r at c1 c2 c3 c4 ⊢;obtain⟨v0,k1,k2,k3⟩:=deck_word (a':=r.2.2) tComm (fun p hp=>by cases hp) (x:=(l,a)) c1 (vs1:=[]) ⟨0,_,_,rfl,rfl,(h.dk a).1,(h.dk a).2,rfl⟩ h.rel hl h.bare (by show r.2=_;exact Prod.ext c3 rfl)
 exact⟨v0,k1,k2,resV_sl k2 k3 (by decide)⟩
theorem large_word{d:Dk}(hd:DK d){V0:V}(h:DkV d.1 V0):∃v0,call Z.FT 60 33 [.bp 0 0] [[V0,.int .i64 d.2]]=some (v0,[[V0,.int .i64 (largeD d).2.2]])/\gP (.sl tyLg) (largeD d).1 v0/\resV v0:=by
 obtain⟨l,a⟩:=d;obtain⟨c1,c2,c3,c4⟩:=large_eq hd;by_cases hl:l=[];subst hl;have h0:=DK_nil ⟨hd.1,hd.2.1⟩;simp only at h0;subst h0;have e:largeD (([]:List Int),0)=([],[],0):=by kernel_rfl
 rw[e];rcases dk_nil h.rel h.bare with rfl|rfl;exact⟨_,large_nil.1,⟨.inl ⟨rfl,rfl⟩,rfl⟩,trivial⟩;exact⟨_,large_nil.2,⟨.inl ⟨rfl,rfl⟩,rfl⟩,trivial⟩;generalize largeD (l,a)=r at c1 c2 c3 c4 ⊢;obtain⟨v0,k1,k2,k3⟩:=deck_word (a':=r.2.2) tLarge (fun p hp=>by cases hp) (x:=(l,a)) c1 (vs1:=[]) ⟨0,_,_,rfl,rfl,(h.dk a).1,(h.dk a).2,rfl⟩ h.rel hl h.bare (by show r.2=_;exact Prod.ext c3 rfl)
 exact⟨v0,k1,k2,resV_sl k2 k3 (by decide)⟩
end Go.Proofs.YtgfmodmeimhhpaaDoor
