/- Chapter 26, plainly: what a route of a deck becomes; the law WishOthers. -/
import Derived.Test.YtgfmodmeimhhpaaDoorJF
import Derived.Test.YtgfmodmeimhhpaaDoorHZ0
import Derived.KernelRfl
open Bool(and_eq_true)
namespace Go.Proofs.YtgfmodmeimhhpaaDoor
open Go.VM
set_option maxRecDepth 100000
theorem DK0{l:List Int}(h:l.length<=9223372036854775807):DK (l,0):=⟨Int.le_refl _,by show(0:Int)<=l.length;omega,h⟩
theorem awakeK:n5 60 ()=some true:=by kernel_rfl
theorem awake'{N:Nat}(h:60<=N):n5 N ()=some true:=aGj (T:=TN) h 5 () true awakeK
theorem fz39:∀N,n39 N=Z.n39 N
 |0=>rfl|N+1=>funext fun a=>by rw[e39,Z.e39]
theorem fz38(N:Nat)(p:List Seg):n38 (N+1) p=Z.n38 (N+1) p:=by rw[e38,Z.e38,fz39]
theorem fz78:∀N,n78 N=Z.n78 N
 |0=>rfl|N+1=>funext fun a=>by rw[e78,Z.e78]
theorem fz79:∀N,n79 N=Z.n79 N
 |0=>rfl|N+1=>funext fun a=>by rw[e79,Z.e79]
theorem fz80:∀N,n80 N=Z.n80 N
 |0=>rfl|N+1=>funext fun a=>by rw[e80,Z.e80]
theorem fz81:∀N,n81 N=Z.n81 N
 |0=>rfl|N+1=>funext fun a=>by rw[e81,Z.e81]
theorem clone52{N:Nat}{a:Attrs}(hN:100010<=N)(ha:AtB a):n52 (N+1) a=some a:=by refine Eq.trans ?_ (Z.clone_ok (smA_iff.1 ha.sm) hN);rw[e52,Z.e52,fz78,fz79,fz80,fz81]
theorem valid38{N:Nat}(hN:100002<N){p:List Seg}(hp:p.length<=1000)(hs:∀s∈p,s.2.length<=2000):n38 (N+1) p=some (pvd p):=by obtain⟨M,rfl⟩:∃M,N=M+1:=⟨N-1,by omega⟩;rw[fz38];exact Z.valid_p M (by omega) hp fun s h=>Nat.le_trans (hs s h) (by decide)
theorem mod9(N:Nat){a b:Int}(hb:0<b)(hb2:b<=9223372036854775807):n9 (N+1) (a,b)=some (a%b):=by refine Eq.trans ?_ (Z.mod_eq N hb hb2);rw[e9,Z.e9]
def isT(x:Option Bool):Bool:=match x with
 |some b=>b|none=>false
theorem isT_eq{x:Option Bool}(h:isT x=true):x=some true:=by
 cases x with|none=>cases h|some b=>rw[show b=true from h]
def isL(x:Option Int):Bool:=match x with
 |some n=>decide (n=-1)|none=>false
theorem isL_eq{x:Option Int}(h:isL x=true):x=some (-1):=by
 cases x with|none=>cases h|some b=>rw[show b=-1 from of_decide_eq_true h]
def pairsB{α:Type}(R:α->α->Bool):List α->Bool
 |[]=>true|a::l=>l.all (R a)&&pairsB R l
theorem pairsB_pw{α:Type}{R:α->α->Bool}:∀{l:List α},pairsB R l=true->l.Pairwise fun x y=>R x y=true
 |[],_=>.nil|a::l,h=>by rw[pairsB,and_eq_true]at h;exact .cons (List.all_eq_true.1 h.1) (pairsB_pw h.2)
theorem commK:(Z.allC.all (fun c=>isT (n62 20 c))&&pairsB (fun x y=>isL (n63 20 (x,y))) Z.allC)=true:=by kernel_rfl
theorem largeK:(Z.allL.all (fun c=>isT (n65 20 c))&&pairsB (fun x y=>isL (n66 20 (x,y))) Z.allL)=true:=by kernel_rfl
theorem comm40{N:Nat}(hN:40<=N){l:List (Int×Int)}(h:l.Sublist Z.allC):n40 N l=some true:=by
 obtain⟨k1,k2⟩:=Bool.and_eq_true_iff.1 commK;have e1:∀{M:Nat},20<=M->∀c∈l,n62 M c=some true:=fun hM c hc=>aGj (T:=TN) hM 62 c true (isT_eq (List.all_eq_true.1 k1 c (h.subset hc)))
 have e2:∀{M:Nat},20<=M->∀i (hi:i+1<l.length),n63 M (l[i],l[i+1])=some (-1):=fun hM i hi=>aGj (T:=TN) hM 63 _ (-1:Int) (isL_eq (List.pairwise_iff_getElem.1 ((pairsB_pw k2).sublist h) i (i+1) (by omega) hi (by omega)))
 have hl:l.length<=8:=h.length_le;obtain⟨M,rfl⟩:∃M,N=M+2:=⟨N-2,by omega⟩;refine ok_get ?_;rw[e40];refine ok_bind' (P:=fun b=>b=true) ?_ fun b h=>ok_some h
 rw[e61];refine ok_join (fun q=>q=l) (fun q e=>ok_let (ok_some ?_)) fun g hg=>?_
 subst e;exact decide_eq_true (by show(q.length:Int)<=64;omega);refine ok_loop (fun i q=>q=(l,l,(l.length:Int),(i:Int))/\i<=l.length) l.length (fun i q ⟨e,hi⟩=>?_) ⟨rfl,Nat.zero_le _⟩ (by omega);subst e;refine ok_let (ok_if (fun hc=>?_) fun hc=>ok_leave (hg _ rfl));have hlt:i<l.length:=lt_of hc;refine ok_bind (aJo hlt) (ok_bind (e1 (by omega) _ (List.getElem_mem hlt)) (ok_let (ok_let ?_)));have hw:IntKind.i64.wrap ((i:Int)-1)=(i:Int)-1:=wv _ rfl (by omega) (by omega);have key:∃v w,(bif (decide ((i:Int)>0)&&(!(!true)))then aEU l (IntKind.i64.wrap ((i:Int)-1))else some ((0:Int),(0:Int)))=some v/\(bif (decide ((i:Int)>0)&&(!(!true)))then n63 M (v,l[i])else some (0:Int))=some w/\(bif decide ((i:Int)>0)then decide (w>=(0:Int))else false)=false:=by
  cases i with|zero=>exact⟨(0,0),0,rfl,rfl,rfl⟩|succ i=>have hd:decide (((i+1:Nat):Int)>0)=true:=decide_eq_true (by omega);refine⟨l[i],-1,?_,?_,?_⟩;rw[hd,hw,show(((i+1:Nat):Int)-1)=(i:Int) by omega];exact aJo (by omega);rw[hd];exact e2 (by omega) i hlt;rw[hd];rfl
 obtain⟨v,w,h1,h2,h3⟩:=key;refine ok_bind h1 (ok_bind h2 (ok_letE h3 (ok_letE (w:=false) rfl (ok_if (fun h=>by cases h) fun _=>ok_letE (w:=((i+1:Nat):Int)) (wv _ rfl (by omega) (by omega)) (ok_again hlt ⟨rfl,hlt⟩)))))
theorem large41{N:Nat}(hN:40<=N){l:List (Int×Int×Int)}(h:l.Sublist Z.allL):n41 N l=some true:=by
 obtain⟨k1,k2⟩:=Bool.and_eq_true_iff.1 largeK;have e1:∀{M:Nat},20<=M->∀c∈l,n65 M c=some true:=fun hM c hc=>aGj (T:=TN) hM 65 c true (isT_eq (List.all_eq_true.1 k1 c (h.subset hc)))
 have e2:∀{M:Nat},20<=M->∀i (hi:i+1<l.length),n66 M (l[i],l[i+1])=some (-1):=fun hM i hi=>aGj (T:=TN) hM 66 _ (-1:Int) (isL_eq (List.pairwise_iff_getElem.1 ((pairsB_pw k2).sublist h) i (i+1) (by omega) hi (by omega)))
 have hl:l.length<=7:=h.length_le;obtain⟨M,rfl⟩:∃M,N=M+2:=⟨N-2,by omega⟩;refine ok_get ?_;rw[e41];refine ok_bind' (P:=fun b=>b=true) ?_ fun b h=>ok_some h
 rw[e64];refine ok_join (fun q=>q=l) (fun q e=>ok_let (ok_some ?_)) fun g hg=>?_
 subst e;exact decide_eq_true (by show(q.length:Int)<=64;omega);refine ok_loop (fun i q=>q=(l,l,(l.length:Int),(i:Int))/\i<=l.length) l.length (fun i q ⟨e,hi⟩=>?_) ⟨rfl,Nat.zero_le _⟩ (by omega);subst e;refine ok_let (ok_if (fun hc=>?_) fun hc=>ok_leave (hg _ rfl));have hlt:i<l.length:=lt_of hc;refine ok_bind (aJo hlt) (ok_bind (e1 (by omega) _ (List.getElem_mem hlt)) (ok_let (ok_let ?_)));have hw:IntKind.i64.wrap ((i:Int)-1)=(i:Int)-1:=wv _ rfl (by omega) (by omega);have key:∃v w,(bif (decide ((i:Int)>0)&&(!(!true)))then aEU l (IntKind.i64.wrap ((i:Int)-1))else some ((0:Int),(0:Int),(0:Int)))=some v/\(bif (decide ((i:Int)>0)&&(!(!true)))then n66 M (v,l[i])else some (0:Int))=some w/\(bif decide ((i:Int)>0)then decide (w>=(0:Int))else false)=false:=by
  cases i with|zero=>exact⟨(0,0,0),0,rfl,rfl,rfl⟩|succ i=>have hd:decide (((i+1:Nat):Int)>0)=true:=decide_eq_true (by omega);refine⟨l[i],-1,?_,?_,?_⟩;rw[hd,hw,show(((i+1:Nat):Int)-1)=(i:Int) by omega];exact aJo (by omega);rw[hd];exact e2 (by omega) i hlt;rw[hd];rfl
 obtain⟨v,w,h1,h2,h3⟩:=key;refine ok_bind h1 (ok_bind h2 (ok_letE h3 (ok_letE (w:=false) rfl (ok_if (fun h=>by cases h) fun _=>ok_letE (w:=((i+1:Nat):Int)) (wv _ rfl (by omega) (by omega)) (ok_again hlt ⟨rfl,hlt⟩)))))
structure AtD(a:Attrs):Prop where
 small:AtB a
 path:a.2.1=[]\/∃l M,a.2.1=(false,l)::M
 tot:tot a.2.1<=20
 len:a.2.1.length<=2
 comm:(aComm a).Sublist Z.allC
 large:(aLarge a).Sublist Z.allL
 other:aOther a=[]\/∃x,aOther a=[(224,99,x)]
def DP(a:Attrs):Prop:=(a.2.1=[]\/∃l M,a.2.1=(false,l)::M)/\tot a.2.1<=20/\a.2.1.length<=2/\(aOther a=[]\/∃x,aOther a=[(224,99,x)])
theorem sw_deck(o:Int){p:List Int}(m r:Int)(c:List (Int×Int))(g:List (Int×Int×Int))(asn:Int)(v6:Bool)(s:Int×Dk)(hp:p.length<=10) :
  DP (swD o p m r c g asn v6 s).1:=by
 have T1:∀{l:List Int},l.length<=20->tot [(false,l)]<=20:=fun h=>by show _+0<=20;exact h
 unfold swD;simp only;split;exact⟨.inr ⟨_,_,rfl⟩,T1 (by omega),by simp,.inl rfl⟩;split;exact⟨.inr ⟨_,_,rfl⟩,T1 (by simp;omega),by simp,.inl rfl⟩;split;refine⟨.inr ⟨_,_,rfl⟩,?_,by simp,.inl rfl⟩;show p.length+(2+0)<=20;omega;split;exact⟨.inr ⟨_,_,rfl⟩,T1 (by simp;omega),by simp,.inl rfl⟩;split;exact⟨.inr ⟨_,_,rfl⟩,T1 (by omega),by simp,.inl rfl⟩;split;exact⟨.inr ⟨_,_,rfl⟩,T1 (by simp;omega),by simp,.inl rfl⟩;split;exact⟨.inl rfl,(show tot []<=20 by decide),by simp,.inl rfl⟩;split;exact⟨.inr ⟨_,_,rfl⟩,T1 (by omega),by simp,.inr ⟨_,rfl⟩⟩;exact⟨.inr ⟨_,_,rfl⟩,T1 (by omega),by simp,.inl rfl⟩
theorem attrsD_deck{d:Dk}(h:DK d)(asn:Int)(v6:Bool):AtD (attrsD d asn v6).1:=by
 obtain⟨k1,k2,k3,_⟩:=attrs_ok h asn v6;have hk:=nx_rng (nx d 3).2 (b:=4) (by decide);obtain⟨p1,_,_⟩:=pathD_facts asn (nx (nx d 3).2 4).1.toNat [asn] (nx (nx d 3).2 4).2 (nx_DK (nx_DK h 3) 4);have hp:(preD d asn).2.1.length<=10:=by show(pathD asn (nx (nx d 3).2 4).1.toNat [asn] (nx (nx d 3).2 4).2).1.length<=10;rw[p1];simp;omega
 obtain⟨q1,q2,q3,q4⟩:=sw_deck (preD d asn).1 (optD (preD d asn).2.2 3 3).1 (optD (optD (preD d asn).2.2 3 3).2 6 300).1 (commD (optD (optD (preD d asn).2.2 3 3).2 6 300).2).1 (largeD (commD (optD (optD (preD d asn).2.2 3 3).2 6 300).2).2).1 asn v6 (nx (largeD (commD (optD (optD (preD d asn).2.2 3 3).2 6 300).2).2).2 24) hp;exact⟨k1,q1,q2,q3,k2,k3,q4⟩
def keepC(ot:Int)(c:Int×Int):Bool:=bif (c.2 != ot)then true else(bif (c.1 != (0:Int))then(c.1 != (99:Int))else false)
def keepT(ot:Int)(c:Int×Int×Int):Bool:=bif (c.1 != (99:Int))then true else(c.2.2 != ot)
def lessD(ot:Int)(a:Attrs):Attrs:=(a.1,a.2.1,a.2.2.1,a.2.2.2.1,a.2.2.2.2.1,a.2.2.2.2.2.1,(aComm a).filter (keepC ot),(aLarge a).filter (keepT ot),aOther a)
theorem hasP_keep{l:List (Int×Int)}{F:Int×Int->Bool}{c:Int×Int}(h:F c=true):hasP (l.filter F) c=hasP l c:=by
 unfold hasP;rw[List.any_filter];congr 1
 funext x
 cases h1:(x.1==c.1&&x.2==c.2)with
 |false=>simp|true=>rw[and_eq_true,beq_iff_eq,beq_iff_eq]at h1;rw[show x=c from Prod.ext h1.1 h1.2,h];rfl
theorem hasT_keep{l:List (Int×Int×Int)}{F:Int×Int×Int->Bool}{c:Int×Int×Int}(h:F c=true):hasT (l.filter F) c=hasT l c:=by
 unfold hasT;rw[List.any_filter];congr 1
 funext x
 cases h1:(x.1==c.1&&(x.2.1==c.2.1&&x.2.2==c.2.2))with
 |false=>simp|true=>rw[and_eq_true,and_eq_true,beq_iff_eq,beq_iff_eq,beq_iff_eq]at h1;rw[show x=c from Prod.ext h1.1 (Prod.ext h1.2.1 h1.2.2),h];rfl
theorem hit_keepT{l:List (Int×Int×Int)}{ot who:Int}(h:who≠ot):∀k,hit (l.filter (keepT ot)) 99 who k=hit l 99 who k
 |0=>rfl|k+1=>by rw[hit,hit,hit_keepT h k,hasT_keep (by simp[keepT,h])]
theorem prep_keepT{l:List (Int×Int×Int)}{ot mb:Int}(h:mb≠ot)(h0:(0:Int)≠ot):prepN (l.filter (keepT ot)) 99 mb=prepN l 99 mb:=by unfold prepN;rw[hit_keepT h,hit_keepT h0]
theorem read_less{a:Attrs}{ot mb:Int}(h:mb≠ot)(h0:(0:Int)≠ot)(h99:(99:Int)≠ot):readD 99 (lessD ot a) mb=readD 99 a mb:=by unfold readD;show(hasP ((aComm a).filter _) _,hasP ((aComm a).filter _) _||hasT ((aLarge a).filter _) _,hasP ((aComm a).filter _) _||hasT ((aLarge a).filter _) _,hasP ((aComm a).filter _) _||hasT ((aLarge a).filter _) _,prepN ((aLarge a).filter _) 99 mb)=_;rw[hasP_keep (by simp[keepC]),hasP_keep (by simp[keepC,h]),hasP_keep (by simp[keepC,h99]),hasP_keep (by simp[keepC,h]),hasT_keep (by simp[keepT,h]),hasT_keep (by simp[keepT,h0]),hasT_keep (by simp[keepT,h]),prep_keepT h h0]
theorem ver_less{r:Rt}{p:Pol}{ot:Int}(h:p.1≠ot)(h0:(0:Int)≠ot)(h99:(99:Int)≠ot):verD 99 (r.1,r.2.1,lessD ot r.2.2) p=verD 99 r p:=by unfold verD hopD famD;simp only;rw[read_less h h0 h99,show hasP (aComm (lessD ot r.2.2)) (65535,666)=hasP (aComm r.2.2) (65535,666)from hasP_keep (by simp[keepC]),show prepN (aLarge (lessD ot r.2.2)) 99 p.1=prepN (aLarge r.2.2) 99 p.1 from prep_keepT h h0];rfl
theorem strip_less{a:Attrs}{ot:Int}:stripD 99 (lessD ot a)=stripD 99 a:=by
 unfold stripD lessD;show(_,_,_,_,_,_,((aComm a).filter _).filter _,((aLarge a).filter _).filter _,_)=_;rw[List.filter_filter,List.filter_filter];have e1:(fun c:Int×Int=>(!(c.1==0||c.1==99))&&keepC ot c)=fun c=>!(c.1==0||c.1==99):=by
  funext c
  unfold keepC bne;cases c.1==0<;>cases c.1==99<;>cases c.2==ot<;>rfl
 have e2:(fun c:Int×Int×Int=>(!(c.1==99))&&keepT ot c)=fun c=>!(c.1==99):=by
  funext c
  unfold keepT bne;cases c.1==99<;>cases c.2.2==ot<;>rfl
 rw[e1,e2];rfl
theorem AtD.less{a:Attrs}(h:AtD a)(ot:Int):AtD (lessD ot a):=
 ⟨⟨h.small.path,h.small.seg,Nat.le_trans (List.length_filter_le _ _) h.small.comm,Nat.le_trans (List.length_filter_le _ _) h.small.large,h.small.other,h.small.data⟩,h.path,h.tot,h.len,List.filter_sublist.trans h.comm,List.filter_sublist.trans h.large,h.other⟩
end Go.Proofs.YtgfmodmeimhhpaaDoor
namespace Go.Proofs.YtgfmodmeimhhpaaDoor
open Go.VM
set_option maxRecDepth 100000
theorem u64_nn(x:Int):¬IntKind.u64.wrap x<0:=by rw[IntKind.wrap_u64];omega
theorem masks60(N:Nat)(a:Int):Ok (n60 (N+1) a) fun _=>True:=by
 rw[e60];refine ok_if (fun _=>ok_let ?_) fun _=>?_
 rw[if_neg (u64_nn _)];exact ok_bind rfl (ok_let (ok_some trivial));rw[if_neg (u64_nn _)];exact ok_bind rfl (ok_let (ok_some trivial))
theorem width35(N:Nat)(a:Bool×Int×Int):Ok (n35 (N+1) a) fun _=>True:=by rw[e35];exact ok_if (fun _=>ok_some trivial) fun _=>ok_some trivial
theorem addr34(N:Nat)(a:Bool×Int×Int):Ok (n34 (N+1) a) fun _=>True:=by rw[e34];exact ok_let (ok_let (ok_some trivial))
theorem ok_cond{α:Type}{c:Bool}{x:Option α}{d:α}(h:c=true->Ok x fun _=>True):Ok (bif c then x else some d) fun _=>True:=by cases c;exact ok_some trivial;exact h rfl
theorem prefix21(N:Nat)(a:(Bool×Int×Int)×Int):Ok (n21 (N+4) a) fun _=>True:=by
 rw[e21];refine ok_bind' (addr34 _ _) fun v0 _=>ok_let (ok_bind' (ok_cond fun _=>width35 _ _) fun v2 _=>ok_let (ok_bind' (ok_cond fun _=>?_) fun v4 _=>ok_let (ok_some trivial)))
 rw[e36];exact ok_bind' (width35 _ _) fun _ _=>ok_bind' (masks60 _ _) fun _ _=>ok_let (ok_let (ok_some trivial))
theorem num17(N:Nat)(a:Int):n17 (N+1) a=some (decide (a>=1)&&decide (a<=4294967295)):=by rw[e17];refine letB rfl (letB rfl ?_);cases decide (a>=1)<;>rfl
theorem num39(N:Nat)(a:Int):n39 (N+1) a=some (num a):=by rw[fz39];exact Z.num_n N a
theorem in37(N:Nat)(a b c:Int):Ok (n37 (N+1) (a,b,c)) fun _=>True:=by rw[e37];exact ok_let (ok_some trivial)
theorem unk67(N:Nat){t:Int}(h:(Lit.int .i64 t).wf=true):Ok (n67 (N+1) t) fun _=>True:=by rw[e67];unfold gUnkn;rw[if_pos h];exact ok_some trivial
theorem others42{N:Nat}(hN:3<N){l:List Unk}(h:l=[]\/∃x,l=[(224,99,x)]):Ok (n42 (N+2) l) fun _=>True:=by
 rw[e42];refine ok_join (fun _=>True) (fun q _=>ok_let (ok_some trivial)) fun g hg=>?_
 have hl:l.length<=1:=by rcases h with rfl|⟨x,rfl⟩<;>simp
 refine ok_loop (fun i q=>q=(l,l,(l.length:Int),(i:Int))/\i<=l.length) l.length (fun i q ⟨e,hi⟩=>?_) ⟨rfl,Nat.zero_le _⟩ (by omega);subst e;refine ok_let (ok_if (fun hc=>?_) fun hc=>ok_leave (hg _ trivial));have hlt:i<l.length:=lt_of hc;have h0:i=0:=by omega
 subst h0;rcases h with rfl|⟨x,rfl⟩;cases hlt;refine ok_bind (aJo hlt) (ok_bind' (unk67 N (show(Lit.int .i64 99).wf=true by decide)) fun v6 _=>ok_bind' (ok_cond fun _=>in37 _ _ _ _) fun v7 _=>ok_let (ok_let (ok_let (ok_letE (w:=false) rfl (ok_let (ok_bind rfl (ok_let (ok_let ?_))))))));exact ok_if (fun _=>ok_leave (ok_some trivial)) fun _=>ok_letE (w:=((0+1:Nat):Int)) (wv _ rfl (by omega) (by omega)) (ok_again hlt ⟨rfl,hlt⟩)
theorem valid22{N:Nat}(hN:100100<N){a:Attrs}(h:AtD a):Ok (n22 (N+5) a) fun b=>b=true->pvd a.2.1=true:=by
 have hp:=valid38 (N:=N+3) (by omega) (Nat.le_trans h.len (by decide)) h.small.seg;have hc:=comm40 (N:=N+4) (by omega) h.comm;have hg:=large41 (N:=N+4) (by omega) h.large;rw[e22];refine ok_bind' (in37 _ _ _ _) fun v0 _=>?_
 cases v0 with|false=>exact ok_bind rfl (ok_bind rfl (ok_let (ok_bind rfl (ok_bind rfl (ok_let (ok_let (ok_bind' (ok_cond fun _=>⟨_,num39 _ _,trivial⟩) fun _ _=>ok_let (ok_bind' (ok_cond fun _=>⟨_,hc,trivial⟩) fun _ _=>ok_bind' (ok_cond fun _=>⟨_,hg,trivial⟩) fun _ _=>ok_let (ok_bind' (ok_cond fun _=>others42 (by omega) h.other) fun _ _=>ok_let (ok_some fun e=>by simp at e))))))))))|true=>
  refine ok_bind hp ?_;cases hpv:pvd a.2.1 with
  |true=>exact ok_bind' (ok_cond fun _=>addr34 _ _) fun _ _=>ok_let (ok_bind' (ok_cond fun _=>in37 _ _ _ _) fun _ _=>ok_bind' (ok_cond fun _=>in37 _ _ _ _) fun _ _=>ok_let (ok_let (ok_bind' (ok_cond fun _=>⟨_,num39 _ _,trivial⟩) fun _ _=>ok_let (ok_bind' (ok_cond fun _=>⟨_,hc,trivial⟩) fun _ _=>ok_bind' (ok_cond fun _=>⟨_,hg,trivial⟩) fun _ _=>ok_let (ok_bind' (ok_cond fun _=>others42 (by omega) h.other) fun _ _=>ok_let (ok_some fun _=>rfl))))))|false=>exact ok_bind rfl (ok_let (ok_bind rfl (ok_bind rfl (ok_let (ok_let (ok_bind' (ok_cond fun _=>⟨_,num39 _ _,trivial⟩) fun _ _=>ok_let (ok_bind' (ok_cond fun _=>⟨_,hc,trivial⟩) fun _ _=>ok_bind' (ok_cond fun _=>⟨_,hg,trivial⟩) fun _ _=>ok_let (ok_bind' (ok_cond fun _=>others42 (by omega) h.other) fun _ _=>ok_let (ok_some fun e=>by simp at e)))))))))
theorem valid_less{N:Nat}(hN:40<=N){a:Attrs}(h:AtD a)(ot:Int):n22 (N+1) (lessD ot a)=n22 (N+1) a:=by have hc:=comm40 hN h.comm;have hg:=large41 hN h.large;have hc':=comm40 hN (h.less ot).comm;have hg':=large41 hN (h.less ot).large;rw[e22,e22];have k1:n40 N (lessD ot a).2.2.2.2.2.2.1=some true:=hc';have k2:n41 N (lessD ot a).2.2.2.2.2.2.2.1=some true:=hg';have k3:n40 N a.2.2.2.2.2.2.1=some true:=hc;have k4:n41 N a.2.2.2.2.2.2.2.1=some true:=hg;rw[k1,k2,k3,k4];rfl
end Go.Proofs.YtgfmodmeimhhpaaDoor
open List(mem_cons)
open Nat(le_trans)
open Bool(and_eq_true_iff)
namespace Go.Proofs.YtgfmodmeimhhpaaDoor
open Go.VM
set_option maxRecDepth 100000
theorem adj_total{α:Type}{l:List α}{i:Nat}(hi:i<l.length)(b:Bool)(d:α)(hl:l.length<=1000):Ok (bif (decide ((i:Int)>0)&&b)then aEU l (IntKind.i64.wrap ((i:Int)-1))else some d) fun _=>True:=by
 refine ok_cond fun h=>?_
 rw[Bool.and_eq_true,decide_eq_true_eq]at h;have h0:0<i:=by have:=h.1;omega
 have hw:IntKind.i64.wrap ((i:Int)-1)=((i-1:Nat):Int):=wv _ (by omega) (by omega) (by omega);rw[hw];exact⟨_,aJo (by omega),trivial⟩
theorem check10{N:Nat}(hN:1000<N){p:Pol}(hp:PolB 100 p):Ok (n10 (N+2) p) fun _=>True:=by
 obtain⟨h1,h2⟩:=hp;have e0:∀a,Ok (n17 (N+1) a) fun _=>True:=fun a=>⟨_,num17 N a,trivial⟩
 rw[e10];refine ok_bind' (e0 _) fun _ _=>ok_let (ok_let (ok_let (ok_let (ok_let (ok_let (ok_if (fun _=>ok_some trivial) fun _=>?_))))))
 refine ok_join (fun q=>q=p) (fun q e=>?_) fun g hg=>?_
 subst e;refine ok_join (fun _=>True) (fun _ _=>ok_some trivial) fun g hg=>?_
 refine ok_loop (fun i r=>r=(q,pPref q,((pPref q).length:Int),(i:Int))/\i<=(pPref q).length) (pPref q).length (fun i r ⟨e,hi⟩=>?_) ⟨rfl,Nat.zero_le _⟩ (by omega);subst e;refine ok_let (ok_if (fun hc=>?_) fun hc=>ok_leave (hg () trivial));have hlt:i<(pPref q).length:=lt_of hc;refine ok_bind (aJo hlt) (ok_bind' (e0 _) fun _ _=>ok_let (ok_let (ok_bind' (adj_total hlt _ _ (by omega)) fun _ _=>ok_let (ok_let (ok_let (ok_let (ok_let (ok_if (fun _=>ok_leave (ok_some trivial)) fun _=>ok_letE (w:=((i+1:Nat):Int)) (wv _ rfl (by omega) (by omega)) (ok_again hlt ⟨rfl,hlt⟩)))))))));refine ok_loop (fun i r=>r=(p,pDeny p,((pDeny p).length:Int),(i:Int))/\i<=(pDeny p).length) (pDeny p).length (fun i r ⟨e,hi⟩=>?_) ⟨rfl,Nat.zero_le _⟩ (by omega);subst e;refine ok_let (ok_if (fun hc=>?_) fun hc=>ok_leave (hg _ rfl));have hlt:i<(pDeny p).length:=lt_of hc;refine ok_bind (aJo hlt) (ok_bind' (e0 _) fun _ _=>ok_let (ok_let (ok_bind' (adj_total hlt _ _ (by omega)) fun _ _=>ok_let (ok_let (ok_if (fun _=>ok_leave (ok_some trivial)) fun _=>ok_letE (w:=((i+1:Nat):Int)) (wv _ rfl (by omega) (by omega)) (ok_again hlt ⟨rfl,hlt⟩))))))
theorem atB0:AtB (0,[],(false,0,0),0,0,0,[],[],[]):=⟨by simp,(fun s h=>by cases h),by simp[aComm],by simp[aLarge],by simp[aOther],fun u h=>by cases h⟩
theorem send27{N:Nat}(hN:100020<=N){a:Attrs}(ha:AtB a):Ok (n27 (N+3) (1,99,a)) fun q=>AtB q.1:=by
 rw[e27];have h57:n57 (N+2) 1=some true:=by rw[e57];exact bindB (e84 N) rfl
 refine ok_bind h57 (ok_bind' (P:=fun _=>True) (ok_cond fun _=>?_) fun v1 _=>ok_let (ok_if (fun _=>ok_let (ok_let (ok_let (ok_some atB0)))) fun _=>ok_let (ok_let (ok_let (ok_if (fun _=>ok_let (ok_let (ok_let (ok_some atB0)))) fun _=>ok_bind (clone52 (by omega) ha) (ok_let (ok_let ?_)))))));rw[e58];exact ok_let (ok_let (ok_some trivial));refine ok_join (fun q=>AtB q.2) (fun q h=>ok_some h) fun g hg=>ok_if (fun _=>hg _ ?_) fun _=>hg _ ha
 exact⟨ha.path,ha.seg,ha.comm,ha.large,ha.other,ha.data⟩
theorem prep25{N:Nat}{own mb:Int}{a:Attrs}(hN:4010<N)(ha:AtB a):n25 (N+6) (own,a,mb)=some (prepN (aLarge a) own mb):=by rw[e25];exact bindB (read29 (by have:=ha.large;have:=ha.comm;omega) ha.large ha.comm) rfl
theorem seg_tot{L:List Seg}:∀s∈L,s.2.length<=tot L:=by
 induction L with|nil=>intro s h;cases h|cons t r ih=>intro s h;have e:tot (t::r)=t.2.length+tot r:=rfl;rcases mem_cons.1 h with rfl|h;omega;have:=ih s h;omega
theorem prepD_small{L:List Seg}{a n:Int}(hl:L.length<=2)(ht:tot L<=20)(hn:n<=3):(prepD L a n).1.length<=10/\∀s∈(prepD L a n).1,s.2.length<=2000:=by
 have hs:∀s∈L,s.2.length<=20:=fun s h=>le_trans (seg_tot s h) ht
 have hk:n.toNat<=3:=by omega
 have h0:∀s∈([]:List Seg),s.2.length<=2000:=fun s h=>by cases h
 unfold prepD;split;exact⟨by simp,h0⟩;split;exact⟨by simp,h0⟩;split;exact⟨by show L.length<=10;omega,fun s h=>le_trans (hs s h) (by decide)⟩;unfold preP;cases L with
 |nil=>refine⟨by simp,fun s h=>?_⟩;rw[List.mem_singleton]at h;subst h;show(List.replicate _ _).length<=2000;rw[List.length_replicate];omega|cons t r=>
  have hr:∀s∈r,s.2.length<=20:=fun s h=>hs s (List.mem_cons_of_mem _ h)
  have h1:=hs t List.mem_cons_self;rw[List.length_cons]at hl;simp only;split;refine⟨by simp;omega,fun s h=>?_⟩;rcases mem_cons.1 h with rfl|h;show(List.replicate _ _).length<=2000;rw[List.length_replicate];omega;exact le_trans (hs s h) (by decide);refine⟨by simp;omega,fun s h=>?_⟩;rcases mem_cons.1 h with rfl|h;show(List.replicate _ _++t.2).length<=2000;rw[List.length_append,List.length_replicate];omega;exact le_trans (hr s h) (by decide)
theorem deck_in{L:List Seg}{asn n:Int}(hm:midB L=true)(hp:pvd L=true)(hn:num asn=true)(h0:0<=n)(h3:n<=3)(ht:tot L<=20)(hq:L=[]\/∃l M,L=(false,l)::M):deckB (L,asn,n)=true:=by
 have h64:n<=64-((tot L:Nat):Int):=by omega
 unfold deckB;refine and_eq_true_iff.2 ⟨hm,and_eq_true_iff.2 ⟨hp,and_eq_true_iff.2 ⟨hn,and_eq_true_iff.2 ⟨decide_eq_true h0,and_eq_true_iff.2 ⟨decide_eq_true h64,?_⟩⟩⟩⟩⟩;rcases hq with rfl|⟨l,M,rfl⟩<;>rfl
theorem prep24(N:Nat){a:Attrs}(h:AtD a)(hp:pvd a.2.1=true){asn n:Int}(hn:num asn=true)(h0:0<=n)(h3:n<=3):n24 (N+1) (a.2.1,asn,n)=some (prepD a.2.1 asn n):=by have hm:midB a.2.1=true:=midB_iff.2 ⟨le_trans h.len (by decide),fun s hs=>le_trans (seg_tot s hs) (le_trans h.tot (by decide))⟩;exact(e24 N _).trans (if_pos (deck_in hm hp hn h0 h3 h.tot h.path))
theorem num_dec{a:Int}(h:(decide (a>=1)&&decide (a<=4294967295))=true):num a=true:=by rw[Bool.and_eq_true,decide_eq_true_eq,decide_eq_true_eq]at h;exact decide_eq_true h
theorem ok_condP{α:Type}{c:Bool}{x:Option α}{d:α}{P:α->Prop}(h:c=true->Ok x P)(k:c=false->P d):Ok (bif c then x else some d) P:=by cases c;exact ok_some (k rfl);exact h rfl
theorem export15{N:Nat}(hN:5000000<N){r:Rt}{p:Pol}(ha:AtD r.2.2)(hp:PolB 100 p):Ok (n15 (N+10) (99,r,p)) fun q=>AtB q.1.2.2:=by
 have k5:=prepN_rng (aLarge r.2.2) 99 p.1;have h99:n17 (N+9) 99=some true:=by rw[num17];rfl
 rw[e15];refine ok_bind h99 (ok_bind (bifT rfl (num17 (N+8) r.2.1)) (ok_let (ok_bind' (ok_cond fun _=>prefix21 _ _) fun v3 _=>ok_let ?_)));have hv:=valid22 (N:=N+4) (by omega) ha;refine ok_bind' (ok_condP (fun _=>hv) fun _ h=>by cases h) fun v5 h5=>ok_let (ok_if (fun _=>ok_let (ok_let (ok_let (ok_some atB0)))) fun h6=>?_)
 have hn:num r.2.1=true/\v5=true:=by
  cases hb:(decide (r.2.1>=1)&&decide (r.2.1<=4294967295))with
  |false=>rw[hb]at h6;simp at h6|true=>
   rw[hb]at h6;refine⟨num_dec hb,?_⟩;cases v5 with
   |true=>rfl|false=>simp at h6
 refine ok_bind' (check10 (N:=N+7) (by omega) hp) fun v10 _=>ok_if (fun _=>ok_let (ok_let (ok_let (ok_some atB0)))) fun _=>ok_bind (ver11 (N:=N+3) (by omega) ha.small (by have:=hp.1;omega)) (ok_if (fun _=>ok_let (ok_let (ok_let (ok_some atB0)))) fun _=>?_)
 refine ok_bind (prep25 (N:=N+3) (by omega) ha.small) (ok_bind (prep24 (N+8) ha (h5 hn.2) hn.1 k5.1 k5.2) (ok_if (fun _=>ok_let (ok_let (ok_let (ok_some atB0)))) fun _=>ok_bind (strip16 (N:=N+8) ha.small) ?_));obtain⟨q1,q2⟩:=prepD_small (a:=r.2.1) (n:=prepN (aLarge r.2.2) 99 p.1) ha.len ha.tot k5.2;have hs:=ha.small.strip 99;refine ok_bind' (send27 (N:=N+6) (by omega) ?_) fun v24 h24=>ok_if (fun _=>ok_let (ok_let (ok_let (ok_some atB0)))) fun _=>ok_some h24
 exact⟨le_trans q1 (by decide),q2,hs.comm,hs.large,hs.other,hs.data⟩
theorem export_less{N:Nat}(hN:5000000<N){r:Rt}{p:Pol}{ot:Int}(ha:AtD r.2.2)(hp:PolB 100 p)(h:p.1≠ot)(h0:(0:Int)≠ot)(h99:(99:Int)≠ot):n15 (N+10) (99,(r.1,r.2.1,lessD ot r.2.2),p)=n15 (N+10) (99,r,p):=by
 have hd:(pDeny p).length<=2000:=by have:=hp.1;omega
 have hl:=ha.less ot;have k1:n22 (N+9) (r.1,r.2.1,lessD ot r.2.2).2.2=n22 (N+9) r.2.2:=valid_less (by omega) ha ot;have k2:n23 (N+9) (99,(r.1,r.2.1,lessD ot r.2.2),p)=n23 (N+9) (99,r,p):=(ver11 (N:=N+3) (r:=(r.1,r.2.1,lessD ot r.2.2)) (by omega) hl.small hd).trans ((congrArg some (ver_less h h0 h99)).trans (ver11 (N:=N+3) (by omega) ha.small hd).symm);have k3:n25 (N+9) (99,(r.1,r.2.1,lessD ot r.2.2).2.2,p.1)=n25 (N+9) (99,r.2.2,p.1):=(prep25 (N:=N+3) (by omega) hl.small).trans ((congrArg some (prep_keepT h h0)).trans (prep25 (N:=N+3) (by omega) ha.small).symm);have k4:n26 (N+9) (99,(r.1,r.2.1,lessD ot r.2.2).2.2)=n26 (N+9) (99,r.2.2):=(strip16 (N:=N+8) hl.small).trans ((congrArg some strip_less).trans (strip16 (N:=N+8) ha.small).symm);rw[e15,e15,k1,k2,k3,k4];rfl
end Go.Proofs.YtgfmodmeimhhpaaDoor
namespace Go.Proofs.YtgfmodmeimhhpaaDoor
open Go.VM
set_option maxRecDepth 100000
theorem same16{N:Nat}{r:Rt}(hN:2001<N)(h:AtB r.2.2):n16 (N+3) (r,r)=some true:=by rw[e16];refine letB (v:=true) (by simp) (letB (v:=true) (by simp) (bindB (same15 hN h) rfl))
theorem other_ne{b c:Int}(h1:0<=c%3):(101:Int)+b%4≠101+(IntKind.i64.wrap (IntKind.i64.wrap (b+1)+c%3))%4:=by rw[IntKind.wrap_i64,IntKind.wrap_i64];omega
theorem othersE(N:Nat)(hN:5000000<N){l:List Int}(hl:l.length<=9223372036854775807)(b c:Int):n4 (N+12) (l,b,c)=some true:=by
 refine ok_get ?_;rw[e4];have w101:∀{v:Int},0<=v->v<100->IntKind.i64.wrap ((101:Int)+v)=101+v:=fun h h2=>pV (by omega) (by omega)
 refine ok_bind (v:=(l,0)) (e6 _ _) (ok_bind' (next_ok (N+9) (DK0 hl) (b:=4) (by decide) (by decide)) fun v1 h1=>ok_let (ok_bind' (route_ok (N+7) h1.2.2 _) fun v3 h3=>?_));have hb:=Int.emod_nonneg b (show(4:Int)≠0 by decide);have hb2:=Int.emod_lt_of_pos b (show(0:Int)<4 by decide);have hc:=Int.emod_nonneg c (show(3:Int)≠0 by decide);refine ok_bind (mod9 (N+10) (by decide) (by decide)) (ok_letE (w101 hb (by omega)) (ok_bind' (policy_ok (N+8) (by omega) h3.2 _) fun v6 h6=>ok_let (ok_bind (mod9 (N+10) (by decide) (by decide)) (ok_bind (mod9 (N+10) (by decide) (by decide)) ?_))));have ho:=Int.emod_nonneg (IntKind.i64.wrap (IntKind.i64.wrap (b+1)+c%3)) (show(4:Int)≠0 by decide);have ho2:=Int.emod_lt_of_pos (IntKind.i64.wrap (IntKind.i64.wrap (b+1)+c%3)) (show(0:Int)<4 by decide);have hne:v6.1.1≠101+(IntKind.i64.wrap (IntKind.i64.wrap (b+1)+c%3))%4:=by rw[h6.2.1];exact other_ne hc
 refine ok_letE (w101 ho (by omega)) ?_;generalize hot:(101:Int)+(IntKind.i64.wrap (IntKind.i64.wrap (b+1)+c%3))%4=ot at hne ⊢;obtain⟨⟨hsm,⟨d0,v60,hd0,hat⟩,_⟩,hd3⟩:=h3;have hAt:AtD v3.1.2.2:=by rw[hat];exact attrsD_deck hd0 _ _
 have hp:PolB 100 v6.1:=⟨Nat.le_trans h6.1.1 (by decide),Nat.le_trans h6.1.2 (by decide)⟩;obtain⟨r,dk⟩:=v3;obtain⟨px,fr,A⟩:=r;simp only at hAt hsm;clear hat;refine ok_bind (copy44 (N:=N+10) (by omega) hsm) (ok_let (ok_let ?_));obtain⟨o,path,ad,md,pr,oc,cm,lg,oth⟩:=A;have k1:=hsm.comm;have k2:=hsm.large;simp only[aComm,aLarge]at k1 k2;refine ok_join (fun q=>q=((px,fr,o,path,ad,md,pr,oc,cm,lg,oth),v6.1,ot,(px,fr,o,path,ad,md,pr,oc,cm.filter (keepC ot),([]:List (Int×Int×Int)),oth))) (fun q e=>?_) fun g hg=>?_
 subst e;refine ok_let (ok_join (fun q=>q=((px,fr,o,path,ad,md,pr,oc,cm,lg,oth),v6.1,(px,fr,o,path,ad,md,pr,oc,cm.filter (keepC ot),lg.filter (keepT ot),oth))) (fun q e=>?_) fun g hg=>?_);subst e;obtain⟨x,hx,hxs⟩:=export15 (N:=N+1) (by omega) (r:=(px,fr,o,path,ad,md,pr,oc,cm,lg,oth)) hAt hp;have hx2:=(export_less (N:=N+1) (by omega) (r:=(px,fr,o,path,ad,md,pr,oc,cm,lg,oth)) hAt hp hne (by omega) (by omega)).trans hx;refine ok_bind hx (ok_bind hx2 (ok_letE (w:=true) (by simp) (ok_bind (bifT rfl (same16 (N:=N+8) (by omega) hxs)) (ok_letE (w:=true) rfl (ok_bind (bifT rfl (awake' (by omega))) (ok_letE (w:=true) rfl (ok_some rfl)))))));refine ok_loop (fun i q=>q=((px,fr,o,path,ad,md,pr,oc,cm,lg,oth),v6.1,ot,(px,fr,o,path,ad,md,pr,oc,cm.filter (keepC ot),(lg.take i).filter (keepT ot),oth),lg,(lg.length:Int),(i:Int))/\i<=lg.length) lg.length (fun i q ⟨e,hi⟩=>?_) ⟨rfl,Nat.zero_le _⟩ (by omega);subst e;refine ok_let (ok_if (fun hc=>?_) fun hc=>ok_leave (hg _ ?_));have hlt:i<lg.length:=lt_of hc;refine ok_join (fun q=>q=((px,fr,o,path,ad,md,pr,oc,cm,lg,oth),v6.1,ot,(px,fr,o,path,ad,md,pr,oc,cm.filter (keepC ot),(lg.take (i+1)).filter (keepT ot),oth),lg,(lg.length:Int),(i:Int))) (fun q e=>?_) fun g1 hg1=>?_
 subst e;exact ok_letE (w:=((i+1:Nat):Int)) (wv _ rfl (by omega) (by omega)) (ok_again hlt ⟨rfl,hlt⟩);refine ok_bind (aJo hlt) (ok_let (ok_join (fun q=>q=((px,fr,o,path,ad,md,pr,oc,cm,lg,oth),v6.1,ot,(px,fr,o,path,ad,md,pr,oc,cm.filter (keepC ot),(lg.take (i+1)).filter (keepT ot),oth),lg,(lg.length:Int),(i:Int))) (fun q e=>hg1 _ (by subst e;rfl)) fun g2 hg2=>ok_if (fun h=>ok_let (ok_let ?_)) fun h=>?_));have hl:=filter_len (p:=keepT ot) hi;refine ok_bind (aJm (l:=(lg.take i).filter (keepT ot)) (by simp;omega) (by simp;omega)) (ok_let (ok_let (hg2 _ ?_)));rw[filter_snoc hlt,if_pos (show keepT ot lg[i]=true from h)];refine hg2 _ ?_;rw[filter_snoc hlt,if_neg (show ¬keepT ot lg[i]=true from fun q=>by rw[show keepT ot lg[i]=false from h]at q;cases q),List.append_nil];have:=not_lt_eq hi hc;subst this;rw[List.take_of_length_le (Nat.le_refl _)];refine ok_loop (fun i q=>q=((px,fr,o,path,ad,md,pr,oc,cm,lg,oth),v6.1,ot,(px,fr,o,path,ad,md,pr,oc,(cm.take i).filter (keepC ot),([]:List (Int×Int×Int)),oth),cm,(cm.length:Int),(i:Int))/\i<=cm.length) cm.length (fun i q ⟨e,hi⟩=>?_) ⟨rfl,Nat.zero_le _⟩ (by omega);subst e;refine ok_let (ok_if (fun hc=>?_) fun hc=>ok_leave (hg _ ?_));have hlt:i<cm.length:=lt_of hc;refine ok_join (fun q=>q=((px,fr,o,path,ad,md,pr,oc,cm,lg,oth),v6.1,ot,(px,fr,o,path,ad,md,pr,oc,(cm.take (i+1)).filter (keepC ot),([]:List (Int×Int×Int)),oth),cm,(cm.length:Int),(i:Int))) (fun q e=>?_) fun g1 hg1=>?_
 subst e;exact ok_letE (w:=((i+1:Nat):Int)) (wv _ rfl (by omega) (by omega)) (ok_again hlt ⟨rfl,hlt⟩);refine ok_bind (aJo hlt) (ok_let (ok_let (ok_join (fun q=>q=((px,fr,o,path,ad,md,pr,oc,cm,lg,oth),v6.1,ot,(px,fr,o,path,ad,md,pr,oc,(cm.take (i+1)).filter (keepC ot),([]:List (Int×Int×Int)),oth),cm,(cm.length:Int),(i:Int))) (fun q e=>hg1 _ (by subst e;rfl)) fun g2 hg2=>ok_if (fun h=>ok_let ?_) fun h=>?_)));have hl:=filter_len (p:=keepC ot) hi;refine ok_bind (aJm (l:=(cm.take i).filter (keepC ot)) (by simp;omega) (by simp;omega)) (ok_let (hg2 _ ?_));rw[filter_snoc hlt,if_pos (show keepC ot cm[i]=true from h)];refine hg2 _ ?_;rw[filter_snoc hlt,if_neg (show ¬keepC ot cm[i]=true from fun q=>by rw[show keepC ot cm[i]=false from h]at q;cases q),List.append_nil];have:=not_lt_eq hi hc;subst this;rw[List.take_of_length_le (Nat.le_refl _)]
end Go.Proofs.YtgfmodmeimhhpaaDoor
