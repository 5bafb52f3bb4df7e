/- Attributes of routes: their types, copies, and what is left without the communities of the exchange. -/
import Derived.Test.YtgfmodmeimhhpaaDoorZE1
import Derived.Test.YtgfmodmeimhhpaaDoorJE
namespace Go.VM
abbrev tySg:Ty:=.st (.pair .bool (.sl (.int .i64)))
abbrev tyAd:Ty:=.st (.pair .bool (.pair (.int .u64) (.int .u64)))
abbrev tyCm:Ty:=.st (.pair (.int .i64) (.int .i64))
abbrev tyLg:Ty:=.st (.pair (.int .i64) (.pair (.int .i64) (.int .i64)))
abbrev tyUn:Ty:=.st (.pair (.int .i64) (.pair (.int .i64) (.sl (.int .u8))))
abbrev tyAttr:Ty:=.st (.pair (.int .i64) (.pair (.sl tySg) (.pair tyAd (.pair (.int .i64) (.pair (.int .i64) (.pair (.int .i64) (.pair (.sl tyCm) (.pair (.sl tyLg) (.sl tyUn)))))))))
abbrev Seg:=Bool×List Int
abbrev Unk:=Int×Int×List Int
abbrev Attrs:=Int×List Seg×(Bool×Int×Int)×Int×Int×Int×List (Int×Int)×List (Int×Int×Int)×List Unk
def aComm(a:Attrs):List (Int×Int):=a.2.2.2.2.2.2.1
def aLarge(a:Attrs):List (Int×Int×Int):=a.2.2.2.2.2.2.2.1
def aOther(a:Attrs):List Unk:=a.2.2.2.2.2.2.2.2
def smA(a:Attrs):Bool:=decide (a.2.1.length<=100000)&&(a.2.1.all fun s=>decide (s.2.length<=100000))&&decide ((aComm a).length<=100000)&&decide ((aLarge a).length<=100000)&&decide ((aOther a).length<=100000)&&(aOther a).all fun u=>decide (u.2.2.length<=100000)
structure SmA(a:Attrs):Prop where
 path:a.2.1.length<=100000
 seg:∀s∈a.2.1,s.2.length<=100000
 comm:(aComm a).length<=100000
 large:(aLarge a).length<=100000
 other:(aOther a).length<=100000
 data:∀u∈aOther a,u.2.2.length<=100000
theorem smA_iff{a:Attrs}:smA a=true↔SmA a:=by unfold smA;simp only[Bool.and_eq_true,decide_eq_true_eq,List.all_eq_true];exact⟨fun⟨⟨⟨⟨⟨h1,h2⟩,h3⟩,h4⟩,h5⟩,h6⟩=>⟨h1,h2,h3,h4,h5,h6⟩,fun h=>⟨⟨⟨⟨⟨h.path,h.seg⟩,h.comm⟩,h.large⟩,h.other⟩,h.data⟩⟩
def stripD(own:Int)(a:Attrs):Attrs:=(a.1,a.2.1,a.2.2.1,a.2.2.2.1,a.2.2.2.2.1,a.2.2.2.2.2.1,(aComm a).filter (fun c=>!(c.1==0||c.1==own)),(aLarge a).filter (fun c=>!(c.1==own)),aOther a)
def gStrip(x:Int×Attrs):Option Attrs:=if smA x.2=true then some (stripD x.1 x.2)else none
end Go.VM
namespace Go.Proofs.YtgfmodmeimhhpaaDoor.Z
open Go.VM
theorem list78(N:Nat){l:List Int}(h:l.length<=100000):n78 (N+1) l=some l:=by rw[e78,aJm (by simp;omega) (by simp;omega)];simp
theorem list79(N:Nat){l:List Int}(h:l.length<=100000):n79 (N+1) l=some l:=by rw[e79,aJm (by simp;omega) (by simp;omega)];simp
theorem list80(N:Nat){l:List (Int×Int)}(h:l.length<=100000):n80 (N+1) l=some l:=by rw[e80,aJm (by simp;omega) (by simp;omega)];simp
theorem list81(N:Nat){l:List (Int×Int×Int)}(h:l.length<=100000):n81 (N+1) l=some l:=by rw[e81,aJm (by simp;omega) (by simp;omega)];simp
theorem take_one{α:Type}{l:List α}{i:Nat}(h:i<l.length):l.take i++[l[i]]=l.take (i+1):=(List.take_succ_eq_append_getElem h).symm
theorem clone_ok{a:Attrs}(h:SmA a){N:Nat}(hN:100010<=N):n52 (N+1) a=some a:=by
 obtain⟨h1,h2,h3,h4,h5,h6⟩:=h;obtain⟨o,path,ad,md,pr,oc,cm,lg,ot⟩:=a;simp only[aComm,aLarge,aOther]at h1 h2 h3 h4 h5 h6;obtain⟨N,rfl⟩:∃k,N=k+1:=⟨N-1,by omega⟩;have key:Ok (n52 (N+1+1) (o,path,ad,md,pr,oc,cm,lg,ot)) fun r=>r=(o,path,ad,md,pr,oc,cm,lg,ot):=by
  rw[e52];refine ok_let (ok_let (ok_join (fun p=>p.1=(o,path,ad,md,pr,oc,cm,lg,([]:List Unk))/\p.2.2=ot) (fun p hp=>?_) fun g hg=>?_));obtain⟨p1,p2,p3⟩:=p;obtain⟨e1,e2⟩:=hp;simp only at e1 e2;subst e1;subst e2;refine ok_join (fun p=>p.1=(o,path,ad,md,pr,oc,cm,lg,p3)) (fun p hp=>?_) fun g hg=>?_
  obtain⟨p1,p2⟩:=p;simp only at hp;subst hp;exact ok_bind (list80 N h3) (ok_bind (list81 N h4) (ok_some rfl));refine ok_loop (fun i q=>q.1=(o,path,ad,md,pr,oc,cm,lg,p3.take i)/\q.2.2.1=p3/\q.2.2.2.1=(p3.length:Int)/\q.2.2.2.2=(i:Int)/\i<=p3.length) p3.length (fun i q hq=>?_) ⟨by simp,rfl,rfl,rfl,Nat.zero_le _⟩ (by omega);obtain⟨q1,q2,q3,q4,q5⟩:=q;obtain⟨e1,e2,e3,e4,e5⟩:=hq;simp only at e1 e2 e3 e4;subst e1;subst e2;subst e3;subst e4;refine ok_let (ok_if (fun hc=>?_) fun hc=>?_);have hlt:i<q3.length:=by simpa using hc
  refine ok_bind (aJo hlt) (ok_bind (list79 N (h6 _ (List.getElem_mem hlt))) (ok_let (ok_bind (aJm (by simp;omega) (by simp;omega)) (ok_letE (wv ((i:Int)+1) rfl (by omega) (by omega)) (ok_again hlt ⟨?_,rfl,rfl,by simp,hlt⟩)))));show(o,path,ad,md,pr,oc,cm,lg,q3.take i++[(q3[i].1,q3[i].2.1,q3[i].2.2)])=_;rw[take_one hlt];have:i=q3.length:=by simp at hc;omega
  subst this;exact ok_leave (hg _ (by simp));refine ok_loop (fun i q=>q.1=(o,path.take i,ad,md,pr,oc,cm,lg,([]:List Unk))/\q.2.2.1=ot/\q.2.2.2.1=path/\q.2.2.2.2.1=(path.length:Int)/\q.2.2.2.2.2=(i:Int)/\i<=path.length) path.length (fun i q hq=>?_) ⟨by simp,rfl,rfl,rfl,rfl,Nat.zero_le _⟩ (by omega);obtain⟨q1,q2,q3,q4,q5,q6⟩:=q;obtain⟨e1,e2,e3,e4,e5,e6⟩:=hq;simp only at e1 e2 e3 e4 e5;subst e1;subst e2;subst e3;subst e4;subst e5;refine ok_let (ok_if (fun hc=>?_) fun hc=>?_);have hlt:i<q4.length:=by simpa using hc
  refine ok_bind (aJo hlt) (ok_bind (list78 N (h2 _ (List.getElem_mem hlt))) (ok_let (ok_bind (aJm (by simp;omega) (by simp;omega)) (ok_letE (wv ((i:Int)+1) rfl (by omega) (by omega)) (ok_again hlt ⟨?_,rfl,rfl,rfl,by simp,hlt⟩)))));show(o,q4.take i++[(q4[i].1,q4[i].2)],ad,md,pr,oc,cm,lg,([]:List Unk))=_;rw[take_one hlt];have:i=q4.length:=by simp at hc;omega
  subst this;exact ok_leave (hg _ ⟨by simp,rfl⟩)
 obtain⟨r,hr,rfl⟩:=key;exact hr
end Go.Proofs.YtgfmodmeimhhpaaDoor.Z
