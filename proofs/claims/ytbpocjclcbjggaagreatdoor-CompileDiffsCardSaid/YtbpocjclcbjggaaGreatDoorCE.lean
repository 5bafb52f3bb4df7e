/- Chapter 09, plainly: the addresses drawn lie within the nets. -/
import Derived.Test.YtbpocjclcbjggaaGreatDoorCC
namespace Go.Proofs.YtbpocjclcbjggaaGreatDoor
open Go.VM
set_option maxRecDepth 10000
def eqA(x y:AddrT):Bool:=false != ((x.1==y.1)&&((x.2.1==y.2.1)&&(x.2.2==y.2.2)))
def cast4:AddrT:=(false,0,3221226239)
theorem net116{N:Nat}(hN:200<=N){n:Nat}(h:n<15):n116 N (lan4,fourV n)=some true/\n116 N (lan6,sixV n)=some true:=
 ⟨aGj (T:=TN) hN 116 (lan4,fourV n) true (evN (T:=Bool) (f:=fun n=>n116 200 (lan4,fourV n)) (g:=fun _=>true) (b:=15) (by kernel_rfl) h),
  aGj (T:=TN) hN 116 (lan6,sixV n) true (evN (T:=Bool) (f:=fun n=>n116 200 (lan6,sixV n)) (g:=fun _=>true) (b:=15) (by kernel_rfl) h)⟩
theorem cast117{N:Nat}(hN:200<=N):n117 N lan4=some cast4:=by
 have k1:isS (T:=AddrT) (n117 200 lan4) cast4=true:=by kernel_rfl
 exact aGj (T:=TN) hN 117 lan4 cast4 (isS_eq (T:=AddrT) k1)
theorem far{n:Nat}(h:n<15):eqA (fourV n) lan4.1=false/\eqA (fourV n) cast4=false/\eqA (sixV n) lan6.1=false:=by
 have k1:(List.range 15).all (fun n=>!eqA (fourV n) lan4.1&&(!eqA (fourV n) cast4&&!eqA (sixV n) lan6.1))=true:=by kernel_rfl
 have:=List.all_eq_true.1 k1 n (List.mem_range.2 h);simpa using this
theorem out74{N:Nat}(hN:200<=N){d:DbT}(h:DbAt d):n74 (N+3) d=some false:=by
 have h7:=h.le;have hok:=h.ok;have h49:=all49 (N:=N+1) h;obtain⟨d1,d2,S,M⟩:=d;obtain rfl:d1=lan4:=h.l4;obtain rfl:d2=lan6:=h.l6;refine ok_get ?_;rw[e74];refine ok_bind h49 ?_;clear h49 h;generalize hD:((lan4,lan6,S,M):DbT)=D at *;have hD1:D.1=lan4:=by rw[<-hD]
 have hD2:D.2.1=lan6:=by rw[<-hD]
 clear hD;generalize allM D=L at *;refine ok_join (fun _=>True) (fun _ _=>ok_some rfl) fun g hg=>?_
 refine ok_loop (fun i q=>q=(D,L,(L.length:Int),(i:Int))/\i<=L.length) L.length (fun i q ⟨e1,hi⟩=>?_) ⟨rfl,Nat.zero_le _⟩ (by omega);subst e1;refine ok_let (ok_if (fun hc=>?_) fun hc=>ok_leave (hg _ trivial));have hlt:i<L.length:=by simpa using hc
 have hm:=hok _ (List.getElem_mem hlt);refine ok_join (fun q=>q=(D,L,(L.length:Int),(i:Int))) (fun q hq=>by subst hq;exact ok_letE (w:=((i+1:Nat):Int)) (wv _ rfl (by omega) (by omega)) (ok_again hlt ⟨rfl,hlt⟩)) fun g2 hg2=>?_
 refine ok_bind (aJo hlt) ?_;generalize L[i]=m at hm;have hml:=hm.len;have hmp:=hm.ps;refine ok_join (fun q=>q=(D,L,(L.length:Int),(i:Int))) (fun q hq=>hg2 _ hq) fun g3 hg3=>?_
 show Ok (eG _ _ (D,L,(L.length:Int),(i:Int),poL m,((poL m).length:Int),0)) _;generalize poL m=P at *;refine ok_loop (fun j q=>q=(D,L,(L.length:Int),(i:Int),P,(P.length:Int),(j:Int))/\j<=P.length) P.length (fun j q ⟨e1,hj⟩=>?_) ⟨rfl,Nat.zero_le _⟩ (by omega);subst e1;refine ok_let (ok_if (fun hc=>?_) fun hc=>ok_leave (hg3 _ rfl));have hjt:j<P.length:=by simpa using hc
 refine ok_bind (aJo hjt) ?_;obtain⟨k,k1,k2,r,kd,cp,ma,ad,l1,l2,l3,l4,l5,hp⟩:=hmp _ (List.getElem_mem hjt);rw[hp];obtain⟨x1,x2,x3⟩:=far (n:=k) (by omega);obtain⟨y1,y2⟩:=net116 (N:=N+1) (by omega) (n:=k) (by omega);have y3:=cast117 (N:=N+1) (by omega);have fin:∀{R:Type} {I:Nat->(DbT×(List MemT×(Int×(Int×(List PortT×(Int×Int))))))->Prop} {Q:R->Prop},I (j+1) (D,L,(L.length:Int),(i:Int),P,(P.length:Int),((j+1:Nat):Int))->Ok (aJy (IntKind.i64.wrap ((j:Int)+1)) fun v=>tN (D,L,(L.length:Int),(i:Int),P,(P.length:Int),v)) (Round P.length j I Q):=fun hI=>ok_letE (w:=((j+1:Nat):Int)) (wv _ rfl (by omega) (by omega)) (ok_again hjt hI)
 -- the address of the fourth kind
 refine ok_bind' (P:=fun b=>(b=true/\v4L (portV k r kd cp ma ad)=z3)\/(b=false/\v4L (portV k r kd cp ma ad)=fourV k)) ?_ fun v14 h14=>?_
 .match ad,l5 with
  |0,_=>exact ok_eq (f115 _ (by omega)) (.inr ⟨rfl,rfl⟩)
  |1,_=>exact ok_eq (z115 _) (.inl ⟨rfl,rfl⟩)
  |2,_=>exact ok_eq (f115 _ (by omega)) (.inr ⟨rfl,rfl⟩)
 · have t6 : Ok ((n115 (N + 2) (v6L (portV k r kd cp ma ad)))) fun b => (b = true ∧ v6L (portV k r kd cp ma ad) = z3) ∨ (b = false ∧ v6L (portV k r kd cp ma ad) = sixV k) := by
     match ad,l5 with
     |0,_=>exact ok_eq (z115 _) (.inl ⟨rfl,rfl⟩)
     |1,_=>exact ok_eq (s115 _ (by omega)) (.inr ⟨rfl,rfl⟩)
     |2,_=>exact ok_eq (s115 _ (by omega)) (.inr ⟨rfl,rfl⟩)
   change Ok ((bif !v14 then n116 (N+2) (D.1,v4L (portV k r kd cp ma ad))else some false).bind _) _
   refine ok_bind' (P:=fun b=>b=!v14) ?_ fun v15 h15=>?_
   .rcases h14 with⟨rfl,h⟩|⟨rfl,h⟩
    .exact ok_eq (bifF rfl rfl) rfl
    .rw[h,hD1];exact ok_eq (bifT rfl (net116 (by omega) (by omega)).1) rfl
   subst h15;refine ok_letE (w:=eqA (v4L (portV k r kd cp ma ad)) D.1.1) rfl (ok_letE (w:=v14) ?_ ?_)
   .rcases h14 with⟨rfl,h⟩|⟨rfl,h⟩
    .rfl
    .rw[h,hD1,x1];rfl
   refine ok_bind' (P:=fun a=>v14=false->a=cast4) ?_ fun v18 h18=>ok_letE (w:=eqA (v4L (portV k r kd cp ma ad)) v18) rfl (ok_letE (w:=false) ?_ (ok_if (fun h=>by cases h) fun _=>?_))
   .rcases h14 with⟨rfl,h⟩|⟨rfl,h⟩
    .exact ok_eq (bifF rfl rfl) fun h=>by cases h
    .rw[hD1];exact ok_eq (bifT rfl (cast117 (by omega))) fun _=>rfl
   .rcases h14 with⟨rfl,h⟩|⟨rfl,h⟩
    .rfl
    .rw[h,h18 rfl,x2];rfl
   refine ok_bind' t6 fun v21 h21=>?_
   change Ok ((bif !v21 then n116 (N+2) (D.2.1,v6L (portV k r kd cp ma ad))else some false).bind _) _
   refine ok_bind' (P:=fun b=>b=!v21) ?_ fun v22 h22=>?_
   .rcases h21 with⟨rfl,h⟩|⟨rfl,h⟩
    .exact ok_eq (bifF rfl rfl) rfl
    .rw[h,hD2];exact ok_eq (bifT rfl (net116 (by omega) (by omega)).2) rfl
   subst h22;refine ok_letE (w:=eqA (v6L (portV k r kd cp ma ad)) D.2.1.1) rfl (ok_letE (w:=v21) ?_ (ok_letE (w:=false) ?_ (ok_if (fun h=>by cases h) fun _=>fin ⟨rfl,hjt⟩)))
   .rcases h21 with⟨rfl,h⟩|⟨rfl,h⟩
    .rfl
    .rw[h,hD2,x3];rfl
   .cases v21<;>rfl
end Go.Proofs.YtbpocjclcbjggaaGreatDoor
