/- What 'different' and 'twice' come to; the five sets in memory. -/
import Derived.Test.YtbpocjclcbjggaaGreatDoorHTA
namespace Go.Proofs.YtbpocjclcbjggaaGreatDoor
open Go.RowKit Go.Lib Go.VM
def foldO{β σ:Type}(f:β->σ->Option σ):List β->σ->Option σ
 |[],s=>some s
 |x::l,s=>match f x s with
  |none=>none
  |some t=>foldO f l t
theorem foldO_drop{β σ:Type}{f:β->σ->Option σ}{l:List β}{i:Nat}(hi:i<l.length)(s:σ):foldO f (l.drop i) s=match f l[i] s with
  |none=>none
  |some t=>foldO f (l.drop (i+1)) t:=by rw[List.drop_eq_getElem_cons hi];rfl
theorem foldO_no{β σ:Type}{f:β->σ->Option σ}{l:List β}{i:Nat}(hi:i<l.length){s:σ}{r:Option σ}(h:foldO f (l.drop i) s=r)(hf:f l[i] s=none):r=none:=by
 rw[foldO_drop hi,hf]at h;exact h.symm
theorem foldO_ok{β σ:Type}{f:β->σ->Option σ}{l:List β}{i:Nat}(hi:i<l.length){s t:σ}{r:Option σ}(h:foldO f (l.drop i) s=r)(hf:f l[i] s=some t):foldO f (l.drop (i+1)) t=r:=by
 rw[foldO_drop hi,hf]at h;exact h
theorem foldO_end{β σ:Type}{f:β->σ->Option σ}{l:List β}{s:σ}{r:Option σ}(h:foldO f (l.drop l.length) s=r):r=some s:=by
 rw[List.drop_length]at h;exact h.symm
def zA:AddrT:=(false,0,0)
def putA(a:AddrT)(A:List AddrT):List AddrT:=if a=zA then A else putS a A
abbrev T3:=List Int×List AddrT×List MacT
def twSrv(f:Int)(m:MemT)(S:List Int):Option (List Int):=if m.1=f then some (putS m.1 S)else none
def twMem(m:MemT)(S:List Int):Option (List Int):=if m.1∈S then none else some (putS m.1 S)
def twMac(x:MacT)(D:List MacT):Option (List MacT):=if x∈D then none else some (putS x D)
def twPo(p:PortT)(s:T3):Option T3:=if p.1∈s.1\/v4L p∈s.2.1\/v6L p∈s.2.1 then none else match foldO twMac (maL p) s.2.2 with
 |none=>none
 |some D=>some (putS p.1 s.1,putA (v6L p) (putA (v4L p) s.2.1),D)
def twMe(m:MemT)(s:List (List UInt8)×T3):Option (List (List UInt8)×T3):=if m.2.1∈s.1 then none else match foldO twPo (poL m) s.2 with
 |none=>none
 |some t=>some (putS m.2.1 s.1,t)
def twRest(d:DbT)(o:Option (List Int)):Bool:=match o with
 |none=>true
 |some S=>match foldO twMem (mem d) S with
  |none=>true
  |some _=>(foldO twMe (allM d) ([],[],[],[])).isNone
def firstA(d:DbT):Int:=match srv d with
 |[]=>0
 |m::_=>m.1
/-- What 'twice' comes to. -/
def twD(d:DbT):Bool:=twRest d (foldO (twSrv (firstA d)) (srv d) [])
structure TwW(w wr:World)(dc:Array Value)(S:List Int)(N:List (List UInt8))(I:List Int)(D:List MacT)(A:List AddrT):Prop where
 bel:Below w.heap.size w wr
 big:w.heap.size+6<=wr.heap.size
 box:wr.heap[w.heap.size]?=some (.cells dc 30)
 s1:SetW encI wr (w.heap.size+1) S
 s2:SetW encS wr (w.heap.size+2) N
 s3:SetW encI wr (w.heap.size+3) I
 s4:SetW encM wr (w.heap.size+4) D
 s5:SetW encA wr (w.heap.size+5) A
section
variable{w wr w2:World}{dc:Array Value}{S I:List Int}{N:List (List UInt8)}{D:List MacT}{A:List AddrT}
theorem TwW.go(h:TwW w wr dc S N I D A)(hb:Below wr.heap.size wr w2):TwW w w2 dc S N I D A:=by
 have hg:=h.big;have e:∀k,k<6->w2.heap[w.heap.size+k]?=wr.heap[w.heap.size+k]?:=fun k hk=>hb.block _ (by omega)
 exact⟨h.bel.trans (hb.mono h.bel.size),Nat.le_trans hg hb.size,(e 0 (by omega)).trans h.box,h.s1.of_block (e 1 (by omega)),h.s2.of_block (e 2 (by omega)),h.s3.of_block (e 3 (by omega)),h.s4.of_block (e 4 (by omega)),h.s5.of_block (e 5 (by omega))⟩
theorem OnlyB.below{b B:Nat}(h:OnlyB b w w2)(hb:B<=b):Below B w w2:=⟨h.os,h.tape,h.output,Nat.le_of_eq h.size.symm,fun k hk=>h.block k (by omega)⟩
theorem TwW.put(h:TwW w wr dc S N I D A){k:Nat}(hk:1<=k/\k<=5)(o:OnlyB (w.heap.size+k) wr w2){S' I':List Int}{N':List (List UInt8)}{D':List MacT}{A':List AddrT}
  (h1:if k=1 then SetW encI w2 (w.heap.size+1) S' else S'=S) (h2:if k=2 then SetW encS w2 (w.heap.size+2) N' else N'=N) (h3:if k=3 then SetW encI w2 (w.heap.size+3) I' else I'=I)
  (h4:if k=4 then SetW encM w2 (w.heap.size+4) D' else D'=D) (h5:if k=5 then SetW encA w2 (w.heap.size+5) A' else A'=A):TwW w w2 dc S' N' I' D' A':=by
 have e:∀j,j≠k->w2.heap[w.heap.size+j]?=wr.heap[w.heap.size+j]?:=fun j hj=>o.block _ (by omega)
 refine⟨h.bel.trans (OnlyB.below o (by omega)),by rw[o.size];exact h.big,(e 0 (by omega)).trans h.box,?_,?_,?_,?_,?_⟩
 .split at h1
  .exact h1
  .subst h1;exact h.s1.of_block (e 1 (by omega))
 .split at h2
  .exact h2
  .subst h2;exact h.s2.of_block (e 2 (by omega))
 .split at h3
  .exact h3
  .subst h3;exact h.s3.of_block (e 3 (by omega))
 .split at h4
  .exact h4
  .subst h4;exact h.s4.of_block (e 4 (by omega))
 .split at h5
  .exact h5
  .subst h5;exact h.s5.of_block (e 5 (by omega))
end
theorem _root_.Go.VM.SetW.lookT{P:Program}{k t e:TypeId}{α:Type}[DecidableEq α]{enc:α->Value}{w:World}{b:Nat}{l:List α}(h:SetW enc w b l)(K:KeyE P k enc)(ht:P.underlying t=some (.map k e))(hz:∀w,(zeroValue e).run P w=.ok (.bool false) w)(x:α)(hx:x∈l) :
  (Instr.lookup t (.map (some b)) (enc x) false).run P w=.ok (.bool true) w:=by rw[h.look K ht hz x,decide_eq_true hx]
theorem _root_.Go.VM.SetW.lookF{P:Program}{k t e:TypeId}{α:Type}[DecidableEq α]{enc:α->Value}{w:World}{b:Nat}{l:List α}(h:SetW enc w b l)(K:KeyE P k enc)(ht:P.underlying t=some (.map k e))(hz:∀w,(zeroValue e).run P w=.ok (.bool false) w)(x:α)(hx:x∉l) :
  (Instr.lookup t (.map (some b)) (enc x) false).run P w=.ok (.bool false) w:=by rw[h.look K ht hz x,decide_eq_false hx]
/-- Whatever is a row of cells is as it was. -/
def CK(w W:World):Prop:=∀(b:Nat) (cs:Array Value) (t:TypeId) (fr:Nat×Nat),w.heap[b]?=some (.cells cs t fr)->W.heap[b]?=some (.cells cs t fr)
theorem CK.refl(w:World):CK w w:=fun _ _ _ _ h=>h
theorem CK.trans{a b c:World}(h:CK a b)(k:CK b c):CK a c:=fun _ _ _ _ q=>k _ _ _ _ (h _ _ _ _ q)
theorem CK.below{w W:World}(h:Below w.heap.size w W):CK w W:=fun b _ _ _ q=>(h.block b (Array.getElem?_eq_some_iff.1 q).1).trans q
theorem CK.only{α:Type}{enc:α->Value}{l:List α}{w W:World}{b:Nat}(h:OnlyB b w W)(hs:SetW enc w b l):CK w W:=fun c _ _ _ q=>by
 rw[h.block c fun e=>?_]
 .exact q
 .subst e;obtain⟨es,clock,h1,_⟩:=hs;rw[q]at h1;cases h1
theorem CK.row{w W:World}(h:CK w W){a:Addr}{rows:List Value}(hr:Row w a rows):Row W a rows:=fun j u hj=>by
 have:=hr j u hj;unfold World.cell? at this ⊢;split at this
 .rename_i cs t fr q;rw[h _ _ _ _ q];exact this
 .cases this
theorem CK.hc{w W:World}(h:CK w W){Q:Nat->Prop}{t:Ty}{x:t.den}{cs:List Value}(hc:HC w Q t x cs):HC W Q t x cs:=hc_mono (fun _ q=>q) (fun _ _ hr _=>h.row hr) hc
/- members,ports and stations' addresses in memory -/
structure MemAt(W:World)(a:Addr)(m:MemT)(o:Option Addr)(k c:Nat):Prop where
 e0:W.cell? a=some (.int .i64 m.1)
 e1:W.cell? ⟨a.block,a.off+1,none⟩=some (.string ⟨m.2.1.toArray⟩)
 e2:W.cell? ⟨a.block,a.off+2,none⟩=some (.string ⟨m.2.2.1.toArray⟩)
 e3:W.cell? ⟨a.block,a.off+3,none⟩=some (.int .i64 m.2.2.2.1)
 e4:W.cell? ⟨a.block,a.off+4,none⟩=some (.int .i64 m.2.2.2.2.1)
 e5:W.cell? ⟨a.block,a.off+5,none⟩=some (.slice o k c)
structure PoAt(W:World)(a:Addr)(p:PortT)(o:Option Addr)(k c:Nat):Prop where
 e0:W.cell? a=some (.int .i64 p.1)
 e1:W.cell? ⟨a.block,a.off+1,none⟩=some (.int .i64 p.2.1)
 e2:W.cell? ⟨a.block,a.off+2,none⟩=some (.int .i64 p.2.2.1)
 e3:W.cell? ⟨a.block,a.off+3,none⟩=some (.slice o k c)
 e4:W.cell? ⟨a.block,a.off+4,none⟩=some (.bool (v4L p).1)
 e5:W.cell? ⟨a.block,a.off+5,none⟩=some (.int .u64 (v4L p).2.1)
 e6:W.cell? ⟨a.block,a.off+6,none⟩=some (.int .u64 (v4L p).2.2)
 e7:W.cell? ⟨a.block,a.off+7,none⟩=some (.bool (v6L p).1)
 e8:W.cell? ⟨a.block,a.off+8,none⟩=some (.int .u64 (v6L p).2.1)
 e9:W.cell? ⟨a.block,a.off+9,none⟩=some (.int .u64 (v6L p).2.2)
structure MacAt(W:World)(a:Addr)(m:MacT):Prop where
 e0:W.cell? a=some (.int .u8 m.1)
 e1:W.cell? ⟨a.block,a.off+1,none⟩=some (.int .u8 m.2.1)
 e2:W.cell? ⟨a.block,a.off+2,none⟩=some (.int .u8 m.2.2.1)
 e3:W.cell? ⟨a.block,a.off+3,none⟩=some (.int .u8 m.2.2.2.1)
 e4:W.cell? ⟨a.block,a.off+4,none⟩=some (.int .u8 m.2.2.2.2.1)
 e5:W.cell? ⟨a.block,a.off+5,none⟩=some (.int .u8 m.2.2.2.2.2)
section
variable{w:World}{o:Option Addr}{n c:Nat}
theorem sl_len{Q:Nat->Prop}{t:Ty}{l:List t.den}(h:HC w Q (.sl t) l [.slice o n c]):n=l.length:=by
 rcases hc_slice h with⟨h1,h2⟩|⟨a,cap,rows,h1,_⟩
 .cases h2;rw[h1];rfl
 .cases h1;rfl
theorem sl_some{Q:Nat->Prop}{t:Ty}{l:List t.den}(h:HC w Q (.sl t) l [.slice o n c])(hn:0<l.length):∃a,o=some a:=by
 rcases hc_slice h with⟨h1,h2⟩|⟨a,cap,rows,h1,_⟩
 .rw[h1]at hn;cases hn
 .cases h1;exact⟨_,rfl⟩
theorem hc_sh{Q:Nat->Prop}{t:Ty}{l:List t.den}{u:Value}(h:HC w Q (.sl t) l [u]):∃o n c,u=.slice o n c:=by
 rcases hc_slice h with⟨_,h2⟩|⟨a,cap,rows,h1,_⟩<;>exact⟨_,_,_,by assumption⟩
/-- The i-th element of a row. -/
theorem sl_at{t:Ty}{l:List t.den}{a:Addr}{Q:Nat->Prop}(h:HC w Q (.sl t) l [.slice (some a) n c]){i:Nat}(hi:i<l.length) :
  ∃cs,HC w Q t l[i] cs/\∀W,CK w W->∀j v,cs[j]?=some v->W.cell? ((a.add (i*t.size)).add j)=some v:=by
 rcases hc_slice h with⟨h1,h2⟩|⟨a,cap,rows,h1,h2,h3,h4,h5,h6⟩
 .cases h2
 .cases h1;obtain⟨cs,k1,k2,k3⟩:=hrows_at (fun x c hx=>hc_len hx) hi h5;exact⟨cs,k1,fun W hb j v hj=>by
   rw[Addr.add_add];exact hb.row h4 _ v ((k3 j (by rw[<-k2];exact(List.getElem?_eq_some_iff.1 hj).1)).trans hj)⟩
theorem mem_at{l:List MemT}{a:Addr}{Q:Nat->Prop}(h:HC w Q (.sl tyMe) l [.slice (some a) n c]){i:Nat}(hi:i<l.length) :
  ∃o k c',HC w Q (.sl tyPo) (poL l[i]) [.slice o k c']/\∀W,CK w W->MemAt W (a.add (i*6)) l[i] o k c':=by
 obtain⟨cs,h1,h2⟩:=sl_at h hi;obtain⟨u,rfl,h3⟩:=hc_me h1;obtain⟨o,k,c',rfl⟩:=hc_sh h3;exact⟨o,k,c',h3,fun W hb=>⟨h2 W hb 0 _ rfl,h2 W hb 1 _ rfl,h2 W hb 2 _ rfl,h2 W hb 3 _ rfl,h2 W hb 4 _ rfl,h2 W hb 5 _ rfl⟩⟩
theorem po_at{l:List PortT}{a:Addr}{Q:Nat->Prop}(h:HC w Q (.sl tyPo) l [.slice (some a) n c]){i:Nat}(hi:i<l.length) :
  ∃o k c',HC w Q (.sl tyMac) (maL l[i]) [.slice o k c']/\∀W,CK w W->PoAt W (a.add (i*10)) l[i] o k c':=by
 obtain⟨cs,h1,h2⟩:=sl_at h hi;obtain⟨u,rfl,h3⟩:=hc_po h1;obtain⟨o,k,c',rfl⟩:=hc_sh h3;exact⟨o,k,c',h3,fun W hb=>⟨h2 W hb 0 _ rfl,h2 W hb 1 _ rfl,h2 W hb 2 _ rfl,h2 W hb 3 _ rfl,h2 W hb 4 _ rfl,h2 W hb 5 _ rfl,h2 W hb 6 _ rfl,h2 W hb 7 _ rfl,h2 W hb 8 _ rfl,h2 W hb 9 _ rfl⟩⟩
theorem mac_at{l:List MacT}{a:Addr}{Q:Nat->Prop}(h:HC w Q (.sl tyMac) l [.slice (some a) n c]){i:Nat}(hi:i<l.length):∀W,CK w W->MacAt W (a.add (i*6)) l[i]:=by
 obtain⟨cs,h1,h2⟩:=sl_at h hi;have:=hc_mac h1;subst this;exact fun W hb=>⟨h2 W hb 0 _ rfl,h2 W hb 1 _ rfl,h2 W hb 2 _ rfl,h2 W hb 3 _ rfl,h2 W hb 4 _ rfl,h2 W hb 5 _ rfl⟩
end
end Go.Proofs.YtbpocjclcbjggaaGreatDoor
