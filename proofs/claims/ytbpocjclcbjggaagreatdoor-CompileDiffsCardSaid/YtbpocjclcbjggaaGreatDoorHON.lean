/- Walked by hand: once. -/
import Derived.Test.YtbpocjclcbjggaaGreatDoorHTW
namespace Go.Proofs.YtbpocjclcbjggaaGreatDoor
open Go.RowKit Go.Lib Go.VM
def hasS{α:Type}[DecidableEq α](x:α)(l:List α):Bool:=decide (x∈l)
/-- But for block b all that there was is as it was. -/
structure OnlyG(b:Nat)(w w':World):Prop where
 os:w'.os=w.os
 tape:w'.tape=w.tape
 output:w'.output=w.output
 size:w.heap.size<=w'.heap.size
 block:∀c,c<w.heap.size->c≠b->w'.heap[c]?=w.heap[c]?
theorem OnlyG.of{b:Nat}{w w':World}(h:OnlyB b w w'):OnlyG b w w':=⟨h.os,h.tape,h.output,Nat.le_of_eq h.size.symm,fun c _ hc=>h.block c hc⟩
theorem OnlyG.after{b:Nat}{w w1 w':World}(hb:Below w.heap.size w w1)(h:OnlyB b w1 w'):OnlyG b w w':=⟨h.os.trans hb.os,h.tape.trans hb.tape,h.output.trans hb.output,by rw[h.size];exact hb.size,fun c hc hne=>(h.block c hne).trans (hb.block c hc)⟩
def OncePost{α:Type}[DecidableEq α](enc:α->Value)(b:Nat)(l:List α)(x:α)(W:World)(r:Ending)(W':World):Prop:=r=.returned (.bool (!hasS x l))/\SetW enc W' b (putS x l)/\OnlyG b W W'
theorem OnlyG.below{b B:Nat}{w w2:World}(h:OnlyG b w w2)(hb:B<=b)(hB:B<=w.heap.size):Below B w w2:=⟨h.os,h.tape,h.output,h.size,fun k hk=>h.block k (by omega) (by omega)⟩
theorem CK.onlyG{α:Type}{enc:α->Value}{l:List α}{w W:World}{b:Nat}(h:OnlyG b w W)(hs:SetW enc w b l):CK w W:=fun c _ _ _ q=>by
 rw[h.block c (Array.getElem?_eq_some_iff.1 q).1 fun e=>?_]
 .exact q
 .subst e;obtain⟨es,clock,h1,_⟩:=hs;rw[q]at h1;cases h1
section
variable{w wr w2:World}{dc:Array Value}{S I:List Int}{N:List (List UInt8)}{D:List MacT}{A:List AddrT}
theorem TwW.putG(h:TwW w wr dc S N I D A){k:Nat}(hk:1<=k/\k<=5)(o:OnlyG (w.heap.size+k) wr w2){S' I':List Int}{N':List (List UInt8)}{D':List MacT}{A':List AddrT}
  (h1:if k=1 then SetW encI w2 (w.heap.size+1) S' else S'=S) (h2:if k=2 then SetW encS w2 (w.heap.size+2) N' else N'=N) (h3:if k=3 then SetW encI w2 (w.heap.size+3) I' else I'=I)
  (h4:if k=4 then SetW encM w2 (w.heap.size+4) D' else D'=D) (h5:if k=5 then SetW encA w2 (w.heap.size+5) A' else A'=A):TwW w w2 dc S' N' I' D' A':=by
 have hg:=h.big;have e:∀j,j<6->j≠k->w2.heap[w.heap.size+j]?=wr.heap[w.heap.size+j]?:=fun j hj6 hj=>o.block _ (by omega) (by omega)
 refine⟨h.bel.trans (OnlyG.below o (by omega) (by omega)),Nat.le_trans hg o.size,(e 0 (by omega) (by omega)).trans h.box,?_,?_,?_,?_,?_⟩
 .split at h1
  .exact h1
  .subst h1;exact h.s1.of_block (e 1 (by omega) (by omega))
 .split at h2
  .exact h2
  .subst h2;exact h.s2.of_block (e 2 (by omega) (by omega))
 .split at h3
  .exact h3
  .subst h3;exact h.s3.of_block (e 3 (by omega) (by omega))
 .split at h4
  .exact h4
  .subst h4;exact h.s4.of_block (e 4 (by omega) (by omega))
 .split at h5
  .exact h5
  .subst h5;exact h.s5.of_block (e 5 (by omega) (by omega))
end
set_option maxHeartbeats 2000000 in
set_option maxRecDepth 100000 in
theorem once_106(b:Nat)(l:List (Int))(x:Int)(W:World)(hs:SetW encI W b l):Calls Tryz.prog 106 #[.map (some b),.int .i64 x] W (OncePost encI b l x W):=by
 have hs1:SetW encI W b l:=hs;have hl:(Instr.lookup 146 (.map (some b)) (.int .i64 x) false).run Tryz.prog W=.ok (.bool (hasS x l)) W:=hs1.look keyI Tryz.underlying146 zeroB x;have HP:Aside (∃w',(Instr.mapUpdate 146 (.map (some b)) (.int .i64 x) (.bool true)).run Tryz.prog W=.ok () w'/\(SetW encI w' b (putS x l)/\OnlyG b W w')):=by
  obtain⟨w',q1,q2,q3⟩:=hs1.put keyI Tryz.underlying146 x;exact⟨w',q1,q2,OnlyG.of q3⟩
 clear hs hs1
 go_enter Tryz.func106,Tryz.ntmps106
 go_wp2_with (at_mapUpdate;refine wpList_put_ex (by rfl) _ _ _ 146 (by rfl) _ _ _ (by rfl) (by rfl) (by rfl) HP.out ?_;rintro w7 hp7;have K7:=Lib.hid hp7;clear hp7)
 go_ret
 exact⟨rfl,K7.out.1,K7.out.2⟩
set_option maxHeartbeats 2000000 in
set_option maxRecDepth 100000 in
theorem once_107(b:Nat)(l:List (List UInt8))(x:List UInt8)(W:World)(hs:SetW encS W b l):Calls Tryz.prog 107 #[.map (some b),.string ⟨x.toArray⟩] W (OncePost encS b l x W):=by
 have hs1:SetW encS W b l:=hs;have hl:(Instr.lookup 147 (.map (some b)) (.string ⟨x.toArray⟩) false).run Tryz.prog W=.ok (.bool (hasS x l)) W:=hs1.look keyS Tryz.underlying147 zeroB x;have HP:Aside (∃w',(Instr.mapUpdate 147 (.map (some b)) (.string ⟨x.toArray⟩) (.bool true)).run Tryz.prog W=.ok () w'/\(SetW encS w' b (putS x l)/\OnlyG b W w')):=by
  obtain⟨w',q1,q2,q3⟩:=hs1.put keyS Tryz.underlying147 x;exact⟨w',q1,q2,OnlyG.of q3⟩
 clear hs hs1
 go_enter Tryz.func107,Tryz.ntmps107
 go_wp2_with (at_mapUpdate;refine wpList_put_ex (by rfl) _ _ _ 147 (by rfl) _ _ _ (by rfl) (by rfl) (by rfl) HP.out ?_;rintro w7 hp7;have K7:=Lib.hid hp7;clear hp7)
 go_ret
 exact⟨rfl,K7.out.1,K7.out.2⟩
set_option maxHeartbeats 2000000 in
set_option maxRecDepth 100000 in
theorem once_108(b:Nat)(l:List (MacT))(x:MacT)(W:World)(hs:SetW encM W b l):Calls Tryz.prog 108 #[.map (some b),.agg #[.int .u8 x.1,.int .u8 x.2.1,.int .u8 x.2.2.1,.int .u8 x.2.2.2.1,.int .u8 x.2.2.2.2.1,.int .u8 x.2.2.2.2.2]] W (OncePost encM b l x W):=by
 have hs1:SetW encM (W.alloc (.cells #[.int .u8 x.1,.int .u8 x.2.1,.int .u8 x.2.2.1,.int .u8 x.2.2.2.1,.int .u8 x.2.2.2.2.1,.int .u8 x.2.2.2.2.2] 51)) b l:=hs.of_block (Go.heap_alloc_old W _ hs.lt);have hl:(Instr.lookup 148 (.map (some b)) (.agg #[.int .u8 x.1,.int .u8 x.2.1,.int .u8 x.2.2.1,.int .u8 x.2.2.2.1,.int .u8 x.2.2.2.2.1,.int .u8 x.2.2.2.2.2]) false).run Tryz.prog (W.alloc (.cells #[.int .u8 x.1,.int .u8 x.2.1,.int .u8 x.2.2.1,.int .u8 x.2.2.2.1,.int .u8 x.2.2.2.2.1,.int .u8 x.2.2.2.2.2] 51))=.ok (.bool (hasS x l)) (W.alloc (.cells #[.int .u8 x.1,.int .u8 x.2.1,.int .u8 x.2.2.1,.int .u8 x.2.2.2.1,.int .u8 x.2.2.2.2.1,.int .u8 x.2.2.2.2.2] 51)):=hs1.look keyM Tryz.underlying148 zeroB x;have HP:Aside (∃w',(Instr.mapUpdate 148 (.map (some b)) (.agg #[.int .u8 x.1,.int .u8 x.2.1,.int .u8 x.2.2.1,.int .u8 x.2.2.2.1,.int .u8 x.2.2.2.2.1,.int .u8 x.2.2.2.2.2]) (.bool true)).run Tryz.prog (W.alloc (.cells #[.int .u8 x.1,.int .u8 x.2.1,.int .u8 x.2.2.1,.int .u8 x.2.2.2.1,.int .u8 x.2.2.2.2.1,.int .u8 x.2.2.2.2.2] 51))=.ok () w'/\(SetW encM w' b (putS x l)/\OnlyG b W w')):=by
  obtain⟨w',q1,q2,q3⟩:=hs1.put keyM Tryz.underlying148 x;exact⟨w',q1,q2,OnlyG.after (alloc_below _ _) q3⟩
 clear hs hs1
 go_enter Tryz.func108,Tryz.ntmps108
 go_wp2_with (at_mapUpdate;refine wpList_put_ex (by rfl) _ _ _ 148 (by rfl) _ _ _ (by rfl) (by rfl) (by rfl) HP.out ?_;rintro w7 hp7;have K7:=Lib.hid hp7;clear hp7)
 go_ret
 exact⟨rfl,K7.out.1,K7.out.2⟩
set_option maxHeartbeats 2000000 in
set_option maxRecDepth 100000 in
theorem once_109(b:Nat)(l:List (AddrT))(x:AddrT)(W:World)(hs:SetW encA W b l):Calls Tryz.prog 109 #[.map (some b),.agg #[.bool x.1,.int .u64 x.2.1,.int .u64 x.2.2]] W (OncePost encA b l x W):=by
 have hs1:SetW encA (W.alloc (.cells #[.bool x.1,.int .u64 x.2.1,.int .u64 x.2.2] 25)) b l:=hs.of_block (Go.heap_alloc_old W _ hs.lt);have hl:(Instr.lookup 149 (.map (some b)) (.agg #[.bool x.1,.int .u64 x.2.1,.int .u64 x.2.2]) false).run Tryz.prog (W.alloc (.cells #[.bool x.1,.int .u64 x.2.1,.int .u64 x.2.2] 25))=.ok (.bool (hasS x l)) (W.alloc (.cells #[.bool x.1,.int .u64 x.2.1,.int .u64 x.2.2] 25)):=hs1.look keyA Tryz.underlying149 zeroB x;have HP:Aside (∃w',(Instr.mapUpdate 149 (.map (some b)) (.agg #[.bool x.1,.int .u64 x.2.1,.int .u64 x.2.2]) (.bool true)).run Tryz.prog (W.alloc (.cells #[.bool x.1,.int .u64 x.2.1,.int .u64 x.2.2] 25))=.ok () w'/\(SetW encA w' b (putS x l)/\OnlyG b W w')):=by
  obtain⟨w',q1,q2,q3⟩:=hs1.put keyA Tryz.underlying149 x;exact⟨w',q1,q2,OnlyG.after (alloc_below _ _) q3⟩
 clear hs hs1
 go_enter Tryz.func109,Tryz.ntmps109
 go_wp2_with (at_mapUpdate;refine wpList_put_ex (by rfl) _ _ _ 149 (by rfl) _ _ _ (by rfl) (by rfl) (by rfl) HP.out ?_;rintro w7 hp7;have K7:=Lib.hid hp7;clear hp7)
 go_ret
 exact⟨rfl,K7.out.1,K7.out.2⟩
end Go.Proofs.YtbpocjclcbjggaaGreatDoor
