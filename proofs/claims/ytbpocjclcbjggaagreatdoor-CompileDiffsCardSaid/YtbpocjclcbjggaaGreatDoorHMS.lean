/- Maps to true as sets: what a look-up and a store come to. -/
import Derived.Test.YtbpocjclcbjggaaGreatDoorH3
import Derived.MapKept
import Derived.WideKeyRuns
import Derived.ChangeMaps4
namespace Go.VM
open Go.RowKit Go.ChangeMaps
variable{P:Program}
def fndK{α:Type}[DecidableEq α](x:α):List α->List MapEntry->Nat->Option (Nat×Value)
 |y::l,e::es,i=>if x=y then some (i,e.val)else fndK x l es (i+1)
 |_,_,_=>none
/-- What is asked of the keys' type. -/
structure KeyE(P:Program)(k:TypeId){α:Type}[DecidableEq α](enc:α->Value):Prop where
 chk:∀e x w,(Instr.checkKey e 10000 k (enc x)).run P w=.ok () w
 find:∀(x:α) (l:List α) (es:List MapEntry),es.map (·.key)=l.map enc->∀w,(Instr.findKey k (enc x) es).run P w=.ok (fndK x l es 0) w
 bits:∀x,Instr.sameBits 10000 (enc x) (enc x)=true
section
variable{k:TypeId}{α:Type}[DecidableEq α]{enc:α->Value}
/-- Block b is a map of which l are the keys. -/
def SetW(enc:α->Value)(w:World)(b:Nat)(l:List α):Prop:=∃es clock,w.heap[b]?=some (.map es clock)/\es.toList.map (·.key)=l.map enc/\∀e∈es.toList,e.val=.bool true
structure OnlyB(b:Nat)(w w':World):Prop where
 os:w'.os=w.os
 tape:w'.tape=w.tape
 output:w'.output=w.output
 size:w'.heap.size=w.heap.size
 block:∀c,c≠b->w'.heap[c]?=w.heap[c]?
def putS(x:α)(l:List α):List α:=if x∈l then l else l++[x]
theorem fndK_none{x:α}:∀{l:List α} {es:List MapEntry} {i:Nat},x∉l->fndK x l es i=none
 |[],_,_,_=>by unfold fndK;rfl
 |y::l,[],_,_=>rfl
 |y::l,e::es,i,h=>by
  unfold fndK;rw[if_neg (fun q=>h (by simp[q]))];exact fndK_none fun q=>h (by simp[q])
theorem fndK_some{x:α}:∀{l:List α} {es:List MapEntry} {i:Nat},x∈l->es.length=l.length->∃j e,fndK x l es i=some (i+j,e.val)/\es[j]?=some e/\l[j]?=some x
 |[],_,_,h,_=>by cases h
 |y::l,[],_,_,h=>by simp at h
 |y::l,e::es,i,h,hl=>by
  unfold fndK;by_cases q:x=y
  .rw[if_pos q];exact⟨0,e,rfl,rfl,by rw[q];rfl⟩
  .rw[if_neg q];obtain⟨j,e',h1,h2,h3⟩:=fndK_some (i:=i+1) (by simpa[q]using h) (by simpa using hl);exact⟨j+1,e',by rw[h1];congr 2;omega,by simpa using h2,by simpa using h3⟩
omit [DecidableEq α] in
theorem SetW.len{w:World}{b:Nat}{l:List α}{es:Array MapEntry}(h:es.toList.map (·.key)=l.map enc):es.toList.length=l.length:=by simpa using congrArg List.length h
theorem SetW.look{t e:TypeId}{w:World}{b:Nat}{l:List α}(h:SetW enc w b l)(K:KeyE P k enc)(ht:P.underlying t=some (.map k e))(hz:∀w,(zeroValue e).run P w=.ok (.bool false) w)(x:α) :
  (Instr.lookup t (.map (some b)) (enc x) false).run P w=.ok (.bool (decide (x∈l))) w:=by
 obtain⟨es,clock,h1,h2,h3⟩:=h;have hf:=K.find x l es.toList h2;by_cases hx:x∈l
 .obtain⟨j,e',q1,q2,q3⟩:=fndK_some (i:=0) hx (SetW.len (w:=w) (b:=b) h2);rw[q1]at hf;simp[Instr.lookup,run_underlying ht,MapKept.run_getObj_map h1,K.chk,hf,hx,h3 e' (List.mem_of_getElem? q2)]
 .rw[fndK_none hx]at hf;simp[Instr.lookup,run_underlying ht,MapKept.run_getObj_map h1,K.chk,hf,hx,hz]
theorem SetW.put{t e:TypeId}{w:World}{b:Nat}{l:List α}(h:SetW enc w b l)(K:KeyE P k enc)(ht:P.underlying t=some (.map k e))(x:α) :
  ∃w',(Instr.mapUpdate t (.map (some b)) (enc x) (.bool true)).run P w=.ok () w'/\SetW enc w' b (putS x l)/\OnlyB b w w':=by
 obtain⟨es,clock,h1,h2,h3⟩:=h;have hf:=K.find x l es.toList h2;have hb:=(Array.getElem?_eq_some_iff.1 h1).1;have only:∀o,OnlyB b w {w with heap:=w.heap.setIfInBounds b o}:=fun o=>⟨rfl,rfl,rfl,by simp,fun c hc=>by
  show(w.heap.setIfInBounds b o)[c]?=_;rw[Array.getElem?_setIfInBounds,if_neg (Ne.symm hc)]⟩
 have at_b:∀o,({w with heap:=w.heap.setIfInBounds b o}:World).heap[b]?=some o:=fun o=>by
  show(w.heap.setIfInBounds b o)[b]?=_;rw[Array.getElem?_setIfInBounds,if_pos rfl,if_pos hb]
 by_cases hx:x∈l
 .obtain⟨j,e',q1,q2,q3⟩:=fndK_some (i:=0) hx (SetW.len (w:=w) (b:=b) h2);rw[q1]at hf;simp only[Nat.zero_add]at hf;have hk:e'.key=enc x:=by
   have:=congrArg (fun m:List Value=>m[j]?) h2;simp only[List.getElem?_map,q2,q3,Option.map_some,Option.some.injEq]at this;exact this
  have q2':es[j]?=some e':=by simpa using q2
  refine⟨_,?_,⟨es.modify j (fun e=>{e with key:=enc x,val:=.bool true}),clock,at_b _,?_,?_⟩,only _⟩
  .simp[Instr.mapUpdate,run_underlying ht,MapKept.run_getObj_map h1,K.chk,hf,q2',hk,Instr.keyThatStays,K.bits,MapKept.run_setObj_map _ h1]
  .rw[putS,if_pos hx,<-h2];apply List.ext_getElem?;intro i;simp only[List.getElem?_map,Array.toList_modify,List.getElem?_modify];by_cases hij:j=i
   .subst hij;rw[q2];simp[hk]
   .simp[hij]
  .intro e2 he2;simp only[Array.toList_modify]at he2;obtain⟨i,hi,rfl⟩:=List.mem_iff_getElem.1 he2;rw[List.getElem_modify];split
   .rfl
   .exact h3 _ (List.getElem_mem _)
 .rw[fndK_none hx]at hf;refine⟨_,?_,⟨es.push {key:=enc x,val:=.bool true,born:=clock},clock+1,at_b _,?_,?_⟩,only _⟩
  .simp[Instr.mapUpdate,run_underlying ht,MapKept.run_getObj_map h1,K.chk,hf,MapKept.run_setObj_map _ h1]
  .rw[putS,if_neg hx];simp[h2]
  .intro e2 he2;simp only[Array.toList_push,List.mem_append,List.mem_singleton]at he2;rcases he2 with he2|rfl
   .exact h3 _ he2
   .rfl
omit [DecidableEq α] in
theorem SetW.new(enc:α->Value)(w:World):SetW enc (w.alloc (.map #[] 0)) w.heap.size []:=⟨#[],0,heap_alloc_new w _,rfl,fun e h=>by simp at h⟩
omit [DecidableEq α] in
theorem SetW.of_block{w w':World}{b:Nat}{l:List α}(h:SetW enc w b l)(hb:w'.heap[b]?=w.heap[b]?):SetW enc w' b l:=by
 obtain⟨es,clock,h1,h2⟩:=h;exact⟨es,clock,hb.trans h1,h2⟩
omit [DecidableEq α] in
theorem SetW.lt{w:World}{b:Nat}{l:List α}(h:SetW enc w b l):b<w.heap.size:=by
 obtain⟨es,clock,h1,_⟩:=h;exact(Array.getElem?_eq_some_iff.1 h1).1
/-- Numbers,texts and the like. -/
theorem keyE_now{d:TypeDesc}(hd:P.underlying k=some d)(hk:∀x,MapKept.IsKey d (enc x))(hs:∀x y,Instr.sameNow d (enc x) (enc y)=some (decide (x=y)))(hb:∀x,Instr.sameBits 10000 (enc x) (enc x)=true):KeyE P k enc:=by
 refine⟨fun e x w=>MapKept.run_checkKey hd (hk x) e 9999,fun x l es h w=>MapKept.run_findKey hd ?_,hb⟩;generalize 0=i
 induction es generalizing l i with
 |nil=>cases l<;>simp[Instr.findNow,fndK]
 |cons e es ih=>
  cases l with
  |nil=>simp at h
  |cons y l=>
   simp only[List.map_cons,List.cons.injEq]at h;simp only[Instr.findNow,fndK,h.1,hs];by_cases q:x=y
   .simp[q]
   .simp[q,ih l h.2 (i+1)]
/-- Structs and arrays. -/
theorem keyE_wide(hwide:(match P.underlying k with|some (.array _ _)|some (.struct _)=>true|_=>false)=true)(hc:∀e x w,(Instr.checkKey e 10000 k (enc x)).run P w=.ok () w)(hs:∀x y w,(Op.equal k (enc x) (enc y)).run P w=.ok (decide (x=y)) w)(hb:∀x,Instr.sameBits 10000 (enc x) (enc x)=true):KeyE P k enc:=by
 refine⟨hc,fun x l es h w=>?_,hb⟩;rw[run_findKey_eq w hwide];generalize 0=i
 induction es generalizing l i with
 |nil=>cases l<;>simp[Instr.findAsking,fndK]
 |cons e es ih=>
  cases l with
  |nil=>simp at h
  |cons y l=>
   simp only[List.map_cons,List.cons.injEq]at h;simp only[Instr.findAsking,fndK,h.1,Sem.run_bind,hs,Result.andThen_ok];by_cases q:x=y
   .simp[q]
   .simp[q,ih l h.2 (i+1)]
end
end Go.VM
