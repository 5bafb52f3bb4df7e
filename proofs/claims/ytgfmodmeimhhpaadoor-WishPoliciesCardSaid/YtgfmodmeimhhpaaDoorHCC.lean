/- Walked by hand: what the walks of slices.IndexFunc and slices.DeleteFunc share. -/
import Derived.Test.YtgfmodmeimhhpaaDoorH3
import Derived.Test.YtgfmodmeimhhpaaDoorChecked
import Derived.Laws.CopyRow
import Derived.Laws.IdiomCopy
import Derived.Laws.AppendOwn
import Derived.Laws.NewBlocks
import Derived.Deep.LoopGhost
import Derived.Shelf.SlicesQ.Load
import Derived.Lib.SlBy
import Derived.Shelf.RegionOpenPlain
import Derived.WalkKit
import Derived.Lib.Walk
import Derived.Lib.SliceRun
import Derived.Lib.Hide
import Derived.Lib.OwnBridge
import Derived.Maps.AppendAt
namespace Go.VM
theorem frozen_fz {w:World} {g i:Nat} {cur:Array Value} {t:TypeId} {fr:Nat×Nat} (hg:w.heap[g]?=some (.cells cur t fr)) (hf:Fz fr cur.size) (hi:i < cur.size):w.frozen? ⟨g,i,none⟩=false:=by
 obtain ⟨lo,hi'⟩:=fr
 simp only [World.frozen?,hg,Bool.and_eq_false_iff,decide_eq_false_iff_not]
 unfold Fz at hf
 simp only at hf
 omega
theorem run_clear_fz {P : Program} (w : World) (t e ty : TypeId) (zv : Value) (z g o n c : Nat) (cur : Array Value) (tt : TypeId) (fr : Nat × Nat) (ht : P.underlying t = some (.slice e)) (hv : ∀ w, (zeroValue e).run P w = .ok zv w) (hz : (Builtin.zeroCells zv.cells n).size = n * z) (h1 : ∀ v ∈ (Builtin.zeroCells zv.cells n).toList, v.oneCell' = true)
  (hg:w.heap[g]?=some (.cells cur tt fr)) (hf:Fz fr cur.size) (hfit:o+n * z≤cur.size) :
  (Builtin.clear_ #[t] ty #[.slice (some ⟨g,o,none⟩) n c]).run P w=.ok (.tuple #[]) (w.setRow g (cur.toList.take o++(Builtin.zeroCells zv.cells n).toList++cur.toList.drop (o+n * z)).toArray):=by
 have hst:=run_storeCells_fz P g o tt fr (Builtin.zeroCells zv.cells n).toList 0 cur w hg hf (by simpa [hz] using hfit) h1
 cases n with
 | zero =>
  have h0:(Builtin.zeroCells zv.cells 0).toList=[]:=by
   rw [← List.length_eq_zero_iff,Array.length_toList,hz,Nat.zero_mul]
  rw [h0] at hst ⊢
  simp only [List.length_nil,Nat.add_zero,List.append_nil,Nat.zero_mul,List.take_append_drop,Array.toArray_toList] at hst ⊢
  rw [setRow_self w g cur tt fr hg]
  simp [Builtin.clear_,run_underlying ht]
 | succ m =>
  simp only [Nat.add_zero,Array.length_toList,hz] at hst
  simp [Builtin.clear_,run_underlying ht,hv,hst]
end Go.VM
namespace Go.Proofs.YtgfmodmeimhhpaaDoor
open Go.RowKit Go.Lib Go.VM
/-- What is asked of a predicate: in whatever world. -/
def PredG (f:Nat) (lb:Array Value) (p:List Value→Bool) (ok:World→Prop) (el:List Value→Prop):Prop :=
 ∀ (W:World) (x:List Value),ok W→el x→Calls Tryd.prog f (#[.agg x.toArray]++lb) W fun r w'=>r=.returned (.bool (p x))∧Below W.heap.size W w'
theorem flat_len (z:Nat) (xs:List (List Value)) (h:∀ x∈xs,x.length=z):xs.flatten.length=xs.length * z:=by
 induction xs with
 | nil=>simp
 | cons x r ih=>rw [List.flatten_cons,List.length_append,ih fun y hy=>h y (by simp [hy]),h x (by simp),List.length_cons,Nat.add_mul]; omega
theorem idx_cases (p:List Value→Bool):∀ (l:List (List Value)) (i:Nat),(Lib.idxByFrom (fun _ y=>p y) ([]:List Value) l i=-1∧∀ x∈l,p x=false)∨∃ k,k < l.length∧Lib.idxByFrom (fun _ y=>p y) ([]:List Value) l i=((i+k:Nat):Int)∧p l[k]! = true∧∀ x∈l.take k,p x=false
 | [],_=>.inl ⟨rfl,fun x hx=>by cases hx⟩
 | y::r,i=>by
  cases h:p y with
  | true=>exact .inr ⟨0,by simp,by simp [Lib.idxByFrom,h],by simpa using h,fun x hx=>by simp at hx⟩
  | false =>
   rcases idx_cases p r (i+1) with ⟨e,ha⟩ | ⟨k,hk,e,ht,ha⟩
   · exact .inl ⟨by simp [Lib.idxByFrom,h,e],fun x hx=>by rcases List.mem_cons.1 hx with rfl | hx; exact h; exact ha x hx⟩
   · refine .inr ⟨k+1,by simpa using hk,?_,by simpa using ht,fun x hx=>?_⟩
     · simp only [Lib.idxByFrom,h]
       rw [show (if false=true then (i:Int) else Lib.idxByFrom (fun _ y=>p y) ([]:List Value) r (i+1))=Lib.idxByFrom (fun _ y=>p y) ([]:List Value) r (i+1) from rfl,e]
       congr 1; omega
     · rw [List.take_succ_cons] at hx
       rcases List.mem_cons.1 hx with rfl | hx
       · exact h
       · exact ha x hx
theorem grownBy_refl (w:World) (r:Option Nat):w.grownBy w r:=⟨rfl,rfl,rfl,Nat.le_refl _,fun _ _ _=>rfl⟩
theorem grownBy_trans {a b c:World} {r:Option Nat} (h:a.grownBy b r) (k:b.grownBy c r):a.grownBy c r:=⟨k.os.trans h.os,k.tape.trans h.tape,k.output.trans h.output,Nat.le_trans h.size k.size,fun i hi hr=>(k.block i (Nat.lt_of_lt_of_le hi h.size) hr).trans (h.block i hi hr)⟩
theorem grownBy_below {a b:World} {r:Option Nat} (h:Below a.heap.size a b):a.grownBy b r:=⟨h.os,h.tape,h.output,h.size,fun i hi _=>h.block i hi⟩
theorem take_keep {p:List Value→Bool} {xs:List (List Value)} {j:Nat} {x:List Value} (hj:j < xs.length) (hx:xs[j]! = x) (hp:p x=false):((xs.take (j+1)).filter fun x=>!p x)=((xs.take j).filter fun x=>!p x)++[x]:=by
 rw [List.take_succ_eq_append_getElem hj,List.filter_append]
 rw [getElem!_pos xs j hj] at hx
 rw [hx]
 simp [hp]
theorem take_skip {p:List Value→Bool} {xs:List (List Value)} {j:Nat} {x:List Value} (hj:j < xs.length) (hx:xs[j]! = x) (hp:p x=true):((xs.take (j+1)).filter fun x=>!p x)=((xs.take j).filter fun x=>!p x):=by
 rw [List.take_succ_eq_append_getElem hj,List.filter_append]
 rw [getElem!_pos xs j hj] at hx
 rw [hx]
 simp [hp]
theorem setCell_row (w:World) (g i:Nat) (dk:Array Value) (e:TypeId) (fr:Nat×Nat) (v:Value) (h:w.heap[g]?=some (.cells dk e fr)):(w.setCell ⟨g,i,none⟩ v).heap[g]?=some (.cells (dk.setIfInBounds i v) e fr)∧w.grownBy (w.setCell ⟨g,i,none⟩ v) (some g):=by
 rw [setCell_eq_setRow w g i dk e fr v h]
 refine ⟨setRow_heap w g dk _ e fr h,rfl,rfl,rfl,?_,fun k hk hne=>?_⟩
 · show _≤(w.heap.modify g _).size
   rw [Array.size_modify]; exact Nat.le_refl _
 · show (w.heap.modify g _)[k]?=_
   rw [Array.getElem?_modify,if_neg (fun h=>hne (by rw [h]))]
end Go.Proofs.YtgfmodmeimhhpaaDoor
