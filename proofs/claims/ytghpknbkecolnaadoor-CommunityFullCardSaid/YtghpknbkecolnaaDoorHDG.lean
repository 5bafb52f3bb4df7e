/- Walked by hand: slices.DeleteFunc (rows of two). -/
import Derived.Test.YtghpknbkecolnaaDoorHIO
namespace Go.Proofs.YtghpknbkecolnaaDoor
open Go.RowKit Go.Lib Go.VM
theorem flat_take2:∀ (xs:List (List Value)) (j:Nat),(∀ x∈xs,x.length=2)→xs.flatten.take (j * 2)=(xs.take j).flatten
 | [],j,_=>by simp
 | x::r,0,_=>by simp
 | x::r,j+1,h=>by
  have hx:=h x (by simp)
  rw [List.flatten_cons,List.take_succ_cons,List.flatten_cons,← flat_take2 r j fun y hy=>h y (by simp [hy]),show (j+1) * 2=x.length+j * 2 by omega,List.take_append,List.take_of_length_le (by omega),Nat.add_sub_cancel_left]
theorem flat_len2 (xs:List (List Value)) (h:∀ x∈xs,x.length=2):xs.flatten.length=xs.length * 2:=by
 induction xs with
 | nil=>rfl
 | cons x r ih=>rw [List.flatten_cons,List.length_append,ih fun y hy=>h y (by simp [hy]),h x (by simp),List.length_cons]; omega
/-- Where the search has come to. -/
structure DelInv (p:List Value→Bool) (xs:List (List Value)) (cur:Array Value) (g:Nat) (e:TypeId) (w wr:World) (i j:Nat):Prop where
 gr:w.grownBy wr (some g)
 row:∃ dk:Array Value,wr.heap[g]?=some (.cells dk e (0,0))∧dk.size=cur.size∧dk.toList.take (i * 2)=((xs.take j).filter fun x=>!p x).flatten∧∀ k,j * 2≤k→dk[k]?=cur[k]?
 ij:i=((xs.take j).filter fun x=>!p x).length∧i < j
end Go.Proofs.YtghpknbkecolnaaDoor
