/- Walked by hand: Prepend. -/
import Derived.Test.YtajoneenakjifaaGreatDoorHC1
namespace Go.Proofs.YtajoneenakjifaaGreatDoor
open Go.RowKit Go.Lib Go.VM
/-- What is asked of the functions that are called. -/
structure CallsOk (w:World):Prop where
 valid:∀ (L:List Seg) (v:Value) (W:World),Below w.heap.size w W→Mid L→HV W (fun b=>b < W.heap.size) (.sl tyS) L v→Calls Tryz.prog 22 #[v] W fun e W'=>e=.returned (.bool (pvd L))∧Below W.heap.size W W'
 print:∀ (L:List Seg) (v:Value) (W:World),Below w.heap.size w W→pvd L=true→HV W (fun b=>b < W.heap.size) (.sl tyS) L v→Calls Tryz.prog 9 #[v] W fun e W'=>(∃ t:ByteArray,e=.returned (.string t)∧t.data.toList=prt L)∧Below W.heap.size W W'
 rvalid:∀ (L:List Seg) (v:Value) (W:World),Below w.heap.size w W→Mid L→HV W (fun b=>b < W.heap.size) (.sl tyS) L v→Calls Tryz.prog 19 #[v] W fun e W'=>e=.returned (.bool (pvd L))∧Below W.heap.size W W'
 rprint:∀ (L:List Seg) (v:Value) (W:World),Below w.heap.size w W→Mid L→HV W (fun b=>b < W.heap.size) (.sl tyS) L v→Calls Tryz.prog 8 #[v] W fun e W'=>(∃ t:ByteArray,e=.returned (.string t)∧t.data.toList=if pvd L=true then prt L else [])∧Below W.heap.size W W'
 dcm:∀ (s:ByteArray) (W:World),Below w.heap.size w W→s.data.toList.length≤100000→Calls Tryz.prog 30 #[.string s] W fun e W'=>e=.returned (.tuple #[.int .i64 (dec s.data.toList).1,.bool (dec s.data.toList).2])∧Below W.heap.size W W'
theorem hv_next {w W:World} {L:List Seg} {v:Value} (hv:HV w (fun b=>b < w.heap.size) (.sl tyS) L v) (hb:Below w.heap.size w W):HV W (fun b=>b < W.heap.size) (.sl tyS) L v :=
 ⟨hc_mono (fun b h=>Nat.lt_of_lt_of_le h hb.size) (fun a rows hr hq=>by
  by_cases h0:rows=[]
  · subst h0; intro j u hu; simp at hu
  · exact hr.keep fun j _=>World.cell?_of_block (by rw [bM]; exact hb.block _ (hq h0))) hv.1,hv.2⟩
/-- Numbers aT a row of the call's own. -/
theorem app_G (W : World) (base : Nat) (v : Value) (xs : List Int) (hown : ownG W base 1 v xs.length (intC xs)) (u : Value) (l : List Int) (hu : HC W (fun b => b < W.heap.size) (.sl (.int .i64)) l [u]) (hbase : base ≤ W.heap.size) (hb : xs.length + l.length ≤ 1000000) (ty : TypeId) :
  ∃ v' w',(Builtin.append_ #[23,23] ty #[v,u]).run Tryz.prog W=.ok v' w'∧ownG w' base 1 v' (xs++l).length (intC (xs++l))∧W.grownBy w' v.ownBlock∧(v'.ownBlock=v.ownBlock∨v'.ownBlock=some W.heap.size):=by
 obtain ⟨i0,hi0,hz0,hzs,hzb⟩:=info_parts info_i
 rcases hc_slice hu with ⟨rfl,rfl⟩ | ⟨a,cap,rows,rfl,h1,h2,h3,h4,h5⟩
 · have : (Builtin.append_ #[23, 23] ty #[v, .slice none 0 0]).run Tryz.prog W = .ok v W := by
     rcases hown.shape with ⟨rfl,_⟩ | ⟨g,c,rfl⟩
     · simp [Builtin.append_,run_underlying Tryz.underlying23,sizeOf,typeInfo,hi0,Builtin.lenOf,Builtin.firstCells]
     · have hc:=(ownG.row hown).2.1
       simp [Builtin.append_,run_underlying Tryz.underlying23,sizeOf,typeInfo,hi0,Builtin.lenOf,Builtin.firstCells,hc,storeCells]
   exact ⟨v,W,this,by rw [List.append_nil]; exact hown,grown_none (Below.refl _ _) _,.inl rfl⟩
 · have e:=hrows_ints h4
   subst e
   obtain ⟨v',w',q1,q2,q3,_,q5⟩:=run_append_G (P:=Tryz.prog) W base 23 ty 3 i0 (.int .i64 0) 1 8 Tryz.underlying23 hi0 hz0 hzs hzb rfl (by decide) v xs.length (intC xs) hown a l.length cap (intC l) (by rw [intC_len]; omega) h3 (intC_one l) (by unfold maxLen; omega) (by omega) hbase
   refine ⟨v',w',q1,?_,q3,q5⟩
   rw [List.length_append]
   have:intC (xs++l)=intC xs++intC l:=List.map_append
   rw [this]; exact q2
end Go.Proofs.YtajoneenakjifaaGreatDoor
