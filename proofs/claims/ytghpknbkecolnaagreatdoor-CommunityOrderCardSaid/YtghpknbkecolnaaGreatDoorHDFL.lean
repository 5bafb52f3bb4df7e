/- Walked by hand: slices.IndexFunc (rows of three). -/
import Derived.Test.YtghpknbkecolnaaGreatDoorHINL
import Derived.Deep.LoopGhost
import Derived.Shelf.SlicesQ.Load
import Derived.Lib.SlBy
namespace Go.Proofs.YtghpknbkecolnaaGreatDoor
namespace HL
open Go.RowKit Go.Lib Go.VM
/-- What is asked of a predicate: in whatever world. -/
def PredG (f:Nat) (lb:Array Value) (p:List Value→Bool) (ok:World→Prop) (el:List Value→Prop):Prop :=
 ∀ (W:World) (x:List Value),ok W→el x→Calls Tryz.prog f (#[.agg x.toArray]++lb) W fun r w'=>r=.returned (.bool (p x))∧Below W.heap.size W w'
set_option maxHeartbeats 4000000 in
set_option maxRecDepth 100000 in
theorem idx_fn (f : Nat) (lb : Array Value) (p : List Value → Bool) (ok : World → Prop) (el : List Value → Prop) (eg : ∀ args w, (callFunc f args).run Tryz.prog w = .ok (.enter f args) w) (hp : PredG f lb p ok el)
  (g n c:Nat) (xs:List (List Value)) (w:World) (hob:∀ W,Below w.heap.size w W→ok W) (hlen:xs.length=n) (hel:∀ x∈xs,el x∧x.length=3) (hg:g < w.heap.size) (hn:n≤4294967295)
  (hc:∀ j,j < xs.length→∀ k v,(xs[j]!)[k]?=some v→w.cell? ⟨g,j * 3+k,none⟩=some v) :
  Calls Tryz.prog 102 #[.slice (some ⟨g,0,none⟩) n c,.func (.func f) #[] lb] w fun r w'=>r=.returned (.int .i64 (Lib.idxBy (fun _ y=>p y) xs []))∧Below w.heap.size w w':=by
 have u22:∀ w,Sem.run Tryz.prog (underlying 23) w=.ok (TypeDesc.slice 51) w:=run_underlying Tryz.underlying23
 have hxl:∀ j,j < xs.length→el xs[j]! ∧ xs[j]!.length=3:=fun j hj=>by rw [getElem!_pos xs j hj]; exact hel _ (List.getElem_mem _)
 have hrow:∀ (W:World),Below w.heap.size w W→∀ j,j < xs.length→∃ a b b2,xs[j]! = [a,b,b2]∧W.cell? ⟨g,j * 3,none⟩=some a∧W.cell? ⟨g,j * 3+1,none⟩=some b∧W.cell? ⟨g,j * 3+2,none⟩=some b2:=fun W hW j hj=>by
  have h2:=(hxl j hj).2
  have h3:=hc j hj
  match xs[j]!,h2,h3 with
  | [a,b,b2],_,h3=>exact ⟨a,b,b2,rfl,by rw [hW.cell (p:=⟨g,j * 3,none⟩) hg]; exact h3 0 a rfl,by rw [hW.cell (p:=⟨g,j * 3+1,none⟩) hg]; exact h3 1 b rfl,by rw [hW.cell (p:=⟨g,j * 3+2,none⟩) hg]; exact h3 2 b2 rfl⟩
 have hcall':∀ (W:World),Below w.heap.size w W→∀ j,j < xs.length→Calls Tryz.prog f (#[.agg (xs[j]!).toArray]++lb) W fun r w'=>r=.returned (.bool (p xs[j]!))∧Below W.heap.size W w':=fun W hW j hj=>hp W _ (hob W hW) (hxl j hj).1
 subst hlen
 clear hc hp hob hel hxl
 go_enter Tryz.func102,Tryz.ntmps102
 go_wp2
 go_loopg [5,8] xs.length (fun gg _ s8 wr=>∃ kk:Nat,kk≤xs.length∧xs.length - kk≤gg∧s8=.int .i64 kk∧Aside (Below w.heap.size w wr)∧Aside (∀ j,j < kk→p xs[j]! = false))
 case atStart=>exact ⟨0,Nat.zero_le _,by omega,rfl,Below.refl _ w,fun j hj=>absurd hj (Nat.not_lt_zero _)⟩
 case round =>
  obtain ⟨kk,hkk,hgg,rfl,BW,A⟩:=hrel
  by_cases hlt:kk < xs.length
  · have hltz:(kk:Int) < (xs.length:Int):=by omega
    obtain ⟨a,b,b2,hy,l0,l1,l1b⟩:=hrow wr BW.out kk (by omega)
    have hcall:=hcall' wr BW.out kk (by omega)
    clear hrow hcall'
    rw [hy] at hcall
    have B:Aside (xs[kk]! = [a,b,b2]):=hy
    clear hy
    cases hq:p [a,b,b2] with
    | true =>
     rw [hq] at hcall
     go_wp2_with (go_at_fn f; refine hcall.mono ?_; rintro e w' ⟨rfl,hb'⟩)
     go_ret
     refine ⟨?_,BW.out.trans (hb'.mono BW.out.size)⟩
     have:=Lib.idxBy_hit (fun _ y=>p y) xs xs.length kk [] hlt (Nat.le_refl _) (by show p xs[kk]! = true; rw [B.out]; exact hq) A.out
     rw [List.take_length] at this
     rw [this]
     rfl
    | false =>
     rw [hq] at hcall
     go_wp2_with (go_at_fn f; refine hcall.mono ?_; rintro e w' ⟨rfl,hb'⟩)
     go_roundg (xs.length - (kk+1))
     case measure=>omega
     case rel =>
      refine ⟨kk+1,by omega,by omega,by go_num,BW.out.trans (hb'.mono BW.out.size),(show Aside _ from fun j hj=>?_)⟩
      by_cases e:j=kk
      · subst e
        rw [B.out]; exact hq
      · exact A.out j (by omega)
  · have hltz:¬ (kk:Int) < (xs.length:Int):=by omega
    have:kk=xs.length:=by omega
    subst this
    go_wp2
    go_ret
    refine ⟨?_,BW.out⟩
    have:=Lib.idxBy_miss (fun _ y=>p y) xs xs.length [] A.out
    rw [List.take_length] at this
    rw [this]
    rfl
end HL
end Go.Proofs.YtghpknbkecolnaaGreatDoor
