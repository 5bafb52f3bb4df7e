/- Walked by hand: without (rows of two). -/
import Derived.Test.YtghpknbkecolnaaDoorHDG
import Derived.Deep.LoopGhost
import Derived.Shelf.SlicesQ.Load
import Derived.Lib.SlBy
import Derived.Lib.OwnBridge
namespace Go.Proofs.YtghpknbkecolnaaDoor
open Go.RowKit Go.Lib Go.VM
set_option maxHeartbeats 2000000 in
set_option maxRecDepth 100000 in
theorem clone_own (ad : Addr) (n c : Nat) (news : List Value) (w : World) (hl : news.length = n * 2) (hn : n ≤ 4294967295)
  (hc:∀ j u,news[j]?=some u→w.cell? (ad.add j)=some u) (h1:∀ u∈news,u.oneCell'=true) :
  Calls Tryd.prog 23 #[.slice (some ad) n c] w fun r w'=>∃ v',r=.returned v'∧w'.ownsRow w.heap.size 30 2 v' n news∧v'≠.slice none 0 0∧Below w.heap.size w w':=by
 obtain ⟨i0,hi0,hz0,hzs,hzb⟩:=info_parts info_e
 have A:Aside (∀ j u,news[j]?=some u→w.cell? (ad.add j)=some u):=hc
 have q22:∀ (w:World) (a:Option Addr) (n c n' c':Nat),(binOp .eql 24 (.slice a n c) (.slice none n' c')).run Tryd.prog w=.ok (.bool a.isNone) w:=fun w a n c n' c'=>Lib.run_eql_slice_nil w _ _ a n c n' c' Tryd.underlying24
 clear hc
 go_enter Tryd.func23,Tryd.ntmps23
 go_wp2_with (at_builtin; refine wpList_append_own _ rfl _ _ 24 rfl w.heap.size 30 i0 (.agg #[.int .i64 0,.int .i64 0]) 2 16 Tryd.underlying24 hi0 hz0 hzs hzb rfl (by omega) _ _ _ rfl (World.ownsRow_made w #[] 0 (Nat.le_refl _) (Nat.zero_le _) (by simp)) ad n c news rfl ?qc1 ?qc2 ?qc3 ?qc4 ?qc5 ?qc6 ?_)
 case qc1=>exact hl
 case qc2 =>
  intro j u hj
  exact Lib.cell?_alloc_some _ (A.out j u hj)
 case qc3=>exact h1
 case qc4=>rw [Nat.zero_add]; unfold maxLen; omega
 case qc5=>rw [Nat.zero_add]; omega
 case qc6=>simp
 intro v' w1 hown hgrow hnil
 go_wp2
 go_ret
 refine ⟨v',rfl,by simpa using hown,?_,?_⟩
 · exact hnil
 · exact ((Below.refl _ w).alloc (Nat.le_refl _) _).grown hgrow (by simp) (by intro k hk; simp [Value.ownBlock] at hk; omega)
theorem clone_nil (n c:Nat) (w:World):Calls Tryd.prog 23 #[.slice none n c] w fun r w'=>r=.returned (.slice none 0 0)∧w=w':=by
 have q22:∀ (w:World) (a:Option Addr) (n c n' c':Nat),(binOp .eql 24 (.slice a n c) (.slice none n' c')).run Tryd.prog w=.ok (.bool a.isNone) w:=fun w a n c n' c'=>Lib.run_eql_slice_nil w _ _ a n c n' c' Tryd.underlying24
 go_enter Tryd.func23,Tryd.ntmps23
 go_wp2
 go_ret
 exact ⟨rfl,rfl⟩
/-- The cells of pairs. -/
def cellsC (l:List (Int×Int)):List (List Value):=l.map fun c=>[.int .i64 c.1,.int .i64 c.2]
end Go.Proofs.YtghpknbkecolnaaDoor
