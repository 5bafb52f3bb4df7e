/- Chapter 01, plainly: what AddrTexts asks. -/
import Derived.Test.YtlgnmgbnbomckaaGreatDoorQM
import Derived.Test.YtlgnmgbnbomckaaGreatDoorQZ
namespace Go.Proofs.YtlgnmgbnbomckaaGreatDoor
open Go.VM Go.Txt
set_option maxRecDepth 10000
theorem spoilt_ok (N:Nat) {b:List Int} (hb:b.length≤1000) (at' by':Int):∃ r,n22 (N+2) (b,at',by')=some r∧r.length≤b.length+1:=by
 rw [e22]
 have h0:aH3 1 ([]:List Int) b=some b:=aJm (l:=[]) (by simp only [List.length_nil]; omega) (by simp only [List.length_nil]; omega)
 by_cases he:b=[]
 · subst he
   exact ⟨_,bindB h0 (bifT rfl (letB rfl rfl)),by simp⟩
 have hl:0 < b.length:=List.length_pos_iff.2 he
 have hne:(aJO b==(0:Int))=false:=by unfold aJO; simp; exact he
 obtain ⟨k,hk,k0,k1⟩:=mod_ok N (a:=at') (b:=aJO b) (by unfold aJO; omega) (by unfold aJO; omega)
 unfold aJO at k1
 obtain ⟨q,hq,q0,q1⟩:=mod_ok N (a:=IntKind.i64.wrap (Int.tdiv by' 256)) (b:=4) (by omega) (by omega)
 obtain ⟨k,rfl⟩:=Int.eq_ofNat_of_zero_le k0
 have htk:aEV b (k:Int)=some (b.take k):=aJ0 (by omega)
 have ltk:(b.take k).length≤b.length:=by rw [List.length_take]; omega
 by_cases h1:q=0
 · subst h1
   refine ⟨_,bindB h0 (bifF hne (bindB hk (letB rfl (bindB hq (bifT rfl (bindB (aJo (by omega)) (letB rfl rfl))))))),?_⟩
   rw [List.length_set]; omega
 by_cases h2:q=1
 · subst h2
   have hdp:aEW b ((k+1:Nat):Int)=some (b.drop (k+1)):=aJ1 (by omega)
   have ldp:(b.drop (k+1)).length≤b.length:=by rw [List.length_drop]; omega
   refine ⟨b.take k++b.drop (k+1),bindB h0 (bifF hne (bindB hk (letB rfl (bindB hq (bifF rfl (bifT rfl (bindB htk (letB (v:=((k+1:Nat):Int)) (wv _ (by omega) (by omega) (by omega)) (bindB hdp (bindB (aJm (by omega) (by omega)) rfl)))))))))),?_⟩
   rw [List.length_append,List.length_take,List.length_drop]; omega
 by_cases h3:q=2
 · subst h3
   have hdp:aEW b (k:Int)=some (b.drop k):=aJ1 (by omega)
   have ldp:(b.drop k).length≤b.length:=by rw [List.length_drop]; omega
   have a1:aH3 1 ([]:List Int) (b.take k)=some (b.take k):=aJm (l:=[]) (by simp only [List.length_nil]; omega) (by simp only [List.length_nil]; omega)
   refine ⟨b.take k++[IntKind.u8.wrap by']++b.drop k,bindB h0 (bifF hne (bindB hk (letB rfl (bindB hq (bifF rfl (bifF rfl (bifT rfl (bindB htk (bindB a1 (letB rfl (bindB (aJm (by simp only [List.length_singleton]; omega) (by simp only [List.length_singleton]; omega)) (bindB hdp (bindB (aJm (by simp only [List.length_append,List.length_singleton]; omega) (by simp only [List.length_append,List.length_singleton]; omega)) rfl))))))))))))),?_⟩
   simp only [List.length_append,List.length_singleton,List.length_take,List.length_drop]; omega
 · have b1:(q==0)=false:=by simpa using h1
   have b2:(q==1)=false:=by simpa using h2
   have b3:(q==2)=false:=by simpa using h3
   exact ⟨b.take k,bindB h0 (bifF hne (bindB hk (letB rfl (bindB hq (bifF b1 (bifF b2 (bifF b3 (bindB htk rfl)))))))),by omega⟩
theorem u64_of {x:Int} (h:IntKind.u64.min≤x∧x≤IntKind.u64.max):U64 x:=⟨h.1,Int.lt_of_le_of_lt h.2 (by decide)⟩
end Go.Proofs.YtlgnmgbnbomckaaGreatDoor
