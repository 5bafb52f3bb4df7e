/- Chapter 17, plainly: small functions; which lists are valid. -/
import Derived.Test.YtajoneenakjifaaGreatDoorT31
import Derived.Test.YtajoneenakjifaaGreatDoorT34
import Derived.Test.YtajoneenakjifaaGreatDoorT35
import Derived.Test.YtajoneenakjifaaGreatDoorNE2
namespace Go.Proofs.YtajoneenakjifaaGreatDoor
open Go.VM Go.Txt
set_option maxRecDepth 10000
theorem mod_ok (N:Nat) {a b:Int} (hb:0 < b) (hb2:b≤9223372036854775807):∃ r,n24 (N+1) (a,b)=some r∧0≤r∧r < b:=by
 refine ⟨a % b,?_,Int.emod_nonneg _ (by omega),Int.emod_lt_of_pos _ hb⟩
 rw [e24]
 have h0:b≠0:=by omega
 simp only [↓aKO,h0,if_false,aKI,aJY,aJz,decide_eq_true_eq]
 have h1:=Int.mul_tdiv_add_tmod a b
 have h2:=Int.tmod_lt_of_pos a hb
 have h3:=Int.lt_tmod_of_pos a hb
 have h4:a % b=a.tmod b % b:=by
  conv=>lhs; rw [← h1,Int.add_comm,Int.add_mul_emod_self_left]
 by_cases hn:a.tmod b < 0
 · rw [if_pos hn,pV (by omega) (by omega),h4]
   rw [← Int.add_emod_right,Int.emod_eq_of_lt (by omega) (by omega)]
 · rw [if_neg hn,h4,Int.emod_eq_of_lt (by omega) (by omega)]
/- the deck -/
abbrev Dk:=List Int×Int
def DK (d:Dk):Prop:=0≤d.2∧d.2≤d.1.length∧d.1.length≤9223372036854775807
theorem DK0 {l:List Int} (h:l.length≤9223372036854775807):DK (l,0):=⟨Int.le_refl _,by show (0:Int)≤l.length; omega,h⟩
theorem next_ok (N:Nat) {d:Dk} (hd:DK d) {b:Int} (hb:0 < b) (hb2:b≤9223372036854775807):∃ v d',n17 (N+2) (d,b)=some (v,d')∧0≤v∧v < b∧DK d':=by
 obtain ⟨l,i⟩:=d
 obtain ⟨h1,h2,h3⟩:=hd
 simp only at h1 h2 h3
 rw [e17]
 simp only [↓aKO,aJz,decide_eq_true_eq,aJO,ge_iff_le]
 by_cases hi:(l.length:Int)≤i
 · rw [if_pos hi]
   exact ⟨0,(l,i),rfl,by omega,hb,h1,h2,h3⟩
 · rw [if_neg hi,pV (n:=i+1) (by omega) (by omega),pV (n:=i+1 - 1) (by omega) (by omega)]
   obtain ⟨n,rfl⟩:=Int.eq_ofNat_of_zero_le h1
   rw [show (n:Int)+1 - 1=(n:Int) by omega,aJo (l:=l) (n:=n) (by omega)]
   obtain ⟨r,hr,r1,r2⟩:=mod_ok N (a:=l[n]'(by omega)) hb hb2
   simp only [↓aKO,aKI,hr]
   exact ⟨r,(l,(n:Int)+1),rfl,r1,r2,by simp only [DK]; omega⟩
end Go.Proofs.YtajoneenakjifaaGreatDoor
