/- Chapter 15, plainly: what AspathReads asks. -/
import Derived.Test.YtajoneenakjifaaDoorEE
namespace Go.Proofs.YtajoneenakjifaaDoor
open Go.VM
set_option maxRecDepth 10000
theorem modE (N:Nat) {a b:Int} (hb:0 < b) (hb2:b≤9223372036854775807):n27 (N+1) (a,b)=some (a % b):=by
 rw [e27]
 have h0:b≠0:=by omega
 simp only [↓aKO,h0,if_false,aKI,aJY,aJz,decide_eq_true_eq]
 have h1:=Int.mul_tdiv_add_tmod a b
 have h2:=Int.tmod_lt_of_pos a hb
 have h3:=Int.lt_tmod_of_pos a hb
 have h4:a % b=a.tmod b % b:=by
  conv=>lhs; rw [← h1,Int.add_comm,Int.add_mul_emod_self_left]
 by_cases hn:a.tmod b < 0
 · rw [if_pos hn,pV (by omega) (by omega),h4]
   rw [← Int.add_emod_right,Int.emod_eq_of_lt (by omega) (by omega)]
 · rw [if_neg hn,h4,Int.emod_eq_of_lt (by omega) (by omega)]
end Go.Proofs.YtajoneenakjifaaDoor
