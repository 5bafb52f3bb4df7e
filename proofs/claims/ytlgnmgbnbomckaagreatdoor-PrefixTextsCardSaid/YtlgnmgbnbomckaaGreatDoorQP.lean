/- Chapter 01, plainly: numbers in hex, and back. -/
import Derived.Test.YtlgnmgbnbomckaaGreatDoorQO
import Derived.Test.YtlgnmgbnbomckaaGreatDoorT31
namespace Go.Proofs.YtlgnmgbnbomckaaGreatDoor
open Go.VM
set_option maxRecDepth 10000
def hexI (d:Int):Int:=if d < 10 then 48+d else 87+d
def dg:Nat→Int→List Int
 | 0,_=>[]
 | k+1,g=>hexI (g / 16 ^ k % 16)::dg k g
theorem dg_length:∀ (k:Nat) (g:Int),(dg k g).length=k
 | 0,_=>rfl
 | k+1,g=>by rw [dg,List.length_cons,dg_length k]
theorem hexI_rng {d:Int} (h:0≤d∧d < 16):(48≤hexI d∧hexI d≤57)∨(97≤hexI d∧hexI d≤102):=by
 unfold hexI; split <;> omega
theorem dg_rng:∀ (k:Nat) (g:Int),∀ x∈dg k g,(48≤x∧x≤57)∨(97≤x∧x≤102)
 | 0,_,x,h=>by cases h
 | k+1,g,x,h=>by
  rcases List.mem_cons.1 h with rfl | h
  · exact hexI_rng (by omega)
  · exact dg_rng k g x h
def nd (g:Int):Nat:=if g < 16 then 0 else if g < 256 then 1 else if g < 4096 then 2 else 3
def hexL (g:Int):List Int:=hexI (g / 16 ^ nd g)::dg (nd g) g
def hexW (g:Int):List UInt8:=aD8 (hexL g)
abbrev digs:List UInt8:=[48,49,50,51,52,53,54,55,56,57,97,98,99,100,101,102,103,104,105,106,107,108,109,110,111,112,113,114,115,116,117,118,119,120,121,122]
theorem hexAt {d:Int} (h:0≤d∧d < 16):aKH digs d=some (hexI d):=by
 obtain ⟨n,rfl⟩:=Int.eq_ofNat_of_zero_le h.1
 have hn:n < 16:=by omega
 have:∀ n:Nat,n < 16→aKH digs (n:Int)=some (hexI n):=by decide
 exact this n hn
theorem pow16 (n:Nat):(0:Int) < 16 ^ n:=Int.pow_pos (by decide)
theorem div16 (g:Int) (k:Nat):g / 16 ^ (k+1)=g / 16 ^ k / 16:=by
 rw [Int.pow_succ,Int.ediv_ediv_of_nonneg (Int.le_of_lt (pow16 k))]
theorem nd_lt {g:Int} {k:Nat} (h:k < nd g):g / 16 ^ k≥16:=by
 unfold nd at h
 have:k=0∨k=1∨k=2:=by split at h <;> (try split at h) <;> (try split at h) <;> omega
 rcases this with rfl | rfl | rfl <;> (simp only [Int.reducePow,Int.pow_zero,Int.ediv_one]; split at h <;> (try split at h) <;> (try split at h) <;> omega)
theorem nd_end {g:Int} (h0:0≤g) (h1:g < 65536):0≤g / 16 ^ nd g∧g / 16 ^ nd g < 16:=by
 unfold nd
 split
 · simp only [Int.pow_zero,Int.ediv_one]; omega
 · split
   · simp only [Int.reducePow]; omega
   · split
     · simp only [Int.reducePow]; omega
     · simp only [Int.reducePow]; omega
theorem nd_le (g:Int):nd g≤3:=by unfold nd; split <;> (try split) <;> (try split) <;> omega
theorem set_dg {k:Nat} (hk:k≤64) (g z:Int):(List.replicate (65 - k) (0:Int)++dg k g).set (64 - k) z=List.replicate (64 - k) 0++z::dg k g:=by
 rw [show 65 - k=(64 - k)+1 by omega,List.replicate_succ',List.append_assoc]
 exact set_app _ _ _ _ _ (List.length_replicate ..)
theorem fmt_eq (N:Nat) {g:Int} (h0:0≤g) (h1:g < 65536):n106 (N+10) ([],g,16,false,false)=some ([],hexW g):=by
 rw [e106]
 refine letB (v:=false) (by decide) (letB (v:=false) (by decide) ?_)
 refine jB (bifF rfl (jB (bifF rfl ?_)))
 have p102:n129 (N+9) 16=some true:=by rw [e129]; rfl
 have w16:IntKind.u64.wrap 16=16:=by decide
 have p103:n130 (N+9) (IntKind.u64.wrap 16)=some 4:=by rw [w16,e130]; exact aKB
 refine bindB p102 (jB (bifT rfl (bindB p103 (letB (v:=15) (show IntKind.u64.wrap (IntKind.u64.wrap 16 - 1)=15 by decide) (jB ?_)))))
 refine loopN_seq' (s:=fun k=>([],g / 16 ^ k,false,false,[],[],List.replicate (65 - k) 0++dg k g,65 - (k:Int),4,16,15)) (nd g) ?_ (fun k hk=>?_) ?_ (by have:=nd_le g; omega)
 · simp only [Int.pow_zero,Int.ediv_one,Nat.sub_zero,dg,List.append_nil,w16]; rfl
 · have hn:=nd_le g
   have hg:=nd_lt hk
   have hp:=pow16 k
   have hle:g / 16 ^ k≤g:=Int.ediv_le_self _ h0
   have ei:65 - (k:Int) - 1=((64 - k:Nat):Int):=by omega
   refine letB (v:=true) (decide_eq_true hg) (bifT rfl (letB (v:=((64 - k:Nat):Int)) ?_ (letB (v:=g / 16 ^ k % 16) ?_ (bindB (hexAt (by omega)) (bindB (v:=64 - k) ?_ (letB rfl (bindB (v:=g / 16 ^ (k+1)) ?_ ?_)))))))
   · exact wv ((64 - k:Nat):Int) ei (by omega) (by omega)
   · exact aKD (a:=g / 16 ^ k) (by omega) (by show g / 16 ^ k < 18446744073709551616; omega)
   · unfold aJu; rw [if_pos (by omega),Int.toNat_natCast]
   · have : (if (4 : Int) < 0 then none else some (aJP .u64 (g / 16 ^ k) (4 : Int).toNat)) = some (g / 16 ^ (k + 1)) := by
       rw [if_neg (by decide),show (4:Int).toNat=4 from rfl,shr64 (by decide) (by omega),div16]; rfl
     exact this
   · rw [aJZ,set_dg (by omega)]
     rw [show 65 - (k+1)=64 - k by omega,← ei,show 65 - ((k+1:Nat):Int)=65 - (k:Int) - 1 by omega]
     rfl
 · have hn:=nd_le g
   obtain ⟨e0,e1⟩:=nd_end h0 h1
   have hlt:¬ (g / 16 ^ nd g≥16):=by omega
   have ei:65 - (nd g:Int) - 1=((64 - nd g:Nat):Int):=by omega
   refine letB (v:=false) (decide_eq_false hlt) (bifF rfl (leaveB ?_))
   refine letB (v:=((64 - nd g:Nat):Int)) ?_ (bindB (hexAt ⟨e0,e1⟩) (bindB (v:=64 - nd g) ?_ (letB (v:=List.replicate (64 - nd g) 0++hexL g) ?_ ?_)))
   · exact wv ((64 - nd g:Nat):Int) ei (by omega) (by omega)
   · unfold aJu; rw [if_pos (by omega),Int.toNat_natCast]
   · exact set_dg (by omega) _ _
   · refine jB (bifF rfl (bifF rfl (bindB (v:=hexL g) ?_ rfl)))
     have:=aJ1 (l:=List.replicate (64 - nd g) (0:Int)++hexL g) (n:=64 - nd g) (by simp)
     rw [this]
     congr 1
     conv=>lhs; arg 1; rw [show 64 - nd g=(List.replicate (64 - nd g) (0:Int)).length by simp]
     exact List.drop_left
theorem hex_eq (N:Nat) {g:Int} (h0:0≤g) (h1:g < 65536):n53 (N+12) (g,16)=some (hexW g):=by
 rw [e53]
 refine bindB (v:=hexW g) ?_ rfl
 rw [e78]
 exact bifF rfl (bindB (fmt_eq N h0 h1) rfl)
end Go.Proofs.YtlgnmgbnbomckaaGreatDoor
