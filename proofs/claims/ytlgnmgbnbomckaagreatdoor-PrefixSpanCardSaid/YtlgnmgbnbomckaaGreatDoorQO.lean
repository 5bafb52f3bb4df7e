/- Chapter 01, plainly: the order of addresses as the law asks it. -/
import Derived.Test.YtlgnmgbnbomckaaGreatDoorQL
namespace Go.Proofs.YtlgnmgbnbomckaaGreatDoor
open Go.VM
set_option maxRecDepth 10000
theorem letB {α β:Type} {x v:α} {f:α→β} {r:β} (h:x=v) (h2:f v=r):aJy x f=r:=by rw [aKO,h,h2]
theorem bindB {α β:Type} {x:Option α} {v:α} {f:α→Option β} {r:Option β} (h:x=some v) (h2:f v=r):x.bind f=r:=by rw [h,aKI,h2]
theorem bifF {α:Type} {b:Bool} {x y r:α} (h:b=false) (h2:y=r):(bif b then x else y)=r:=by rw [h,aKK,h2]
theorem bifT {α:Type} {b:Bool} {x y r:α} (h:b=true) (h2:x=r):(bif b then x else y)=r:=by rw [h,aKJ,h2]
theorem jB {α R:Type} {k:α→Option R} {f:(α→Option R)→Option R} {r:Option R} (h:f k=r):aBJ k f=r:=by rw [aJY,h]
theorem leaveB {α R:Type} {x:Option R} {r:R} (h:x=some r):(lJ x:Option (α ⊕ R))=some (.inr r):=by rw [h]; exact aIE r
theorem loopN_seq' {α R:Type} {body:α→Option (α ⊕ R)} (s:Nat→α) (n:Nat) {r:R} {x:α} (hx:x=s 0) (h:∀ k,k < n→body (s k)=some (.inl (s (k+1)))) (hr:body (s n)=some (.inr r)) {m:Nat} (hm:n < m):eG m body x=some r:=by
 rw [hx]; exact aIu s n h hr hm
theorem wv {n:Int} (m:Int) (h:n=m) (h1:-9223372036854775808≤m) (h2:m≤9223372036854775807):IntKind.i64.wrap n=m:=by rw [h]; exact pV h1 h2
theorem bC {α:Type} {c:Bool} {x y:Option α} {u v:α} (h:x=some u) (h2:y=some v):(bif c then x else y)=some (bif c then u else v):=by
 cases c
 · exact h2
 · exact h
theorem sgn_rng (x y:Int):-1≤sgn x y∧sgn x y≤1:=by unfold sgn; split <;> (try split) <;> omega
theorem cmp_rng (a b:Ad):-1≤cmpA a b∧cmpA a b≤1:=by
 unfold cmpA
 split
 · exact sgn_rng _ _
 · split <;> omega
theorem sgn_anti (x y:Int):sgn x y=- sgn y x:=by
 unfold sgn
 split <;> split <;> (try split) <;> omega
theorem cmp_anti (a b:Ad):cmpA a b=- cmpA b a:=by
 unfold cmpA
 cases ha:a.1 <;> cases hb:b.1
 · rw [if_pos rfl,if_pos rfl]; exact sgn_anti _ _
 · simp
 · simp
 · rw [if_pos rfl,if_pos rfl]; exact sgn_anti _ _
theorem cmp_zero {a b:Ad} (ha:AD a) (hb:AD b):cmpA a b=0↔a=b:=by
 rw [ad_eq ha hb]
 unfold cmpA sgn
 by_cases h:a.1=b.1
 · rw [if_pos h]
   constructor
   · intro h2; refine ⟨h,?_⟩
     split at h2
     · omega
     · split at h2
       · assumption
       · omega
   · rintro ⟨_,h2⟩; rw [if_neg (by omega),if_pos h2]
 · rw [if_neg h]
   constructor
   · intro h2; split at h2 <;> omega
   · rintro ⟨h2,_⟩; exact absurd h2 h
theorem cmp_neg {a b:Ad}:cmpA a b < 0↔(a.1=b.1∧val a < val b)∨(a.1=false∧b.1=true):=by
 unfold cmpA sgn
 cases ha:a.1 <;> cases hb:b.1 <;> simp <;> (try split) <;> (try split) <;> omega
theorem cmp_pos {a b:Ad}:0 < cmpA a b↔(a.1=b.1∧val b < val a)∨(a.1=true∧b.1=false):=by
 have h:=cmp_neg (a:=b) (b:=a)
 have h2:=cmp_anti a b
 constructor
 · intro h3
   rcases h.1 (by omega) with ⟨k1,k2⟩ | ⟨k1,k2⟩
   · exact .inl ⟨k1.symm,k2⟩
   · exact .inr ⟨k2,k1⟩
 · intro h3
   have:cmpA b a < 0:=h.2 (by
    rcases h3 with ⟨k1,k2⟩ | ⟨k1,k2⟩
    · exact .inl ⟨k1.symm,k2⟩
    · exact .inr ⟨k2,k1⟩)
   omega
theorem cmp_trans {a b c:Ad} (h:cmpA a b < 0) (h2:cmpA b c < 0):cmpA a c < 0:=by
 rw [cmp_neg] at *
 rcases h with ⟨h1,h3⟩ | ⟨h1,h3⟩ <;> rcases h2 with ⟨k1,k3⟩ | ⟨k1,k3⟩
 · exact .inl ⟨h1.trans k1,by omega⟩
 · exact .inr ⟨h1.trans k1,k3⟩
 · exact .inr ⟨h1,k1▸h3⟩
 · rw [h3] at k1; cases k1
theorem bytes_less {a b:Ad} (ha:OkA a) (hb:OkA b) (h:a.1=b.1):Op.bytesLess (aD8 (bytesA a)) (aD8 (bytesA b))=decide (cmpA a b < 0):=by
 unfold bytesA
 rw [ha.valid,hb.valid,if_pos rfl,if_pos rfl,show wid b=wid a by unfold wid; rw [h],beI_less]
 have r1:=ha.rng
 have r2:=hb.rng
 rw [← h] at r2
 have hw:lim a.1=256 ^ wid a:=by unfold lim wid; cases a.1 <;> rfl
 rw [hw] at r1 r2
 rw [Int.emod_eq_of_lt r1.1 r1.2,Int.emod_eq_of_lt r2.1 r2.2]
 rw [decide_eq_decide,cmp_neg]
 constructor
 · intro h3; exact .inl ⟨h,h3⟩
 · rintro (⟨_,h3⟩ | ⟨h3,h4⟩)
   · exact h3
   · rw [h3,h4] at h; cases h
end Go.Proofs.YtlgnmgbnbomckaaGreatDoor
