/- Chapter 01, plainly: the deck, addresses. -/
import Derived.Test.YtlgnmgbnbomckaaGreatDoorNE1
import Derived.Test.YtlgnmgbnbomckaaGreatDoorT29
namespace Go.Proofs.YtlgnmgbnbomckaaGreatDoor
open Go.VM
set_option maxRecDepth 10000
abbrev Dk:=List Int×Int
abbrev Ad:=Bool×Int×Int
def DK (d:Dk):Prop:=0≤d.2∧d.2≤d.1.length∧d.1.length≤9223372036854775807
theorem mod_eq (N:Nat) {a b:Int} (hb:0 < b) (hb2:b≤9223372036854775807):n24 (N+1) (a,b)=some (a % b):=by
 rw [e24]
 have h0:b≠0:=by omega
 simp only [↓aKO,h0,if_false,aKI,aJY,aJz,decide_eq_true_eq]
 have h1:=Int.mul_tdiv_add_tmod a b
 have h2:=Int.tmod_lt_of_pos a hb
 have h3:=Int.lt_tmod_of_pos a hb
 have h4:a % b=a.tmod b % b:=by
  conv=>lhs; rw [← h1,Int.add_comm,Int.add_mul_emod_self_left]
 by_cases hn:a.tmod b < 0
 · rw [if_pos hn,pV (by omega) (by omega),h4]
   rw [← Int.add_emod_right,Int.emod_eq_of_lt (by omega) (by omega)]
 · rw [if_neg hn,h4,Int.emod_eq_of_lt (by omega) (by omega)]
theorem mod_ok (N:Nat) {a b:Int} (hb:0 < b) (hb2:b≤9223372036854775807):∃ r,n24 (N+1) (a,b)=some r∧0≤r∧r < b :=
 ⟨_,mod_eq N hb hb2,Int.emod_nonneg _ (by omega),Int.emod_lt_of_pos _ hb⟩
theorem next_ok (N:Nat) {d:Dk} (hd:DK d) {b:Int} (hb:0 < b) (hb2:b≤9223372036854775807):∃ v d',n27 (N+2) (d,b)=some (v,d')∧0≤v∧v < b∧DK d':=by
 obtain ⟨l,i⟩:=d
 obtain ⟨h1,h2,h3⟩:=hd
 simp only at h1 h2 h3
 rw [e27]
 simp only [↓aKO,aJz,decide_eq_true_eq,aJO,ge_iff_le]
 by_cases hi:(l.length:Int)≤i
 · rw [if_pos hi]
   exact ⟨0,(l,i),rfl,by omega,hb,h1,h2,h3⟩
 · rw [if_neg hi,pV (n:=i+1) (by omega) (by omega),pV (n:=i+1 - 1) (by omega) (by omega)]
   obtain ⟨n,rfl⟩:=Int.eq_ofNat_of_zero_le h1
   rw [show (n:Int)+1 - 1=(n:Int) by omega,aJo (l:=l) (n:=n) (by omega)]
   obtain ⟨r,hr,r1,r2⟩:=mod_ok N (a:=l[n]'(by omega)) hb hb2
   simp only [↓aKO,aKI,hr]
   exact ⟨r,(l,(n:Int)+1),rfl,r1,r2,by simp only [DK]; omega⟩
theorem idx_mem {α:Type} {l:List α} {v:Int} (h:0≤v) (h2:v < (l.length:Int)):∃ x∈l,aEU l v=some x:=by
 obtain ⟨n,rfl⟩:=Int.eq_ofNat_of_zero_le h
 exact ⟨l[n]'(by omega),List.getElem_mem _,aJo (by omega)⟩
/-- An address,and one that is valid. -/
def AD (a:Ad):Prop:=U64 a.2.1∧U64 a.2.2
def valid (a:Ad):Bool:=a.1||(a.2.1==0&&decide (a.2.2 < 4294967296))
def OkA (a:Ad):Prop:=U64 a.2.1∧U64 a.2.2∧(a.1=false→a.2.1=0∧a.2.2 < 4294967296)
theorem OkA.ad {a:Ad} (h:OkA a):AD a:=⟨h.1,h.2.1⟩
theorem OkA.valid {a:Ad} (h:OkA a):valid a=true:=by
 obtain ⟨f,x,y⟩:=a
 cases f with
 | true=>rfl
 | false =>
  obtain ⟨h1,h2⟩:=h.2.2 rfl
  simp only at h1 h2
  simp [Go.Proofs.YtlgnmgbnbomckaaGreatDoor.valid,h1,h2]
theorem valid_ok {a:Ad} (h:AD a) (hv:valid a=true):OkA a:=by
 obtain ⟨f,x,y⟩:=a
 refine ⟨h.1,h.2,fun hf=>?_⟩
 simp only at hf
 subst hf
 simpa [valid] using hv
def val (a:Ad):Int:=a.2.1 * 18446744073709551616+a.2.2
def lim (f:Bool):Int:=if f then 340282366920938463463374607431768211456 else 4294967296
def mkA (f:Bool) (v:Int):Ad:=(f,v / 18446744073709551616,v % 18446744073709551616)
theorem OkA.rng {a:Ad} (h:OkA a):0≤val a∧val a < lim a.1:=by
 obtain ⟨f,x,y⟩:=a
 obtain ⟨⟨h1,h2⟩,⟨h3,h4⟩,h5⟩:=h
 simp only [val,lim] at *
 cases f with
 | true=>simp only [if_true]; omega
 | false=>have:=h5 rfl; simp only [Bool.false_eq_true,if_false]; omega
theorem OkA.mk {f:Bool} {v:Int} (h0:0≤v) (h1:v < lim f):OkA (mkA f v):=by
 unfold lim at h1
 cases f with
 | true =>
  simp only [if_true] at h1
  exact ⟨⟨by simp only [mkA]; omega,by simp only [mkA]; omega⟩,⟨by simp only [mkA]; omega,by simp only [mkA]; omega⟩,fun h=>by cases h⟩
 | false =>
  simp only [Bool.false_eq_true,if_false] at h1
  exact ⟨⟨by simp only [mkA]; omega,by simp only [mkA]; omega⟩,⟨by simp only [mkA]; omega,by simp only [mkA]; omega⟩,fun _=>⟨by simp only [mkA]; omega,by simp only [mkA]; omega⟩⟩
theorem AD.mk_val {a:Ad} (h:AD a):mkA a.1 (val a)=a:=by
 obtain ⟨f,x,y⟩:=a
 obtain ⟨⟨h1,h2⟩,⟨h3,h4⟩⟩:=h
 simp only [mkA,val] at *
 congr 1
 congr 1 <;> omega
theorem val_mk {f:Bool} {v:Int}:val (mkA f v)=v:=by
 simp only [mkA,val]; omega
theorem ad_beq (a b:Ad):((a.1==b.1)&&((a.2.1==b.2.1)&&(a.2.2==b.2.2)))=decide (a=b):=by
 obtain ⟨f,x,y⟩:=a
 obtain ⟨g,z,w⟩:=b
 rw [Bool.eq_iff_iff]
 simp [Prod.ext_iff]
theorem valid_eq (N:Nat) (a:Ad):n61 (N+1) a=some (valid a)∧n57 (N+1) a=some (valid a):=by
 obtain ⟨f,x,y⟩:=a
 rw [e61,e57]
 refine ⟨?_,?_⟩ <;>
 · simp only [↓aKO,valid,aJz]
   cases f <;> by_cases h:x=0 <;> simp [h]
theorem addr_ok (N:Nat) {d:Dk} (hd:DK d):∃ a d',n16 (N+4) d=some (a,d')∧OkA a∧DK d':=by
 rw [e16]
 have nx:∀ {d:Dk} (_:DK d) {b:Int} (_:0 < b) (_:b≤9223372036854775807),∃ v d',n27 (N+3) (d,b)=some (v,d')∧0≤v∧v < b∧DK d':=fun hd _ hb hb2=>next_ok (N+1) hd hb hb2
 obtain ⟨v0,d0,h0,a0,b0,g0⟩:=nx hd (b:=6) (by omega) (by omega)
 simp only [h0,aKI,aJz,beq_iff_eq]
 split
 · obtain ⟨v1,d1,h1,a1,b1,g1⟩:=nx g0 (b:=8) (by omega) (by omega)
   obtain ⟨v3,d3,h3,a3,b3,g3⟩:=nx g1 (b:=4) (by omega) (by omega)
   simp only [h1,h3,aKI,↓aKO]
   have e:aIc .i64 v1 8=v1 * 256:=by
    unfold aIc
    rw [show min 8 IntKind.i64.bits=8 from rfl,pV (by omega) (by omega)]; rfl
   rw [e,pV (n:=167772160+v1 * 256) (by omega) (by omega),pV (n:=167772160+v1 * 256+v3) (by omega) (by omega),aJJ,Int.emod_eq_of_lt (by omega) (by omega)]
   exact ⟨_,_,rfl,⟨⟨by simp only; omega,by simp only; omega⟩,⟨by simp only; omega,by simp only; omega⟩,fun _=>⟨rfl,by simp only; omega⟩⟩,g3⟩
 · split
   · obtain ⟨v1,d1,h1,a1,b1,g1⟩:=nx g0 (b:=4) (by omega) (by omega)
     obtain ⟨v3,d3,h3,a3,b3,g3⟩:=nx g1 (b:=8) (by omega) (by omega)
     simp only [h1,h3,aKI,↓aKO,aJJ]
     exact ⟨_,_,rfl,⟨⟨by simp only; omega,by simp only; omega⟩,⟨by simp only; omega,by simp only; omega⟩,fun h=>by cases h⟩,g3⟩
   · split
     · obtain ⟨v1,d1,h1,a1,b1,g1⟩:=nx g0 (b:=5) (by omega) (by omega)
       obtain ⟨x,q,hx⟩:=idx_mem (l:=[(0:Int),(1:Int),(4294967295:Int),(2147483647:Int),(2147483648:Int)]) a1 b1
       simp only [h1,hx,aKI,↓aKO]
       simp only [List.mem_cons,List.not_mem_nil,or_false] at q
       exact ⟨_,_,rfl,⟨⟨by simp only; omega,by simp only; omega⟩,⟨by simp only; omega,by simp only; omega⟩,fun _=>⟨rfl,by simp only; omega⟩⟩,g1⟩
     · split
       · obtain ⟨v1,d1,h1,a1,b1,g1⟩:=nx g0 (b:=4) (by omega) (by omega)
         obtain ⟨x,q,hx⟩:=idx_mem (l:=[(0:Int),(1:Int),(18446744073709551615:Int),(9223372036854775808:Int)]) a1 b1
         obtain ⟨v2,d2,h2,a2,b2,g2⟩:=nx g1 (b:=4) (by omega) (by omega)
         obtain ⟨y,r,hy⟩:=idx_mem (l:=[(0:Int),(1:Int),(18446744073709551615:Int),(9223372036854775808:Int)]) a2 b2
         simp only [h1,hx,h2,hy,aKI,↓aKO]
         simp only [List.mem_cons,List.not_mem_nil,or_false] at q r
         exact ⟨_,_,rfl,⟨⟨by simp only; omega,by simp only; omega⟩,⟨by simp only; omega,by simp only; omega⟩,fun h=>by cases h⟩,g2⟩
       · split
         · obtain ⟨v1,d1,h1,a1,b1,g1⟩:=nx g0 (b:=1073741824) (by omega) (by omega)
           obtain ⟨v2,d2,h2,a2,b2,g2⟩:=nx g1 (b:=5) (by omega) (by omega)
           obtain ⟨v3,d3,h3,a3,b3,g3⟩:=nx g2 (b:=1073741824) (by omega) (by omega)
           obtain ⟨v4,d4,h4,a4,b4,g4⟩:=nx g3 (b:=5) (by omega) (by omega)
           have c:∀ {v:Int},0≤v→v < 5→IntKind.u64.wrap (IntKind.i64.wrap (v * 8))=v * 8:=fun h h'=>by
            rw [pV (by omega) (by omega),aJJ,Int.emod_eq_of_lt (by omega) (by omega)]
           have c2:∀ (x:Int) (n:Nat),U64 (aIc IntKind.u64 x n):=fun x n=>by
            unfold aIc U64
            rw [aJJ]; omega
           have n2:¬ v2 * 8 < 0:=by omega
           have n4:¬ v4 * 8 < 0:=by omega
           simp only [h1,h2,h3,h4,aKI,↓aKO,c a2 b2,c a4 b4,n2,n4,if_false]
           exact ⟨_,_,rfl,⟨c2 _ _,c2 _ _,fun h=>by cases h⟩,g4⟩
         · obtain ⟨v1,d1,h1,a1,b1,g1⟩:=nx g0 (b:=1073741824) (by omega) (by omega)
           simp only [h1,aKI,aJJ]
           exact ⟨_,_,rfl,⟨⟨by simp only; omega,by simp only; omega⟩,⟨by simp only; omega,by simp only; omega⟩,fun _=>⟨rfl,by simp only; omega⟩⟩,g1⟩
/- the next address -/
end Go.Proofs.YtlgnmgbnbomckaaGreatDoor
