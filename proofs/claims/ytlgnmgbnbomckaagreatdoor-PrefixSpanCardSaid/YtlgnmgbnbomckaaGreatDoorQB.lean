/- Chapter 01, plainly: the order of addresses, their bytes. -/
import Derived.Test.YtlgnmgbnbomckaaGreatDoorQA
namespace Go.Proofs.YtlgnmgbnbomckaaGreatDoor
open Go.VM
set_option maxRecDepth 10000
def sgn (x y:Int):Int:=if x < y then -1 else if x=y then 0 else 1
def cmpA (a b:Ad):Int:=if a.1=b.1 then sgn (val a) (val b) else if b.1 then -1 else 1
theorem sgn_eq (N:Nat) (x y:Int):n64 (N+2) (x,y)=some (sgn x y)∧n85 (N+2) (x,y)=some (sgn x y):=by
 rw [e64,e85,e86,e86,e109,e109]
 simp only [aKI,bne_self_eq_false,aKK,aJz,decide_eq_true_eq,sgn]
 refine ⟨?_,?_⟩ <;>
 · by_cases h:x < y
   · simp [h]
   · by_cases h2:x=y
     · subst h2; simp
     · have:x > y:=by omega
       simp [h,h2,this]
theorem or_eq (N:Nat) (x y z:Int):n62 (N+5) [x,y,z]=some (if x≠0 then x else if y≠0 then y else z):=by
 rw [e62]
 simp only [aJY,aJO,List.length_cons,List.length_nil]
 simp only [eG,aKO]
 have h0:((0:Int) < ((0+1+1+1:Nat):Int)):=by omega
 have i0:aEU [x,y,z] 0=some x:=rfl
 have i1:aEU [x,y,z] 1=some y:=rfl
 have i2:aEU [x,y,z] 2=some z:=rfl
 have w0:IntKind.i64.wrap (0+1)=1:=by decide
 have w1:IntKind.i64.wrap (1+1)=2:=by decide
 have w2:IntKind.i64.wrap (2+1)=3:=by decide
 have d0:decide ((0:Int) < ((0+1+1+1:Nat):Int))=true:=by decide
 have d1:decide ((1:Int) < ((0+1+1+1:Nat):Int))=true:=by decide
 have d2:decide ((2:Int) < ((0+1+1+1:Nat):Int))=true:=by decide
 have d3:decide ((3:Int) < ((0+1+1+1:Nat):Int))=false:=by decide
 simp only [d0,aKJ,i0,aKI]
 by_cases hx:x=0
 · subst hx
   simp only [bne_self_eq_false,aKK,w0,aJZ,d1,aKJ,i1,aKI,ne_eq,not_true_eq_false,if_false]
   by_cases hy:y=0
   · subst hy
     simp only [bne_self_eq_false,aKK,w1,aJZ,d2,aKJ,i2,aKI,not_true_eq_false,if_false]
     by_cases hz:z=0
     · subst hz
       simp only [bne_self_eq_false,aKK,w2,aJZ,d3,aIE]
     · simp only [bne_iff_ne,ne_eq,hz,not_false_eq_true,aJz,if_true,aIE]
   · simp only [bne_iff_ne,ne_eq,hy,not_false_eq_true,aJz,if_true,aIE]
 · simp only [bne_iff_ne,ne_eq,hx,not_false_eq_true,aJz,if_true,aIE]
theorem cmp_eq (N:Nat) {a b:Ad} (ha:AD a) (hb:AD b):n63 (N+8) (a,b)=some (cmpA a b)∧n18 (N+8) (a,b)=some (cmpA a b):=by
 obtain ⟨f,x,y⟩:=a
 obtain ⟨g,z,w⟩:=b
 obtain ⟨⟨h1,h2⟩,⟨h3,h4⟩⟩:=ha
 obtain ⟨⟨k1,k2⟩,⟨k3,k4⟩⟩:=hb
 simp only at h1 h2 h3 h4 k1 k2 k3 k4
 constructor
 · rw [e63,e84,e84]
   have fam:∀ b:Bool,(bif b then some (1:Int) else some 0)=some (if b then 1 else 0):=by decide
   simp only [fam,aKI,(sgn_eq (N+5) _ _).1,(sgn_eq (N+5) _ _).2,or_eq (N+2)]
   congr 1
   simp only [cmpA,val,sgn]
   cases f <;> cases g <;> simp only [if_true,if_false,Bool.false_eq_true,Bool.true_eq_false]
   · by_cases e:x=z
     · subst e
       by_cases e2:y < w
       · have:x * 18446744073709551616+y < x * 18446744073709551616+w:=by omega
         simp [e2,this]
       · by_cases e3:y=w
         · subst e3; simp
         · have:¬ x * 18446744073709551616+y < x * 18446744073709551616+w:=by omega
           have q:¬ x * 18446744073709551616+y=x * 18446744073709551616+w:=by omega
           simp [e2,e3,this,q]
     · by_cases e2:x < z
       · have:x * 18446744073709551616+y < z * 18446744073709551616+w:=by omega
         simp [e2,this]
       · have:¬ x * 18446744073709551616+y < z * 18446744073709551616+w:=by omega
         have q:¬ x * 18446744073709551616+y=z * 18446744073709551616+w:=by omega
         simp [e,e2,this,q]
   · simp
   · simp
   · by_cases e:x=z
     · subst e
       by_cases e2:y < w
       · have:x * 18446744073709551616+y < x * 18446744073709551616+w:=by omega
         simp [e2,this]
       · by_cases e3:y=w
         · subst e3; simp
         · have:¬ x * 18446744073709551616+y < x * 18446744073709551616+w:=by omega
           have q:¬ x * 18446744073709551616+y=x * 18446744073709551616+w:=by omega
           simp [e2,e3,this,q]
     · by_cases e2:x < z
       · have:x * 18446744073709551616+y < z * 18446744073709551616+w:=by omega
         simp [e2,this]
       · have:¬ x * 18446744073709551616+y < z * 18446744073709551616+w:=by omega
         have q:¬ x * 18446744073709551616+y=z * 18446744073709551616+w:=by omega
         simp [e,e2,this,q]
 · rw [e18]
   have e0:=ad_beq (f,x,y) (g,z,w)
   simp only at e0
   simp only [↓aKO,e0,aIF,aIt,aJz,decide_eq_true_eq,Bool.not_eq_true',beq_eq_false_iff_ne,ne_eq,Prod.mk.injEq]
   simp only [cmpA,val,sgn]
   cases f <;> cases g <;> simp only [true_and,not_true_eq_false,if_false,if_true,Bool.false_eq_true,Bool.true_eq_false,false_and,not_false_eq_true,beq_iff_eq]
   · by_cases e:x=z
     · subst e
       by_cases e3:y=w
       · subst e3; simp
       · by_cases e2:y < w
         · have:x * 18446744073709551616+y < x * 18446744073709551616+w:=by omega
           simp [e2,e3,this]
         · have:¬ x * 18446744073709551616+y < x * 18446744073709551616+w:=by omega
           have q:¬ x * 18446744073709551616+y=x * 18446744073709551616+w:=by omega
           simp [e2,e3,this,q]
     · by_cases e2:x < z
       · have:x * 18446744073709551616+y < z * 18446744073709551616+w:=by omega
         simp [e,e2,this]
       · have:¬ x * 18446744073709551616+y < z * 18446744073709551616+w:=by omega
         have q:¬ x * 18446744073709551616+y=z * 18446744073709551616+w:=by omega
         simp [e,e2,this,q]
   · by_cases e:x=z
     · subst e
       by_cases e3:y=w
       · subst e3; simp
       · by_cases e2:y < w
         · have:x * 18446744073709551616+y < x * 18446744073709551616+w:=by omega
           simp [e2,e3,this]
         · have:¬ x * 18446744073709551616+y < x * 18446744073709551616+w:=by omega
           have q:¬ x * 18446744073709551616+y=x * 18446744073709551616+w:=by omega
           simp [e2,e3,this,q]
     · by_cases e2:x < z
       · have:x * 18446744073709551616+y < z * 18446744073709551616+w:=by omega
         simp [e,e2,this]
       · have:¬ x * 18446744073709551616+y < z * 18446744073709551616+w:=by omega
         have q:¬ x * 18446744073709551616+y=z * 18446744073709551616+w:=by omega
         simp [e,e2,this,q]
/- bytes -/
def wid (a:Ad):Nat:=if a.1 then 16 else 4
def bytesA (a:Ad):List Int:=if valid a then beI (wid a) (val a) else []
/-- A shift of both words. -/
theorem shr_pair {x y:Int} (hx:U64 x) (hy:U64 y):bits .or .u64 (aJP .u64 y 8) (aIc .u64 x 56)=y / 256+x % 256 * 72057594037927936∧aJP .u64 x 8=x / 256:=by
 obtain ⟨h1,h2⟩:=hx
 obtain ⟨h3,h4⟩:=hy
 have e11:(2:Int) ^ 8=256:=rfl
 have e56:(2:Int) ^ 56=72057594037927936:=rfl
 rw [shr64 (by decide) h3,shr64 (by decide) h1,shl64 (by decide),e11,e56]
 have:x * 72057594037927936 % 18446744073709551616=x % 256 * 72057594037927936:=by omega
 rw [this,or64' 56 ⟨by omega,by omega⟩ ⟨x % 256,by rw [e56,Int.mul_comm]⟩ (by omega) (by rw [e56]; omega) (by decide),Int.add_comm]
 exact ⟨rfl,rfl⟩
theorem set_app {α:Type} (l:List α) (x z:α) (m:List α) (k:Nat) (h:l.length=k):(l++x::m).set k z=l++z::m:=by
 subst h
 induction l with
 | nil=>rfl
 | cons a l ih=>simp only [List.cons_append,List.length_cons,List.set_cons_succ,ih]
theorem pow_div (v:Int) (k:Nat):v / 256 ^ (k+1)=v / 256 ^ k / 256:=by
 rw [Int.pow_succ,Int.ediv_ediv_of_nonneg (Int.le_of_lt (pow256 k))]
theorem bytes1 (N:Nat) {a:Ad} (h:AD a):n71 (N+20) a=some (bytesA a):=by
 rw [e71,(valid_eq (N+18) a).1]
 simp only [aKI,bytesA]
 cases hv:valid a with
 | false=>rfl
 | true =>
 have hk:=valid_ok h hv
 simp only [Bool.not_true,aKK,aJY,if_true]
 have key:∀ (i:Int) (n:Nat),i=(n:Int)→n≤16→n=wid a→((aIb 1 (0:Int) i i).bind fun v3 =>
 aJy (IntKind.i64.wrap (i - (1:Int))) fun v4 =>
 eG (N+19) (fun (p7:((Bool×Int×Int)×(List (Int)×Int))) =>
 aJy (decide (p7.2.2≥(0:Int))) fun v8 =>
 bif v8 then ((aEU p7.2.1 p7.2.2).bind fun v9 =>
 aJy (p7.2.1.set p7.2.2.toNat (IntKind.u8.wrap p7.1.2.2)) fun v10 =>
 aJy (aJP IntKind.u64 p7.1.2.2 8) fun v11 =>
 aJy (aIc IntKind.u64 p7.1.2.1 56) fun v12 =>
 aJy (bits .or IntKind.u64 v11 v12) fun v13 =>
 aJy (aJP IntKind.u64 p7.1.2.1 8) fun v14 =>
 aJy (IntKind.i64.wrap (p7.2.2 - (1:Int))) fun v15 =>
 tN ((p7.1.1, v14, v13), v10, v15)) else (lJ (some p7.2.1))) (a, v3, v4)) = some (beI n (val a)) := by
  intro i n hi hn hw
  subst hi
  unfold aIb
  rw [if_pos (by refine ⟨?_,?_,?_,?_⟩ <;> omega)]
  simp only [aKI,aKO,Int.toNat_natCast]
  rw [pV (by omega) (by omega)]
  have r0:beI 0 (val a)=[]:=rfl
  have:=aIu (body:=fun (p7:((Bool×Int×Int)×(List (Int)×Int))) =>
 aJy (decide (p7.2.2≥(0:Int))) fun v8 =>
 bif v8 then ((aEU p7.2.1 p7.2.2).bind fun v9 =>
 aJy (p7.2.1.set p7.2.2.toNat (IntKind.u8.wrap p7.1.2.2)) fun v10 =>
 aJy (aJP IntKind.u64 p7.1.2.2 8) fun v11 =>
 aJy (aIc IntKind.u64 p7.1.2.1 56) fun v12 =>
 aJy (bits .or IntKind.u64 v11 v12) fun v13 =>
 aJy (aJP IntKind.u64 p7.1.2.1 8) fun v14 =>
 aJy (IntKind.i64.wrap (p7.2.2 - (1:Int))) fun v15 =>
 tN ((p7.1.1, v14, v13), v10, v15)) else (lJ (some p7.2.1))) (fun k => (mkA a.1 (val a / 256 ^ k), List.replicate (n - k) 0 ++ beI k (val a), (n : Int) - 1 - k)) n (r := beI n (val a)) (fun k hk' => by
   have hr:=hk.rng
   have hl:lim a.1≤340282366920938463463374607431768211456:=by unfold lim; split <;> omega
   have hp:=pow256 k
   have v0:0≤val a / 256 ^ k:=Int.ediv_nonneg hr.1 (Int.le_of_lt hp)
   have v1:val a / 256 ^ k≤val a:=Int.ediv_le_self _ hr.1
   have d:(n:Int) - 1 - k≥0:=by omega
   obtain ⟨j,hj⟩:∃ j:Nat,n - k=j+1:=⟨n - k - 1,by omega⟩
   have e:(n:Int) - 1 - k=(j:Int):=by omega
   have hd:(mkA a.1 (val a / 256 ^ k)).2.2=val a / 256 ^ k % 18446744073709551616:=rfl
   have hd1:(mkA a.1 (val a / 256 ^ k)).2.1=val a / 256 ^ k / 18446744073709551616:=rfl
   have hd0:(mkA a.1 (val a / 256 ^ k)).1=a.1:=rfl
   have us:=shr_pair (x:=val a / 256 ^ k / 18446744073709551616) (y:=val a / 256 ^ k % 18446744073709551616) ⟨by omega,by omega⟩ ⟨by omega,by omega⟩
   simp only [d,decide_true,aKO,aKJ,hd,hd1,hd0,us.1,us.2]
   rw [e,hj,aJo (by rw [List.length_append,List.length_replicate]; omega)]
   simp only [aKI,Int.toNat_natCast]
   rw [show List.replicate (j+1) (0:Int)++beI k (val a)=List.replicate j 0++0::beI k (val a) by
    rw [List.replicate_succ',List.append_assoc]; rfl]
   rw [set_app _ _ _ _ _ (List.length_replicate ..),pV (by omega) (by omega),aJZ,show n - (k+1)=j by omega]
   have q1:val a / 256 ^ k / 18446744073709551616 / 256=val a / 256 ^ (k+1) / 18446744073709551616:=by
    rw [pow_div]; generalize val a / 256 ^ k=t; omega
   have q2:val a / 256 ^ k % 18446744073709551616 / 256+val a / 256 ^ k / 18446744073709551616 % 256 * 72057594037927936=val a / 256 ^ (k+1) % 18446744073709551616:=by
    rw [pow_div]; generalize val a / 256 ^ k=t; omega
   have q3:IntKind.u8.wrap (val a / 256 ^ k % 18446744073709551616)=val a / 256 ^ k % 256:=by
    rw [aEL]; generalize val a / 256 ^ k=t; omega
   rw [q1,q2,q3,show (n:Int) - 1 - ((k+1:Nat):Int)=(j:Int) - 1 by omega]
   rfl) (by
   have d:¬ ((n:Int) - 1 - n≥0):=by omega
   simp only [d,decide_false,aKO,aKK,Nat.sub_self,List.replicate_zero,List.nil_append,aIE]) (m:=N+19) (by omega)
  simp only [Int.pow_zero,Int.ediv_one,Nat.sub_zero,r0,List.append_nil,h.mk_val] at this
  rw [show ((n:Int) - 1 - ((0:Nat):Int))=(n:Int) - 1 by omega] at this
  exact this
 cases hf:a.1 with
 | true =>
  have:=key 16 16 rfl (by omega) (by unfold wid; rw [hf]; rfl)
  simp only [aKJ]
  rw [show wid a=16 by unfold wid; rw [hf]; rfl]
  exact this
 | false =>
  have:=key 4 4 rfl (by omega) (by unfold wid; rw [hf]; rfl)
  simp only [aKK]
  rw [show wid a=4 by unfold wid; rw [hf]; rfl]
  exact this
end Go.Proofs.YtlgnmgbnbomckaaGreatDoor
