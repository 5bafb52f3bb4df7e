/- Chapter 01, plainly: the order of addresses, their bytes. -/
import Derived.Test.YtlgnmgbnbomckaaGreatDoorQA
namespace Go.Proofs.YtlgnmgbnbomckaaGreatDoor
open Go.VM
set_option maxRecDepth 10000
/- bytes -/
def wid (a:Ad):Nat:=if a.1 then 16 else 4
def bytesA (a:Ad):List Int:=if valid a then beI (wid a) (val a) else []
/-- A shift of both words. -/
theorem shr_pair {x y:Int} (hx:U64 x) (hy:U64 y):bits .or .u64 (aJP .u64 y 8) (aIc .u64 x 56)=y / 256+x % 256 * 72057594037927936∧aJP .u64 x 8=x / 256:=by
 obtain ⟨h1,h2⟩:=hx
 obtain ⟨h3,h4⟩:=hy
 have e11:(2:Int) ^ 8=256:=rfl
 have e56:(2:Int) ^ 56=72057594037927936:=rfl
 rw [shr64 (by decide) h3,shr64 (by decide) h1,shl64 (by decide),e11,e56]
 have:x * 72057594037927936 % 18446744073709551616=x % 256 * 72057594037927936:=by omega
 rw [this,or64' 56 ⟨by omega,by omega⟩ ⟨x % 256,by rw [e56,Int.mul_comm]⟩ (by omega) (by rw [e56]; omega) (by decide),Int.add_comm]
 exact ⟨rfl,rfl⟩
theorem set_app {α:Type} (l:List α) (x z:α) (m:List α) (k:Nat) (h:l.length=k):(l++x::m).set k z=l++z::m:=by
 subst h
 induction l with
 | nil=>rfl
 | cons a l ih=>simp only [List.cons_append,List.length_cons,List.set_cons_succ,ih]
theorem pow_div (v:Int) (k:Nat):v / 256 ^ (k+1)=v / 256 ^ k / 256:=by
 rw [Int.pow_succ,Int.ediv_ediv_of_nonneg (Int.le_of_lt (pow256 k))]
theorem bytes1 (N:Nat) {a:Ad} (h:AD a):n71 (N+20) a=some (bytesA a):=by
 rw [e71,(valid_eq (N+18) a).1]
 simp only [aKI,bytesA]
 cases hv:valid a with
 | false=>rfl
 | true =>
 have hk:=valid_ok h hv
 simp only [Bool.not_true,aKK,aJY,if_true]
 have key:∀ (i:Int) (n:Nat),i=(n:Int)→n≤16→n=wid a→((aIb 1 (0:Int) i i).bind fun v3 =>
 aJy (IntKind.i64.wrap (i - (1:Int))) fun v4 =>
 eG (N+19) (fun (p7:((Bool×Int×Int)×(List (Int)×Int))) =>
 aJy (decide (p7.2.2≥(0:Int))) fun v8 =>
 bif v8 then ((aEU p7.2.1 p7.2.2).bind fun v9 =>
 aJy (p7.2.1.set p7.2.2.toNat (IntKind.u8.wrap p7.1.2.2)) fun v10 =>
 aJy (aJP IntKind.u64 p7.1.2.2 8) fun v11 =>
 aJy (aIc IntKind.u64 p7.1.2.1 56) fun v12 =>
 aJy (bits .or IntKind.u64 v11 v12) fun v13 =>
 aJy (aJP IntKind.u64 p7.1.2.1 8) fun v14 =>
 aJy (IntKind.i64.wrap (p7.2.2 - (1:Int))) fun v15 =>
 tN ((p7.1.1, v14, v13), v10, v15)) else (lJ (some p7.2.1))) (a, v3, v4)) = some (beI n (val a)) := by
  intro i n hi hn hw
  subst hi
  unfold aIb
  rw [if_pos (by refine ⟨?_,?_,?_,?_⟩ <;> omega)]
  simp only [aKI,aKO,Int.toNat_natCast]
  rw [pV (by omega) (by omega)]
  have r0:beI 0 (val a)=[]:=rfl
  have:=aIu (body:=fun (p7:((Bool×Int×Int)×(List (Int)×Int))) =>
 aJy (decide (p7.2.2≥(0:Int))) fun v8 =>
 bif v8 then ((aEU p7.2.1 p7.2.2).bind fun v9 =>
 aJy (p7.2.1.set p7.2.2.toNat (IntKind.u8.wrap p7.1.2.2)) fun v10 =>
 aJy (aJP IntKind.u64 p7.1.2.2 8) fun v11 =>
 aJy (aIc IntKind.u64 p7.1.2.1 56) fun v12 =>
 aJy (bits .or IntKind.u64 v11 v12) fun v13 =>
 aJy (aJP IntKind.u64 p7.1.2.1 8) fun v14 =>
 aJy (IntKind.i64.wrap (p7.2.2 - (1:Int))) fun v15 =>
 tN ((p7.1.1, v14, v13), v10, v15)) else (lJ (some p7.2.1))) (fun k => (mkA a.1 (val a / 256 ^ k), List.replicate (n - k) 0 ++ beI k (val a), (n : Int) - 1 - k)) n (r := beI n (val a)) (fun k hk' => by
   have hr:=hk.rng
   have hl:lim a.1≤340282366920938463463374607431768211456:=by unfold lim; split <;> omega
   have hp:=pow256 k
   have v0:0≤val a / 256 ^ k:=Int.ediv_nonneg hr.1 (Int.le_of_lt hp)
   have v1:val a / 256 ^ k≤val a:=Int.ediv_le_self _ hr.1
   have d:(n:Int) - 1 - k≥0:=by omega
   obtain ⟨j,hj⟩:∃ j:Nat,n - k=j+1:=⟨n - k - 1,by omega⟩
   have e:(n:Int) - 1 - k=(j:Int):=by omega
   have hd:(mkA a.1 (val a / 256 ^ k)).2.2=val a / 256 ^ k % 18446744073709551616:=rfl
   have hd1:(mkA a.1 (val a / 256 ^ k)).2.1=val a / 256 ^ k / 18446744073709551616:=rfl
   have hd0:(mkA a.1 (val a / 256 ^ k)).1=a.1:=rfl
   have us:=shr_pair (x:=val a / 256 ^ k / 18446744073709551616) (y:=val a / 256 ^ k % 18446744073709551616) ⟨by omega,by omega⟩ ⟨by omega,by omega⟩
   simp only [d,decide_true,aKO,aKJ,hd,hd1,hd0,us.1,us.2]
   rw [e,hj,aJo (by rw [List.length_append,List.length_replicate]; omega)]
   simp only [aKI,Int.toNat_natCast]
   rw [show List.replicate (j+1) (0:Int)++beI k (val a)=List.replicate j 0++0::beI k (val a) by
    rw [List.replicate_succ',List.append_assoc]; rfl]
   rw [set_app _ _ _ _ _ (List.length_replicate ..),pV (by omega) (by omega),aJZ,show n - (k+1)=j by omega]
   have q1:val a / 256 ^ k / 18446744073709551616 / 256=val a / 256 ^ (k+1) / 18446744073709551616:=by
    rw [pow_div]; generalize val a / 256 ^ k=t; omega
   have q2:val a / 256 ^ k % 18446744073709551616 / 256+val a / 256 ^ k / 18446744073709551616 % 256 * 72057594037927936=val a / 256 ^ (k+1) % 18446744073709551616:=by
    rw [pow_div]; generalize val a / 256 ^ k=t; omega
   have q3:IntKind.u8.wrap (val a / 256 ^ k % 18446744073709551616)=val a / 256 ^ k % 256:=by
    rw [aEL]; generalize val a / 256 ^ k=t; omega
   rw [q1,q2,q3,show (n:Int) - 1 - ((k+1:Nat):Int)=(j:Int) - 1 by omega]
   rfl) (by
   have d:¬ ((n:Int) - 1 - n≥0):=by omega
   simp only [d,decide_false,aKO,aKK,Nat.sub_self,List.replicate_zero,List.nil_append,aIE]) (m:=N+19) (by omega)
  simp only [Int.pow_zero,Int.ediv_one,Nat.sub_zero,r0,List.append_nil,h.mk_val] at this
  rw [show ((n:Int) - 1 - ((0:Nat):Int))=(n:Int) - 1 by omega] at this
  exact this
 cases hf:a.1 with
 | true =>
  have:=key 16 16 rfl (by omega) (by unfold wid; rw [hf]; rfl)
  simp only [aKJ]
  rw [show wid a=16 by unfold wid; rw [hf]; rfl]
  exact this
 | false =>
  have:=key 4 4 rfl (by omega) (by unfold wid; rw [hf]; rfl)
  simp only [aKK]
  rw [show wid a=4 by unfold wid; rw [hf]; rfl]
  exact this
end Go.Proofs.YtlgnmgbnbomckaaGreatDoor
