/- Chapter 01, plainly: bytes of addresses once more, and back. -/
import Derived.Test.YtlgnmgbnbomckaaGreatDoorQB
namespace Go.Proofs.YtlgnmgbnbomckaaGreatDoor
open Go.VM
set_option maxRecDepth 10000
theorem digit {x y:Int} (hx:U64 x) (hy:U64 y) {i:Nat} (hi:i < 16):IntKind.u8.wrap (aJP .u64 (if (i:Int)≥8 then x else y) (8 * (i % 8)))=(x * 18446744073709551616+y) / 256 ^ i % 256:=by
 obtain ⟨h1,h2⟩:=hx
 obtain ⟨h3,h4⟩:=hy
 have hz:0≤(if (i:Int)≥8 then x else y):=by split <;> omega
 rw [aEL,shr64 (by omega) hz]
 have:i=0∨i=1∨i=2∨i=3∨i=4∨i=5∨i=6∨i=7∨i=8∨i=9∨i=10∨i=11∨i=12∨i=13∨i=14∨i=15:=by omega
 rcases this with rfl | rfl | rfl | rfl | rfl | rfl | rfl | rfl | rfl | rfl | rfl | rfl | rfl | rfl | rfl | rfl
 all_goals
  first | rw [if_pos (by decide)] | rw [if_neg (by decide)]
  simp only [Nat.reduceMod,Nat.reduceMul,Int.reducePow]
  omega
theorem bytes2 (N:Nat) {a:Ad} (h:AD a):n51 (N+20) a=some (bytesA a):=by
 rw [e51,(valid_eq (N+18) a).2]
 simp only [aKI,bytesA]
 cases hv:valid a with
 | false=>rfl
 | true =>
 have hk:=valid_ok h hv
 simp only [Bool.not_true,aKK,aJY,if_true]
 have key:∀ (i:Int) (n:Nat),i=(n:Int)→n≤16→n=wid a→(
 aJy (IntKind.i64.wrap (i - (1:Int))) fun v3 =>
 eG (N+19) (fun (p6:((Bool×Int×Int)×(List (Int)×Int))) =>
 aJy (decide (p6.2.2≥(0:Int))) fun v7 =>
 bif v7 then (aJy (decide (p6.2.2≥(8:Int))) fun v8 =>
 bif v8 then (
 aJy (Int.tmod p6.2.2 (8:Int)) fun v11 =>
 aJy (IntKind.u64.wrap ((8:Int) * (IntKind.u64.wrap v11))) fun v12 =>
 (if v12 < 0 then none else some (aJP IntKind.u64 p6.1.2.1 v12.toNat)).bind fun v13 =>
 aJy ([(IntKind.u8.wrap v13)]:List (Int)) fun v14 =>
 (aH3 1 p6.2.1 v14).bind fun v15 =>
 aJy (IntKind.i64.wrap (p6.2.2 - (1:Int))) fun v16 =>
 tN (p6.1,v15,v16)) else (
 aJy (Int.tmod p6.2.2 (8:Int)) fun v11 =>
 aJy (IntKind.u64.wrap ((8:Int) * (IntKind.u64.wrap v11))) fun v12 =>
 (if v12 < 0 then none else some (aJP IntKind.u64 p6.1.2.2 v12.toNat)).bind fun v13 =>
 aJy ([(IntKind.u8.wrap v13)]:List (Int)) fun v14 =>
 (aH3 1 p6.2.1 v14).bind fun v15 =>
 aJy (IntKind.i64.wrap (p6.2.2 - (1:Int))) fun v16 =>
 tN (p6.1, v15, v16))) else (lJ (some p6.2.1))) (a, ([] : List (Int)), v3)) = some (beI n (val a)) := by
  intro i n hi hn hw
  subst hi
  simp only [aKO]
  rw [pV (by omega) (by omega)]
  have:=aIu (body:=fun (p6:((Bool×Int×Int)×(List (Int)×Int))) =>
 bif (decide (p6.2.2≥(0:Int))) then (
 bif (decide (p6.2.2≥(8:Int))) then (
 (if (IntKind.u64.wrap ((8:Int) * (IntKind.u64.wrap (Int.tmod p6.2.2 (8:Int))))) < 0 then none else some (aJP IntKind.u64 p6.1.2.1 (IntKind.u64.wrap ((8:Int) * (IntKind.u64.wrap (Int.tmod p6.2.2 (8:Int))))).toNat)).bind fun v13 =>
 (aH3 1 p6.2.1 ([(IntKind.u8.wrap v13)]:List (Int))).bind fun v15 =>
 tN (p6.1,v15,(IntKind.i64.wrap (p6.2.2 - (1:Int))))) else (
 (if (IntKind.u64.wrap ((8:Int) * (IntKind.u64.wrap (Int.tmod p6.2.2 (8:Int))))) < 0 then none else some (aJP IntKind.u64 p6.1.2.2 (IntKind.u64.wrap ((8:Int) * (IntKind.u64.wrap (Int.tmod p6.2.2 (8:Int))))).toNat)).bind fun v13 =>
 (aH3 1 p6.2.1 ([(IntKind.u8.wrap v13)]:List (Int))).bind fun v15 =>
 tN (p6.1, v15, (IntKind.i64.wrap (p6.2.2 - (1 : Int)))))) else (lJ (some p6.2.1))) (fun k => (a, (beI n (val a)).take k, (n : Int) - 1 - k)) n (r := beI n (val a)) (fun k hk' => by
   obtain ⟨j,hj⟩:∃ j:Nat,n - 1 - k=j:=⟨_,rfl⟩
   have e:(n:Int) - 1 - k=(j:Int):=by omega
   have hjn:j < 16:=by omega
   have m1:Int.tmod (j:Int) 8=((j % 8:Nat):Int):=by
    rw [Int.tmod_eq_emod_of_nonneg (by omega)]; omega
   have m2:IntKind.u64.wrap ((8:Int) * (IntKind.u64.wrap (Int.tmod (j:Int) (8:Int))))=((8 * (j % 8):Nat):Int):=by
    rw [m1,aJJ,aJJ]; omega
   have m3:¬ (((8 * (j % 8):Nat):Int) < 0):=by omega
   have d:((j:Int)≥0):=by omega
   have dg:=digit h.1 h.2 hjn
   simp only [e,d,decide_true,aKJ,m2,m3,if_false,aKI,Int.toNat_natCast]
   have ap:∀ z:Int,aH3 1 ((beI n (val a)).take k) [z]=some ((beI n (val a)).take k++[z]):=fun z=>aJm (by rw [List.length_take,beI_length]; simp only [List.length_singleton]; omega) (by rw [List.length_take,beI_length]; simp only [List.length_singleton]; omega)
   rw [beI_take (by omega),show n - 1 - k=j from hj]
   have fin:(n:Int) - 1 - ((k+1:Nat):Int)=(j:Int) - 1:=by omega
   rw [fin,pV (by omega) (by omega)]
   by_cases h8:(j:Int)≥8
   · rw [if_pos h8] at dg
     simp only [h8,decide_true,aKJ,ap,aKI,dg,aJZ]
     rfl
   · rw [if_neg h8] at dg
     simp only [h8,decide_false,aKK,ap,aKI,dg,aJZ]
     rfl) (by
   have d:¬ ((n:Int) - 1 - n≥0):=by omega
   have t:(beI n (val a)).take n=beI n (val a):=List.take_of_length_le (by rw [beI_length]; omega)
   simp only [d,decide_false,aKK,aIE,t]) (m:=N+19) (by omega)
  rw [show ((n:Int) - 1 - ((0:Nat):Int))=(n:Int) - 1 by omega] at this
  exact this
 cases hf:a.1 with
 | true =>
  have:=key 16 16 rfl (by omega) (by unfold wid; rw [hf]; rfl)
  simp only [aKJ]
  rw [show wid a=16 by unfold wid; rw [hf]; rfl]
  exact this
 | false =>
  have:=key 4 4 rfl (by omega) (by unfold wid; rw [hf]; rfl)
  simp only [aKK]
  rw [show wid a=4 by unfold wid; rw [hf]; rfl]
  exact this
/- from bytes -/
def ofB (l:List Int):Int:=l.foldl (fun v b=>v * 256+b) 0
def Bs (l:List Int):Prop:=∀ x∈l,0≤x∧x≤255
theorem ofB_append (l:List Int) (b:Int):ofB (l++[b])=ofB l * 256+b:=by
 unfold ofB; rw [List.foldl_append]; rfl
theorem ofB_rng {l:List Int} (h:Bs l):∀ k≤l.length,0≤ofB (l.take k)∧ofB (l.take k) < 256 ^ k
 | 0,_=>by rw [List.take_zero]; exact ⟨Int.le_refl _,by decide⟩
 | k+1,hk=>by
  have ih:=ofB_rng h k (by omega)
  have hb:=h _ (List.getElem_mem (show k < l.length by omega))
  rw [List.take_add_one,List.getElem?_eq_getElem (by omega),Option.toList_some,ofB_append,Int.pow_succ]
  omega
theorem ofB_beI:∀ (n:Nat) (v:Int),ofB (beI n v)=v % 256 ^ n:=by
 have gen:∀ (n:Nat) (v u:Int),(beI n v).foldl (fun v b=>v * 256+b) u=u * 256 ^ n+v % 256 ^ n:=by
  intro n
  induction n with
  | zero=>intro v u; simp only [beI,List.foldl_nil,Int.pow_zero]; omega
  | succ n ih =>
   intro v u
   rw [beI,List.foldl_cons,ih,mod_split v n,Int.pow_succ,Int.add_mul,Int.mul_assoc,Int.mul_comm 256]
   omega
 intro n v
 rw [ofB,gen]; omega
theorem shl_pair {x y b:Int} (hx:0≤x∧x < 72057594037927936) (hy:U64 y) (hb:0≤b∧b≤255):bits .or .u64 (aIc .u64 x 8) (aJP .u64 y 56)=x * 256+y / 72057594037927936∧bits .or .u64 (aIc .u64 y 8) (IntKind.u64.wrap b)=y * 256 % 18446744073709551616+b:=by
 obtain ⟨h3,h4⟩:=hy
 have e11:(2:Int) ^ 8=256:=rfl
 have e56:(2:Int) ^ 56=72057594037927936:=rfl
 rw [shr64 (by decide) h3,shl64 (by decide),shl64 (by decide),e11,e56,aJJ,Int.emod_eq_of_lt (a:=b) (by omega) (by omega)]
 have:x * 256 % 18446744073709551616=x * 256:=by omega
 rw [this]
 rw [or64 8 ⟨by omega,by omega⟩ ⟨x,by rw [e11,Int.mul_comm]⟩ (by omega) (by rw [e11]; omega) (by decide),or64 8 ⟨by omega,by omega⟩ ⟨y % 72057594037927936,by rw [e11]; omega⟩ (by omega) (by rw [e11]; omega) (by decide)]
 exact ⟨rfl,rfl⟩
theorem from_ok (N:Nat) {l:List Int} (hl:Bs l) (h:l.length=4∨l.length=16):n59 (N+20) l=some (mkA (l.length==16) (ofB l),0):=by
 rw [e59]
 have hb:(bif ((aJO l) != (4:Int)) then ((aJO l) != (16:Int)) else false)=false:=by
  unfold aJO
  rcases h with h | h <;> rw [h] <;> rfl
 have h16:(aJO l==(16:Int))=(l.length==16):=by
  unfold aJO
  rcases h with h | h <;> rw [h] <;> rfl
 simp only [aKO,hb,aKK,aJY,h16]
 have hlen:l.length≤16:=by omega
 have key:=aIu (body:=fun (p3:((Bool×Int×Int)×((Bool×Int×Int)×(List (Int)×(Int×Int))))) =>
 bif (decide (p3.2.2.2.2 < p3.2.2.2.1)) then ((aEU p3.2.2.1 p3.2.2.2.2).bind fun v5 =>
 tN (p3.1, (p3.2.1.1, (bits .or IntKind.u64 (aIc IntKind.u64 p3.2.1.2.1 8) (aJP IntKind.u64 p3.2.1.2.2 56)), bits .or IntKind.u64 (aIc IntKind.u64 p3.2.1.2.2 8) (IntKind.u64.wrap v5)), p3.2.2.1, p3.2.2.2.1, IntKind.i64.wrap (p3.2.2.2.2 + (1 : Int)))) else (lJ (some (p3.2.1, (0 : Int))))) (fun k => (((false, 0, 0) : Ad), mkA (l.length == 16) (ofB (l.take k)), l, aJO l, (k : Int))) l.length (r := (mkA (l.length == 16) (ofB l), 0)) (fun k hk => by
     have hr:=ofB_rng hl k (by omega)
     have hp:(256:Int) ^ k≤256 ^ 15:=by
      have:(256:Nat) ^ k≤256 ^ 15:=Nat.pow_le_pow_right (by omega) (by omega)
      exact_mod_cast this
     have h15:(256:Int) ^ 15=1329227995784915872903807060280344576:=by decide
     have d:(k:Int) < aJO l:=by unfold aJO; omega
     have hb:=hl _ (List.getElem_mem hk)
     rw [List.take_add_one,List.getElem?_eq_getElem hk,Option.toList_some,ofB_append]
     generalize ofB (l.take k)=v at *
     have us:=shl_pair (x:=v / 18446744073709551616) (y:=v % 18446744073709551616) (b:=l[k]) (by omega) ⟨by omega,by omega⟩ hb
     simp only [d,decide_true,aKJ,aJo hk,aKI,mkA,us.1,us.2]
     rw [pV (by omega) (by omega),aJZ]
     have q1:v / 18446744073709551616 * 256+v % 18446744073709551616 / 72057594037927936=(v * 256+l[k]) / 18446744073709551616:=by omega
     have q2:v % 18446744073709551616 * 256 % 18446744073709551616+l[k]=(v * 256+l[k]) % 18446744073709551616:=by omega
     rw [q1,q2]
     rfl) (by
     have d:¬ ((l.length:Int) < aJO l):=by unfold aJO; omega
     simp only [d,decide_false,aKK,aIE,List.take_length]) (m:=N+19) (by omega)
 exact key
theorem bytesA_Bs (a:Ad):Bs (bytesA a):=by
 unfold bytesA
 split
 · exact beI_rng _ _
 · intro x hx; cases hx
end Go.Proofs.YtlgnmgbnbomckaaGreatDoor
