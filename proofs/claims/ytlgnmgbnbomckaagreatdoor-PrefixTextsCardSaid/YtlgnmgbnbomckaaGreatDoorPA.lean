/- Chapter 02, plainly: masks, first addresses, valid prefixes, prefixes made. -/
import Derived.Test.YtlgnmgbnbomckaaGreatDoorQO
import Derived.Test.YtlgnmgbnbomckaaGreatDoorT32
namespace Go.Proofs.YtlgnmgbnbomckaaGreatDoor
open Go.VM
set_option maxRecDepth 10000
abbrev Pf:=Ad×Int
def W (f:Bool):Nat:=if f then 128 else 32
theorem W_cases (f:Bool):W f=128∨W f=32:=by cases f <;> simp [W]
theorem W_wid (a:Ad):8 * wid a=W a.1:=by unfold wid W; cases a.1 <;> rfl
theorem mkA_pair {f:Bool} {x y:Int} (hy:U64 y):mkA f (x * 18446744073709551616+y)=(f,x,y):=by
 obtain ⟨h1,h2⟩:=hy
 simp only [mkA]
 congr 1
 congr 1 <;> omega
theorem p2_64:(2:Int) ^ 64=18446744073709551616:=by decide
theorem fl_split_lo {x y:Int} (hy:U64 y) {k:Nat} (hk:k≤64):fl (x * 18446744073709551616+y) k=x * 18446744073709551616+fl y k:=by
 have hd:(2:Int) ^ k∣x * 18446744073709551616:=by
  rw [← p2_64]
  exact Int.dvd_trans (p2_dvd hk) ⟨x,Int.mul_comm _ _⟩
 refine (fl_uniq (Int.dvd_add hd (fl_dvd y k))).2 ?_
 have:=fl_le y k
 omega
theorem fl_split_hi {x y:Int} (hy:U64 y) {k:Nat} (hk:64≤k):fl (x * 18446744073709551616+y) k=fl x (k - 64) * 18446744073709551616:=by
 obtain ⟨j,rfl⟩:∃ j,k=j+64:=⟨k - 64,by omega⟩
 rw [Nat.add_sub_cancel]
 obtain ⟨q,hq⟩:=fl_dvd x j
 have hd:(2:Int) ^ (j+64)∣fl x j * 18446744073709551616:=⟨q,by rw [hq,Int.pow_add,p2_64,Int.mul_assoc,Int.mul_assoc,Int.mul_comm q]⟩
 refine (fl_uniq hd).2 ?_
 have h1:=fl_le x j
 obtain ⟨h2,h3⟩:=hy
 rw [Int.pow_add,p2_64]
 generalize fl x j=X at *
 generalize (2:Int) ^ j=p at *
 omega
theorem fl64 {y:Int} (hy:U64 y):fl y 64=0:=(fl_uniq ⟨0,by simp⟩).2 (by obtain ⟨h1,h2⟩:=hy; rw [p2_64]; omega)
theorem width_eq (N:Nat) (a:Ad):n46 (N+1) a=some (W a.1:Int)∧n58 (N+1) a=some (W a.1:Int):=by
 rw [e46,e58]
 unfold W
 cases a.1 <;> exact ⟨rfl,rfl⟩
theorem shl_one {k:Nat} (hk:k≤64):IntKind.u64.wrap (aIc .u64 1 k - 1)=2 ^ k - 1:=by
 rw [shl64 hk,aJJ,Int.one_mul]
 have hp:=p2 k
 by_cases h:k=64
 · subst h; decide
 · have h1 : (2 : Int) ^ k ≤ 2 ^ 63 := by
     have:(2:Nat) ^ k≤2 ^ 63:=Nat.pow_le_pow_right (by omega) (by omega)
     rw [natpow,natpow]; exact_mod_cast this
   have h63:(2:Int) ^ 63=9223372036854775808:=by decide
   omega
theorem masks_eq (N:Nat) {k:Nat} (hk:k≤128):n49 (N+1) (k:Int)=some (if 64 < k then (2 ^ (k - 64) - 1,18446744073709551615) else (0,2 ^ k - 1)):=by
 rw [e49]
 have sh:∀ (j:Nat),j≤64→(if (IntKind.u64.wrap (j:Int)) < 0 then none else some (aIc IntKind.u64 (1:Int) (IntKind.u64.wrap (j:Int)).toNat))=some (aIc .u64 1 j):=fun j hj=>by
  rw [aJJ,Int.emod_eq_of_lt (by omega) (by omega),if_neg (by omega),Int.toNat_natCast]
 by_cases h:64 < k
 · rw [if_pos h]
   exact bifT (decide_eq_true (by omega)) (letB (v:=((k - 64:Nat):Int)) (wv _ (by omega) (by omega) (by omega)) (bindB (sh (k - 64) (by omega)) (letB (shl_one (by omega)) rfl)))
 · rw [if_neg h]
   exact bifF (decide_eq_false (by omega)) (bindB (sh k (by omega)) (letB (shl_one (by omega)) rfl))
/-- The first address with the bits from n on 0. -/
def fst (a:Ad) (n:Nat):Ad:=mkA a.1 (fl (val a) (W a.1 - n))
theorem first_eq (N:Nat) {a:Ad} (h:AD a) {n:Nat} (hn:n≤W a.1):n50 (N+2) (a,(n:Int))=some (fst a n):=by
 rw [e50]
 obtain ⟨hx,hy⟩:=h
 have hW:=W_cases a.1
 refine bindB (width_eq N a).1 ?_
 have hk:IntKind.i64.wrap ((W a.1:Int) - (n:Int))=((W a.1 - n:Nat):Int):=wv _ (by omega) (by omega) (by omega)
 rw [hk]
 refine bindB (masks_eq N (k:=W a.1 - n) (by omega)) ?_
 unfold fst
 have hk8:W a.1 - n≤128:=by omega
 generalize W a.1 - n=k at *
 obtain ⟨f,x,y⟩:=a
 simp only [val] at *
 by_cases h:64 < k
 · rw [if_pos h,fl_split_hi hy (by omega)]
   by_cases h128:k≤128
   · refine letB (andNot64 (k - 64) hx (by omega)) (letB (v:=0) ?_ ?_)
     · have:=andNot64 64 hy (by omega)
       rw [p2_64] at this
       rw [show (18446744073709551615:Int)=18446744073709551616 - 1 from rfl]
       exact this.trans (fl64 hy)
     · have:=mkA_pair (f:=f) (x:=fl x (k - 64)) (y:=0) ⟨by omega,by omega⟩
       rw [Int.add_zero] at this
       rw [this]
   · omega
 · rw [if_neg h,fl_split_lo hy (by omega)]
   have h1:=fl_le y k
   have h0:=fl_nonneg hy.1 k
   refine letB (v:=x) ?_ (letB (andNot64 k hy (by omega)) ?_)
   · have:=andNot64 0 hx (by omega)
     rw [fl_zero] at this
     exact this
   · rw [mkA_pair ⟨h0,by have:=hy.2; omega⟩]
def okP (p:Pf):Bool:=valid p.1&&(decide (0≤p.2∧p.2≤(W p.1.1:Int))&&decide (fst p.1 p.2.toNat=p.1))
def PK (p:Pf):Prop:=OkA p.1∧0≤p.2∧p.2≤(W p.1.1:Int)∧fl (val p.1) (W p.1.1 - p.2.toNat)=val p.1
theorem fst_eq_iff {a:Ad} (h:AD a) (n:Nat):fst a n=a↔fl (val a) (W a.1 - n)=val a:=by
 unfold fst
 constructor
 · intro e
   have:=congrArg val e
   rwa [val_mk] at this
 · intro e; rw [e,h.mk_val]
theorem okP_iff {p:Pf} (h:AD p.1):okP p=true↔PK p:=by
 unfold okP PK
 rw [Bool.and_eq_true,Bool.and_eq_true,decide_eq_true_eq,decide_eq_true_eq,fst_eq_iff h]
 constructor
 · rintro ⟨h1,⟨h2,h3⟩,h4⟩; exact ⟨valid_ok h h1,h2,h3,h4⟩
 · rintro ⟨h1,h2,h3,h4⟩; exact ⟨h1.valid,⟨h2,h3⟩,h4⟩
theorem valid_p (N:Nat) {p:Pf} (h:AD p.1):n38 (N+4) p=some (okP p):=by
 rw [e38]
 unfold okP
 refine bindB (valid_eq (N+2) p.1).1 (letB rfl ?_)
 cases hv:valid p.1 with
 | false=>exact bindB (bifF rfl rfl) (letB (bifF rfl rfl) (bindB (bifF rfl rfl) (letB rfl rfl)))
 | true =>
  by_cases h0:0≤p.2
  · refine bindB (bifT (decide_eq_true h0) (width_eq (N+2) p.1).1) (letB (bifT (decide_eq_true h0) rfl) ?_)
    by_cases h1:p.2≤(W p.1.1:Int)
    · have hf:=first_eq (N+1) h (n:=p.2.toNat) (by omega)
      rw [Int.toNat_of_nonneg h0] at hf
      refine bindB (bifT (decide_eq_true h1) hf) (letB rfl ?_)
      rw [aIF,ad_beq,decide_eq_true h1,decide_eq_true (show 0≤p.2∧p.2≤(W p.1.1:Int) from ⟨h0,h1⟩)]
      rfl
    · refine bindB (bifF (decide_eq_false h1) rfl) (letB rfl ?_)
      rw [decide_eq_false h1,decide_eq_false (show ¬ (0≤p.2∧p.2≤(W p.1.1:Int)) from fun h=>h1 h.2)]
      rfl
  · have e:(bif true then decide (p.2≥0) else false)=false:=decide_eq_false h0
    refine bindB (bifF e rfl) (letB (bifF e rfl) (bindB (bifF rfl rfl) (letB rfl ?_)))
    rw [decide_eq_false (show ¬ (0≤p.2∧p.2≤(W p.1.1:Int)) from fun h=>h0 h.1)]
    rfl
/-- What a prefix of a length is made of. -/
def mkP (a:Ad) (n:Int):Pf×Int :=
 if valid a=false then (((false,0,0),0),1) else if n < 0∨n > (W a.1:Int) then (((false,0,0),0),9) else ((fst a n.toNat,n),0)
/-- Bits cleared one by one. -/
theorem clear_step (v : Int) {w n i : Nat} (hn : n ≤ i) (hi : i < 8 * w) :
  (beI w (fl v (8 * w - n)+v % 2 ^ (8 * w - i))).set (i / 8) (bits .andNot .u8 ((fl v (8 * w - n)+v % 2 ^ (8 * w - i)) / 256 ^ (w - 1 - i / 8) % 256) (aJP .u8 128 (i % 8)))=beI w (fl v (8 * w - n)+v % 2 ^ (8 * w - (i+1))):=by
 have ht:8 * w - i=(8 * w - 1 - i)+1:=by omega
 have ht2:8 * w - (i+1)=8 * w - 1 - i:=by omega
 have hput:=beI_put (fl v (8 * w - n)+v % 2 ^ (8 * w - i)) 0 hi (by omega)
 have hc:=(byte_clr (q:=(fl v (8 * w - n)+v % 2 ^ (8 * w - i)) / 256 ^ (w - 1 - i / 8) % 256) (7 - i % 8) (by omega) (by omega)).1
 rw [show 7 - (7 - i % 8)=i % 8 by omega] at hc
 rw [hc,byte_bit _ hi,hput]
 have hA:(2:Int) ^ ((8 * w - 1 - i)+1)∣fl v (8 * w - n):=Int.dvd_trans (p2_dvd (by omega)) (fl_dvd v _)
 have hr:=Int.emod_nonneg v (Int.ne_of_gt (p2 (8 * w - 1 - i)))
 have hr2:=Int.emod_lt_of_pos v (p2 (8 * w - 1 - i))
 have hb:=bit_of hA (bitI v (8 * w - 1 - i)) (bitI_rng _ _) ⟨hr,hr2⟩
 rw [ht2,ht,mod_bit]
 rw [show fl v (8 * w - n)+(v % 2 ^ (8 * w - 1 - i)+bitI v (8 * w - 1 - i) * 2 ^ (8 * w - 1 - i))=fl v (8 * w - n)+bitI v (8 * w - 1 - i) * 2 ^ (8 * w - 1 - i)+v % 2 ^ (8 * w - 1 - i) by omega,hb]
 congr 1
 rw [Int.sub_mul,Int.zero_mul]
 omega
end Go.Proofs.YtlgnmgbnbomckaaGreatDoor
