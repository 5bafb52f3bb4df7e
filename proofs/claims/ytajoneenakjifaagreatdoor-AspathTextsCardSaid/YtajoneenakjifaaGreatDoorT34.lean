/- Plain steps through what is read; rounds that may end early; decimal numbers as texts. No program. -/
import Derived.Test.YtajoneenakjifaaGreatDoorTC
import Derived.Lib.ItoaMem
namespace Go.VM
set_option maxRecDepth 10000
theorem letB {α β:Type} {x v:α} {f:α→β} {r:β} (h:x=v) (h2:f v=r):aJy x f=r:=by rw [aKO,h,h2]
theorem bindB {α β:Type} {x:Option α} {v:α} {f:α→Option β} {r:Option β} (h:x=some v) (h2:f v=r):x.bind f=r:=by rw [h,aKI,h2]
theorem bifF {α:Type} {b:Bool} {x y r:α} (h:b=false) (h2:y=r):(bif b then x else y)=r:=by rw [h,aKK,h2]
theorem bifT {α:Type} {b:Bool} {x y r:α} (h:b=true) (h2:x=r):(bif b then x else y)=r:=by rw [h,aKJ,h2]
theorem jB {α R:Type} {k:α→Option R} {f:(α→Option R)→Option R} {r:Option R} (h:f k=r):aBJ k f=r:=by rw [aJY,h]
theorem leaveB {α R:Type} {x:Option R} {r:R} (h:x=some r):(lJ x:Option (α ⊕ R))=some (.inr r):=by rw [h]; exact aIE r
theorem loopN_seq' {α R:Type} {body:α→Option (α ⊕ R)} (s:Nat→α) (n:Nat) {r:R} {x:α} (hx:x=s 0) (h:∀ k,k < n→body (s k)=some (.inl (s (k+1)))) (hr:body (s n)=some (.inr r)) {m:Nat} (hm:n < m):eG m body x=some r:=by
 rw [hx]; exact aIu s n h hr hm
theorem wv {n:Int} (m:Int) (h:n=m) (h1:-9223372036854775808≤m) (h2:m≤9223372036854775807):IntKind.i64.wrap n=m:=by rw [h]; exact pV h1 h2
/-- Rounds that may end early. -/
def runF {A:Type} (F:Nat→A→Option A):Nat→Nat→A→Option A
 | 0,_,a=>some a
 | m+1,i,a=>(F i a).bind (runF F m (i+1))
theorem loopN_F {α R A : Type} {body : α → Option (α ⊕ R)} (F : Nat → A → Option A) (P : Nat → A → Prop) (s : Nat → A → α) (n : Nat) (bad : R) (fin : A → R)
  (h:∀ i,i < n→∀ a,P i a→(∀ b,F i a=some b→P (i+1) b∧body (s i a)=some (.inl (s (i+1) b)))∧(F i a=none→body (s i a)=some (.inr bad)))
  (he:∀ a,P n a→body (s n a)=some (.inr (fin a))):∀ (m i:Nat) (a:A),i+m=n→P i a→∀ M,m < M→eG M body (s i a)=some (match runF F m i a with | some b=>fin b | none=>bad)∧∀ b,runF F m i a=some b→P n b
 | 0,i,a,hi,hP,M+1,hM=>by
  have:i=n:=by omega
  subst this
  exact ⟨by simp only [eG,he a hP,runF],fun b hb=>by cases hb; exact hP⟩
 | m+1,i,a,hi,hP,M+1,hM=>by
  obtain ⟨h1,h2⟩:=h i (by omega) a hP
  cases hF:F i a with
  | none=>exact ⟨by simp only [eG,h2 hF,runF,hF,Option.bind_none],fun b hb=>by simp only [runF,hF,Option.bind_none] at hb; cases hb⟩
  | some b =>
   obtain ⟨h3,h4⟩:=h1 b hF
   obtain ⟨k1,k2⟩:=loopN_F F P s n bad fin h he m (i+1) b (by omega) h3 M (by omega)
   refine ⟨?_,?_⟩
   · simp only [eG,h4,runF,hF,Option.bind_some]; exact k1
   · simp only [runF,hF,Option.bind_some]; exact k2
theorem loopF_go {α R A : Type} {body : α → Option (α ⊕ R)} (F : Nat → A → Option A) (P : Nat → A → Prop) (s : Nat → A → α) (n : Nat) (bad : R) (fin : A → R) (a : A) {x : α} {r : R} {M : Nat} (hx : x = s 0 a) (hP : P 0 a)
  (h:∀ i,i < n→∀ a,P i a→(∀ b,F i a=some b→P (i+1) b∧body (s i a)=some (.inl (s (i+1) b)))∧(F i a=none→body (s i a)=some (.inr bad)))
  (he:∀ a,P n a→body (s n a)=some (.inr (fin a))) (hM:n < M) (hr:(match runF F n 0 a with | some b=>fin b | none=>bad)=r):eG M body x=some r:=by
 rw [hx,← hr]
 exact (loopN_F F P s n bad fin h he n 0 a (Nat.zero_add n) hP M hM).1
theorem nBytes_get {w:List UInt8} {i:Nat} (h:i < w.length):(iJ w).getD i 0=((w[i]'h).toNat:Int):=by
 unfold iJ
 rw [List.getD,List.getElem?_map,List.getElem?_eq_getElem h]; rfl
theorem nIdxB_lt {w:List UInt8} {i:Nat} (h:i < w.length):aKH w (i:Int)=some ((iJ w).getD i 0):=by
 unfold aKH
 rw [aJo h,nBytes_get h]; rfl
theorem cat_ok {s t:List UInt8} (h:s.length+t.length≤9223372036854775807):aJt s t=some (s++t):=if_pos h
def isD (c:UInt8):Bool:=decide (48≤c.toNat∧c.toNat≤57)
def dval (a:Nat) (l:List UInt8):Nat:=l.foldl (fun a c=>a * 10+(c.toNat - 48)) a
theorem dval_nil (a:Nat):dval a []=a:=rfl
theorem dval_cons (a:Nat) (c:UInt8) (r:List UInt8):dval a (c::r)=dval (a * 10+(c.toNat - 48)) r:=by unfold dval; rw [List.foldl_cons]
theorem dval_ge:∀ (l:List UInt8) (a:Nat),a≤dval a l
 | [],_=>Nat.le_refl _
 | c::r,a=>by rw [dval_cons]; exact Nat.le_trans (by omega) (dval_ge r _)
theorem dval_snoc (c:UInt8) (l:List UInt8) (a:Nat):dval a (l++[c])=dval a l * 10+(c.toNat - 48):=by
 unfold dval
 rw [List.foldl_append]; rfl
theorem parse_digits:∀ (l:List UInt8) (a:Nat),a < 18446744073709551616→l.all isD=true→Lib.parseUint10 a l=if dval a l < 18446744073709551616 then .ok (dval a l) else .range
 | [],a,h,_=>by rw [Lib.parseUint10,dval_nil,if_pos h]
 | c::r,a,h,hd=>by
  rw [List.all_cons,Bool.and_eq_true] at hd
  have hc:48≤c.toNat∧c.toNat≤57:=of_decide_eq_true hd.1
  rw [Lib.parseUint10,if_pos hc,dval_cons]
  have hg:=dval_ge r (a * 10+(c.toNat - 48))
  by_cases h1:1844674407370955162≤a
  · rw [if_pos h1,if_neg (by omega)]
  · rw [if_neg h1]
    by_cases h2:18446744073709551616≤a * 10+(c.toNat - 48)
    · rw [if_pos h2,if_neg (by omega)]
    · rw [if_neg h2]; exact parse_digits r _ (by omega) hd.2
theorem atoi_digits {w:List UInt8} (hw:w≠[]) (hd:w.all isD=true):(dval 0 w < 9223372036854775808∧aD4 w=((dval 0 w:Int),false))∨(9223372036854775808≤dval 0 w∧(aD4 w).2=true):=by
 cases w with
 | nil=>exact absurd rfl hw
 | cons c r =>
  have hp:=parse_digits (c::r) 0 (by decide) hd
  rw [List.all_cons,Bool.and_eq_true] at hd
  have hc:48≤c.toNat∧c.toNat≤57:=of_decide_eq_true hd.1
  have hm:Lib.parseMag (if c.toNat=43∨c.toNat=45 then r else c::r)=if dval 0 (c::r) < 18446744073709551616 then .ok (dval 0 (c::r)) else .range:=by
   rw [if_neg (by omega),Lib.parseMag,if_neg (by simp),hp]
  have ha:Lib.atoiAll (c::r)=if dval 0 (c::r) < 9223372036854775808 then .ok (dval 0 (c::r):Int) else .range:=by
   unfold Lib.atoiAll
   simp only [hm]
   by_cases h1:dval 0 (c::r) < 18446744073709551616
   · rw [if_pos h1]
     by_cases h2:dval 0 (c::r) < 9223372036854775808
     · rw [if_pos h2]
       show (if ¬ c.toNat=45∧_ then _ else _)=_
       rw [if_neg (by omega),if_neg (by omega),if_neg (by omega)]
     · rw [if_neg h2]
       show (if ¬ c.toNat=45∧_ then _ else _)=_
       rw [if_pos (by omega)]
   · rw [if_neg h1,if_neg (by omega)]
  unfold aD4
  rw [ha]
  by_cases h2:dval 0 (c::r) < 9223372036854775808
  · rw [if_pos h2]; exact .inl ⟨h2,rfl⟩
  · rw [if_neg h2]; exact .inr ⟨by omega,rfl⟩
/- decimal digits -/
theorem dd_one {u:Nat} (h:u < 10):Lib.decDigits u=[UInt8.ofNat (48+u)]:=by rw [Lib.decDigits,dif_pos h]
theorem dd_more {u:Nat} (h:¬ u < 10):Lib.decDigits u=Lib.decDigits (u / 10)++[UInt8.ofNat (48+u % 10)]:=by rw [Lib.decDigits,dif_neg h]
theorem dg_nat {k:Nat} (h:k < 10):(UInt8.ofNat (48+k)).toNat=48+k:=by rw [UInt8.toNat_ofNat']; omega
theorem isD_dg {k:Nat} (h:k < 10):isD (UInt8.ofNat (48+k))=true:=by
 unfold isD
 rw [dg_nat h]
 exact decide_eq_true (by omega)
theorem dd_facts (u:Nat):Lib.decDigits u≠[]∧(Lib.decDigits u).all isD=true∧dval 0 (Lib.decDigits u)=u:=by
 induction u using Nat.strongRecOn with
 | _ u ih =>
  by_cases h:u < 10
  · rw [dd_one h]
    refine ⟨by simp,by rw [List.all_cons,isD_dg h]; rfl,?_⟩
    rw [dval_cons,dval_nil,dg_nat h]; omega
  · obtain ⟨h1,h2,h3⟩:=ih (u / 10) (by omega)
    rw [dd_more h]
    refine ⟨by simp,?_,?_⟩
    · rw [List.all_append,h2,List.all_cons,isD_dg (Nat.mod_lt u (by omega))]; rfl
    · rw [dval_snoc,h3,dg_nat (Nat.mod_lt u (by omega))]; omega
theorem dd_len:∀ (k u:Nat),u < 10 ^ (k+1)→(Lib.decDigits u).length≤k+1
 | 0,u,h=>by rw [dd_one (by simpa using h)]; exact Nat.le_refl _
 | k+1,u,h=>by
  by_cases hu:u < 10
  · rw [dd_one hu]; simp
  · rw [dd_more hu,List.length_append]
    have:=dd_len k (u / 10) (by rw [Nat.div_lt_iff_lt_mul (by omega),← Nat.pow_succ]; exact h)
    simp only [List.length_cons,List.length_nil]
    omega
theorem atoi_dd {u:Nat} (h:u < 9223372036854775808):aD4 (Lib.decDigits u)=((u:Int),false):=by
 obtain ⟨h1,h2,h3⟩:=dd_facts u
 rcases atoi_digits h1 h2 with ⟨_,h4⟩ | ⟨h4,_⟩
 · rw [h4,h3]
 · omega
theorem atoi_neg {u:Nat} (h1:1≤u) (h:u < 9223372036854775808):aD4 (45::Lib.decDigits u)=(-(u:Int),false):=by
 obtain ⟨k1,k2,k3⟩:=dd_facts u
 have hp:=parse_digits (Lib.decDigits u) 0 (by decide) k2
 rw [k3,if_pos (by omega)] at hp
 have hm:Lib.parseMag (Lib.decDigits u)=.ok u:=by rw [Lib.parseMag,if_neg k1,hp]
 have ha:Lib.atoiAll (45::Lib.decDigits u)=.ok (-(u:Int)):=by
  unfold Lib.atoiAll
  simp only [show (45:UInt8).toNat=45 from rfl]
  rw [if_pos (.inr trivial),hm]
  simp only
  rw [if_neg (by simp),if_neg (by omega),if_pos trivial]
 unfold aD4
 rw [ha]
theorem int_cases (v:Int):(∃ u:Nat,1≤u∧v=-(u:Int))∨∃ u:Nat,v=(u:Int):=by
 by_cases hv:v < 0
 · exact .inl ⟨v.natAbs,by omega,by omega⟩
 · exact .inr ⟨v.toNat,by omega⟩
theorem atoi_itoa {v:Int} (h:-9223372036854775808 < v∧v < 9223372036854775808):aD4 (Lib.itoa v)=(v,false):=by
 rcases int_cases v with ⟨u,hu,rfl⟩ | ⟨u,rfl⟩
 · rw [Lib.itoa_neg u hu,atoi_neg hu (by omega)]
 · rw [Lib.itoa_nonneg u,atoi_dd (by omega)]
theorem dd_no {u:Nat} {c:UInt8} (h:isD c=false):c∉Lib.decDigits u:=fun hm=>by
 have:=List.all_eq_true.1 (dd_facts u).2.1 c hm
 rw [h] at this; cases this
theorem itoa_no {v:Int} {c:UInt8} (h:isD c=false) (h2:c≠45):c∉Lib.itoa v:=fun hm=>by
 rcases int_cases v with ⟨u,hu,rfl⟩ | ⟨u,rfl⟩
 · rw [Lib.itoa_neg u hu] at hm
   rcases List.mem_cons.1 hm with e | hm
   · exact h2 e
   · exact dd_no h hm
 · rw [Lib.itoa_nonneg u] at hm
   exact dd_no h hm
end Go.VM
