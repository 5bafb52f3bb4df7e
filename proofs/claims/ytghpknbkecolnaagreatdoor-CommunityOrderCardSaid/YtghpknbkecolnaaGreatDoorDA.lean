/- Chapter 17, plainly: add, remove and has, for the program and the document's answer. -/
import Derived.Test.YtghpknbkecolnaaGreatDoorCG
namespace Go.Proofs.YtghpknbkecolnaaGreatDoor
open Go.VM Go.Txt
set_option maxRecDepth 10000
def eqC (a b:Cm):Bool:=(a.1==b.1)&&(a.2==b.2)
theorem eqC_d (a b:Cm):eqC a b=decide (a=b):=by
 obtain ⟨a,a2⟩:=a; obtain ⟨b,b2⟩:=b
 unfold eqC
 by_cases h:a=b <;> by_cases k:a2=b2 <;> simp [h,k]
/- has -/
def HB {T:Type} (eq:T→T→Bool):(T×(List T×(Int×Int)))→Option ((T×(List T×(Int×Int))) ⊕ Bool):=fun p2 =>
 aJy (decide (p2.2.2.2 < p2.2.2.1)) fun v3 =>
 bif v3 then ((aEU p2.2.1 p2.2.2.2).bind fun v4 =>
 aJy (false != (eq v4 p2.1)) fun v5 =>
 bif v5 then (lJ (some true)) else (aJy (IntKind.i64.wrap (p2.2.2.2+(1:Int))) fun v6 =>
 tN (p2.1,p2.2.1,p2.2.2.1,v6))) else (lJ (some false))
/- index -/
def XB {T:Type} (eq:T→T→Bool):(List T×(T×(Int×Int)))→Option ((List T×(T×(Int×Int))) ⊕ Int):=fun p2 =>
 aJy (decide (p2.2.2.2 < p2.2.2.1)) fun v3 =>
 bif v3 then ((aEU p2.1 p2.2.2.2).bind fun v4 =>
 aJy (false != (eq p2.2.1 v4)) fun v5 =>
 bif v5 then (lJ (some p2.2.2.2)) else (aJy (IntKind.i64.wrap (p2.2.2.2+(1:Int))) fun v6 =>
 tN (p2.1,p2.2.1,p2.2.2.1,v6))) else (lJ (some (-1:Int)))
theorem xb_run {T:Type} [DecidableEq T] {eq:T→T→Bool} (he:∀ a b,eq a b=decide (a=b)) (c:T) {l:List T} (hl:l.length≤100000):∀ (m i M:Nat),i+m=l.length→m < M→∃ v,eG M (XB eq) (l,c,aJO l,(i:Int))=some v∧decide (v≥(0:Int))=decide (c∈l.drop i)
 | 0,i,M,h,hM=>by
  obtain ⟨M,rfl⟩:∃ k,M=k+1:=⟨M - 1,by omega⟩
  rw [List.drop_of_length_le (by omega)]
  have:XB eq (l,c,aJO l,(i:Int))=some (.inr (-1)):=letB (v:=false) (decide_eq_false (show ¬ (i:Int) < aJO l by unfold aJO; omega)) (bifF rfl (leaveB rfl))
  exact ⟨-1,by simp only [eG,this],by simp⟩
 | m+1,i,M,h,hM=>by
  obtain ⟨M,rfl⟩:∃ k,M=k+1:=⟨M - 1,by omega⟩
  have hi:i < l.length:=by omega
  have e:=he c l[i]
  rw [List.drop_eq_getElem_cons hi]
  by_cases k:c=l[i]
  · have:XB eq (l,c,aJO l,(i:Int))=some (.inr (i:Int)):=letB (v:=true) (decide_eq_true (show (i:Int) < aJO l by unfold aJO; omega)) (bifT rfl (bindB (aJo hi) (letB (v:=true) (by rw [e,decide_eq_true k]; rfl) (bifT rfl (leaveB rfl)))))
    exact ⟨(i:Int),by simp only [eG,this],by rw [decide_eq_true (show (i:Int)≥0 by omega),decide_eq_true (by rw [← k]; exact List.mem_cons_self)]⟩
  · have:XB eq (l,c,aJO l,(i:Int))=some (.inl (l,c,aJO l,((i+1:Nat):Int))):=letB (v:=true) (decide_eq_true (show (i:Int) < aJO l by unfold aJO; omega)) (bifT rfl (bindB (aJo hi) (letB (v:=false) (by rw [e,decide_eq_false k]; rfl) (bifF rfl (letB (v:=((i+1:Nat):Int)) (wv _ (show (i:Int)+1=((i+1:Nat):Int) by omega) (by omega) (by omega)) rfl)))))
    obtain ⟨v,h1,h2⟩:=xb_run he c hl m (i+1) M (by omega) (by omega)
    exact ⟨v,by simp only [eG,this]; exact h1,by rw [h2]; exact decide_eq_decide.2 ⟨List.mem_cons_of_mem _,fun h=>(List.mem_cons.1 h).resolve_left k⟩⟩
theorem xb_all {T:Type} [DecidableEq T] {eq:T→T→Bool} (he:∀ a b,eq a b=decide (a=b)) (c:T) {l:List T} (hl:l.length≤100000) {M:Nat} (hM:l.length < M):∃ v,eG M (XB eq) (l,c,aJO l,(0:Int))=some v∧(decide (v≥(0:Int))=true↔c∈l):=by
 obtain ⟨v,h1,h2⟩:=xb_run he c hl l.length 0 M (by omega) hM
 exact ⟨v,h1,by rw [h2,decide_eq_true_eq,List.drop_zero]⟩
/- the order -/
structure Les {T:Type} (les:T→T→Bool):Prop where
 irr:∀ a,les a a=false
 tr:∀ a b c,les a b=true→les b c=true→les a c=true
 tri:∀ a b,les a b=false→les b a=false→a=b
theorem lesC_les:Les lesC where
 irr a:=by unfold lesC; rw [decide_eq_false_iff_not]; omega
 tr a b c:=by unfold lesC; rw [decide_eq_true_eq,decide_eq_true_eq,decide_eq_true_eq]; omega
 tri a b:=by
  obtain ⟨a,a2⟩:=a; obtain ⟨b,b2⟩:=b
  unfold lesC; rw [decide_eq_false_iff_not,decide_eq_false_iff_not,Prod.mk.injEq]; simp only; omega
theorem lesL_les:Les lesL where
 irr a:=by unfold lesL; rw [decide_eq_false_iff_not]; omega
 tr a b c:=by unfold lesL; rw [decide_eq_true_eq,decide_eq_true_eq,decide_eq_true_eq]; omega
 tri a b:=by
  obtain ⟨a,a2,a3⟩:=a; obtain ⟨b,b2,b3⟩:=b
  unfold lesL; rw [decide_eq_false_iff_not,decide_eq_false_iff_not,Prod.mk.injEq,Prod.mk.injEq]; simp only; omega
/-- In order. -/
def Inc {T:Type} (les:T→T→Bool) (l:List T):Prop:=∀ i j (hi:i < l.length) (hj:j < l.length),i < j→les l[i] l[j]=true
theorem vld_iff {T:Type} {z:T} {fit:T→Bool} {les:T→T→Bool} (L:Les les) {l:List T}:vld z fit les l=true↔(∀ c∈l,fit c=true)∧Inc les l∧l.length≤64:=by
 constructor
 · intro h
   refine ⟨vld_fit h,?_,vld_len h⟩
   unfold vld at h
   rw [Bool.and_eq_true,List.all_eq_true] at h
   have step:∀ k (hk:k+1 < l.length),les l[k] l[k+1]=true:=fun k hk=>by
    have:=h.1 (k+1) (by simp [List.mem_range']; omega)
    unfold okAt at this
    simp only [Nat.add_sub_cancel,Bool.and_eq_true,Bool.or_eq_true,decide_eq_true_eq,List.getD,List.getElem?_eq_getElem hk,List.getElem?_eq_getElem (show k < l.length by omega),Option.getD_some] at this
    rcases this.2 with q | q
    · omega
    · exact q
   have key:∀ d i (hi:i < l.length) (hj:i+(d+1) < l.length),les l[i] l[i+(d+1)]=true:=by
    intro d
    induction d with
    | zero=>intro i hi hj; exact step i hj
    | succ d ih=>intro i hi hj; exact L.tr _ _ _ (ih i hi (by omega)) (step (i+(d+1)) (by omega))
   intro i j hi hj hij
   obtain ⟨d,rfl⟩:∃ d,j=i+(d+1):=⟨j - i - 1,by omega⟩
   exact key d i hi hj
 · rintro ⟨h1,h2,h3⟩
   unfold vld
   rw [Bool.and_eq_true,List.all_eq_true,decide_eq_true_eq]
   refine ⟨fun i hi=>?_,h3⟩
   have hil:i < l.length:=by simp [List.mem_range'] at hi; omega
   unfold okAt
   simp only [Bool.and_eq_true,Bool.or_eq_true,decide_eq_true_eq,List.getD,List.getElem?_eq_getElem hil,Option.getD_some]
   refine ⟨h1 _ (List.getElem_mem hil),?_⟩
   by_cases h0:i=0
   · exact .inl h0
   · rw [List.getElem?_eq_getElem (show i - 1 < l.length by omega)]
     exact .inr (h2 (i - 1) i (by omega) hil (by omega))
theorem inc_srt {T:Type} {les:T→T→Bool} (L:Les les) {l:List T} (h:Inc les l) (hl:l.length≤100000) (c:T):Srt les l c:=by
 refine ⟨hl,fun i j hi hj hij hc=>?_⟩
 rcases Nat.lt_or_eq_of_le hij with q | rfl
 · exact L.tr _ _ _ (h i j hi hj q) hc
 · exact hc
theorem place_ex {T:Type} {les:T→T→Bool} {l:List T} {c:T} (h:Srt les l c):∃ i,Z.Place les l c i:=by
 have key:∀ m,m≤l.length→(∀ k (hk:k < l.length),m≤k→les l[k] c=false)→∃ i,Z.Place les l c i:=by
  intro m
  induction m with
  | zero=>intro _ h2; exact ⟨0,Nat.zero_le _,fun k _ hk=>absurd hk (Nat.not_lt_zero _),h2⟩
  | succ m ih =>
   intro h1 h2
   cases hm:les l[m] c with
   | true=>exact ⟨m+1,h1,fun k hk hkm=>h.2 k m hk (by omega) (by omega) hm,h2⟩
   | false =>
    refine ih (by omega) fun k hk hmk=>?_
    rcases Nat.lt_or_eq_of_le hmk with q | rfl
    · exact h2 k hk q
    · exact hm
 exact key l.length (Nat.le_refl _) fun k hk h=>absurd hk (by omega)
theorem has_at {T:Type} [DecidableEq T] {les:T→T→Bool} (L:Les les) {l:List T} (h:Inc les l) {c:T} {i:Nat} (hp:Z.Place les l c i):c∈l↔l[i]?=some c:=by
 constructor
 · intro hc
   obtain ⟨k,hk,e⟩:=List.getElem_of_mem hc
   have h1:¬ k < i:=fun q=>by
    have:=hp.2.1 k hk q
    rw [e,L.irr] at this; cases this
   have h2:¬ i < k:=fun q=>by
    have q1:=h i k (by omega) hk q
    have q2:=hp.2.2 i (by omega) (Nat.le_refl _)
    rw [e] at q1; rw [q1] at q2; cases q2
   have:k=i:=by omega
   subst this
   rw [List.getElem?_eq_getElem hk,e]
 · exact fun h=>List.mem_of_getElem? h
/-- What Add comes to. -/
def AddTo {T:Type} [DecidableEq T] (vd:List T→Bool) (fit:T→Bool) (les:T→T→Bool) (l:List T) (c:T) (r:List T×Int):Prop :=
 (vd l=false∨fit c=false)∧r=([],1)∨vd l=true∧fit c=true∧∃ i,Z.Place les l c i∧r=addR i l c
theorem has_pC (N:Nat) {l:List Cm} (c:Cm) (hN:l.length < N) (hl:l.length≤100000):∃ b,n24 (N+3) (l,c)=some b∧(b=true↔c∈l):=by
 obtain ⟨v,h1,h2⟩:=xb_all eqC_d c hl hN
 have h75:n75 (N+1) (l,c)=some v:=by rw [e75]; exact jB h1
 exact ⟨_,by rw [e24,e49,h75]; rfl,h2⟩
theorem rem_pC (N:Nat) {l:List Cm} (c:Cm) (hl:l.length≤100000):n22 (N+3) (l,c)=some (l.filter fun p=>!(decide (p=c))):=by
 rw [e22,e48]
 exact bindB (v:=l.filter fun p=>!(decide (p=c))) (by unfold gWithout; rw [if_pos hl]) rfl
theorem add_pC (N:Nat) {l:List Cm} (c:Cm) (hN:l.length < N) (h20:20 < N) (hl:l.length≤100000):∃ r,n20 (N+60) (l,c)=some r∧AddTo vldC fitC lesC l c r:=by
 rw [e20]
 have h1:=valid_c (N+9) (l:=l) (by omega) hl
 have h2:=fits_c (N+56) (by omega) c
 cases hv:vldC l with
 | false =>
  rw [hv] at h1
  exact ⟨_,bindB h1 (bindB (v:=false) rfl (letB (v:=true) rfl (bifT rfl rfl))),.inl ⟨.inl hv,rfl⟩⟩
 | true =>
  rw [hv] at h1
  cases hf:fitC c with
  | false =>
   rw [hf] at h2
   exact ⟨_,bindB h1 (bindB (bifT rfl h2) (letB (v:=true) rfl (bifT rfl rfl))),.inl ⟨.inr hf,rfl⟩⟩
  | true =>
   rw [hf] at h2
   obtain ⟨_,hi,_⟩:=(vld_iff lesC_les).1 hv
   obtain ⟨i,hp⟩:=place_ex (inc_srt lesC_les hi hl c)
   have h47:n47 (N+59) (l,c,())=some (addR i l c):=by
    rw [e47]; exact gAdd_eq (inc_srt lesC_les hi hl c) hp
   exact ⟨_,bindB h1 (bindB (bifT rfl h2) (letB (v:=false) rfl (bifF rfl (bindB h47 rfl)))),.inr ⟨hv,hf,i,hp,rfl⟩⟩
theorem add_pL (N:Nat) {l:List Lg} (c:Lg) (hN:l.length < N) (h20:20 < N) (hl:l.length≤100000):∃ r,n28 (N+60) (l,c)=some r∧AddTo vldL fitL lesL l c r:=by
 rw [e28]
 have h1:=valid_l (N+9) (l:=l) (by omega) hl
 have h2:=fits_l (N+56) (by omega) c
 cases hv:vldL l with
 | false =>
  rw [hv] at h1
  exact ⟨_,bindB h1 (bindB (v:=false) rfl (letB (v:=true) rfl (bifT rfl rfl))),.inl ⟨.inl hv,rfl⟩⟩
 | true =>
  rw [hv] at h1
  cases hf:fitL c with
  | false =>
   rw [hf] at h2
   exact ⟨_,bindB h1 (bindB (bifT rfl h2) (letB (v:=true) rfl (bifT rfl rfl))),.inl ⟨.inr hf,rfl⟩⟩
  | true =>
   rw [hf] at h2
   obtain ⟨_,hi,_⟩:=(vld_iff lesL_les).1 hv
   obtain ⟨i,hp⟩:=place_ex (inc_srt lesL_les hi hl c)
   have h47:n55 (N+59) (l,c,())=some (addR i l c):=by
    rw [e55]; exact gAdd_eq (inc_srt lesL_les hi hl c) hp
   exact ⟨_,bindB h1 (bindB (bifT rfl h2) (letB (v:=false) rfl (bifF rfl (bindB h47 rfl)))),.inr ⟨hv,hf,i,hp,rfl⟩⟩
end Go.Proofs.YtghpknbkecolnaaGreatDoor
