/- Chapter 17, plainly: add, remove and has, for the program and the document's answer. -/
import Derived.Test.YtghpknbkecolnaaGreatDoorCG
namespace Go.Proofs.YtghpknbkecolnaaGreatDoor
open Go.VM Go.Txt
set_option maxRecDepth 10000
def eqL (a b:Lg):Bool:=(a.1==b.1)&&((a.2.1==b.2.1)&&(a.2.2==b.2.2))
theorem eqL_d (a b:Lg):eqL a b=decide (a=b):=by
 obtain ⟨a,a2,a3⟩:=a; obtain ⟨b,b2,b3⟩:=b
 unfold eqL
 by_cases h:a=b <;> by_cases k:a2=b2 <;> by_cases i:a3=b3 <;> simp [h,k,i]
/- has -/
def HB {T:Type} (eq:T→T→Bool):(T×(List T×(Int×Int)))→Option ((T×(List T×(Int×Int))) ⊕ Bool):=fun p2 =>
 aJy (decide (p2.2.2.2 < p2.2.2.1)) fun v3 =>
 bif v3 then ((aEU p2.2.1 p2.2.2.2).bind fun v4 =>
 aJy (false != (eq v4 p2.1)) fun v5 =>
 bif v5 then (lJ (some true)) else (aJy (IntKind.i64.wrap (p2.2.2.2+(1:Int))) fun v6 =>
 tN (p2.1,p2.2.1,p2.2.2.1,v6))) else (lJ (some false))
theorem hb_run {T:Type} [DecidableEq T] {eq:T→T→Bool} (he:∀ a b,eq a b=decide (a=b)) (c:T) {l:List T} (hl:l.length≤100000):∀ (m i M:Nat),i+m=l.length→m < M→eG M (HB eq) (c,l,aJO l,(i:Int))=some (decide (c∈l.drop i))
 | 0,i,M,h,hM=>by
  obtain ⟨M,rfl⟩:∃ k,M=k+1:=⟨M - 1,by omega⟩
  rw [List.drop_of_length_le (by omega)]
  have:HB eq (c,l,aJO l,(i:Int))=some (.inr false):=letB (v:=false) (decide_eq_false (show ¬ (i:Int) < aJO l by unfold aJO; omega)) (bifF rfl (leaveB rfl))
  simp [eG,this]
 | m+1,i,M,h,hM=>by
  obtain ⟨M,rfl⟩:∃ k,M=k+1:=⟨M - 1,by omega⟩
  have hi:i < l.length:=by omega
  have e:=he l[i] c
  rw [List.drop_eq_getElem_cons hi]
  by_cases k:l[i]=c
  · have:HB eq (c,l,aJO l,(i:Int))=some (.inr true):=letB (v:=true) (decide_eq_true (show (i:Int) < aJO l by unfold aJO; omega)) (bifT rfl (bindB (aJo hi) (letB (v:=true) (by rw [e,decide_eq_true k]; rfl) (bifT rfl (leaveB rfl)))))
    simp [eG,this,k]
  · have:HB eq (c,l,aJO l,(i:Int))=some (.inl (c,l,aJO l,((i+1:Nat):Int))):=letB (v:=true) (decide_eq_true (show (i:Int) < aJO l by unfold aJO; omega)) (bifT rfl (bindB (aJo hi) (letB (v:=false) (by rw [e,decide_eq_false k]; rfl) (bifF rfl (letB (v:=((i+1:Nat):Int)) (wv _ (show (i:Int)+1=((i+1:Nat):Int) by omega) (by omega) (by omega)) rfl)))))
    simp only [eG,this]
    rw [hb_run he c hl m (i+1) M (by omega) (by omega)]
    exact congrArg some (decide_eq_decide.2 ⟨List.mem_cons_of_mem _,fun h=>(List.mem_cons.1 h).resolve_left fun h=>k h.symm⟩)
theorem hb_all {T:Type} [DecidableEq T] {eq:T→T→Bool} (he:∀ a b,eq a b=decide (a=b)) (c:T) {l:List T} (hl:l.length≤100000) {M:Nat} (hM:l.length < M):∃ b,eG M (HB eq) (c,l,aJO l,(0:Int))=some b∧(b=true↔c∈l) :=
 ⟨_,hb_run he c hl l.length 0 M (by omega) hM,by rw [decide_eq_true_eq,List.drop_zero]⟩
/- index -/
def XB {T:Type} (eq:T→T→Bool):(List T×(T×(Int×Int)))→Option ((List T×(T×(Int×Int))) ⊕ Int):=fun p2 =>
 aJy (decide (p2.2.2.2 < p2.2.2.1)) fun v3 =>
 bif v3 then ((aEU p2.1 p2.2.2.2).bind fun v4 =>
 aJy (false != (eq p2.2.1 v4)) fun v5 =>
 bif v5 then (lJ (some p2.2.2.2)) else (aJy (IntKind.i64.wrap (p2.2.2.2+(1:Int))) fun v6 =>
 tN (p2.1,p2.2.1,p2.2.2.1,v6))) else (lJ (some (-1:Int)))
theorem xb_run {T:Type} [DecidableEq T] {eq:T→T→Bool} (he:∀ a b,eq a b=decide (a=b)) (c:T) {l:List T} (hl:l.length≤100000):∀ (m i M:Nat),i+m=l.length→m < M→∃ v,eG M (XB eq) (l,c,aJO l,(i:Int))=some v∧decide (v≥(0:Int))=decide (c∈l.drop i)
 | 0,i,M,h,hM=>by
  obtain ⟨M,rfl⟩:∃ k,M=k+1:=⟨M - 1,by omega⟩
  rw [List.drop_of_length_le (by omega)]
  have:XB eq (l,c,aJO l,(i:Int))=some (.inr (-1)):=letB (v:=false) (decide_eq_false (show ¬ (i:Int) < aJO l by unfold aJO; omega)) (bifF rfl (leaveB rfl))
  exact ⟨-1,by simp only [eG,this],by simp⟩
 | m+1,i,M,h,hM=>by
  obtain ⟨M,rfl⟩:∃ k,M=k+1:=⟨M - 1,by omega⟩
  have hi:i < l.length:=by omega
  have e:=he c l[i]
  rw [List.drop_eq_getElem_cons hi]
  by_cases k:c=l[i]
  · have:XB eq (l,c,aJO l,(i:Int))=some (.inr (i:Int)):=letB (v:=true) (decide_eq_true (show (i:Int) < aJO l by unfold aJO; omega)) (bifT rfl (bindB (aJo hi) (letB (v:=true) (by rw [e,decide_eq_true k]; rfl) (bifT rfl (leaveB rfl)))))
    exact ⟨(i:Int),by simp only [eG,this],by rw [decide_eq_true (show (i:Int)≥0 by omega),decide_eq_true (by rw [← k]; exact List.mem_cons_self)]⟩
  · have:XB eq (l,c,aJO l,(i:Int))=some (.inl (l,c,aJO l,((i+1:Nat):Int))):=letB (v:=true) (decide_eq_true (show (i:Int) < aJO l by unfold aJO; omega)) (bifT rfl (bindB (aJo hi) (letB (v:=false) (by rw [e,decide_eq_false k]; rfl) (bifF rfl (letB (v:=((i+1:Nat):Int)) (wv _ (show (i:Int)+1=((i+1:Nat):Int) by omega) (by omega) (by omega)) rfl)))))
    obtain ⟨v,h1,h2⟩:=xb_run he c hl m (i+1) M (by omega) (by omega)
    exact ⟨v,by simp only [eG,this]; exact h1,by rw [h2]; exact decide_eq_decide.2 ⟨List.mem_cons_of_mem _,fun h=>(List.mem_cons.1 h).resolve_left k⟩⟩
theorem xb_all {T:Type} [DecidableEq T] {eq:T→T→Bool} (he:∀ a b,eq a b=decide (a=b)) (c:T) {l:List T} (hl:l.length≤100000) {M:Nat} (hM:l.length < M):∃ v,eG M (XB eq) (l,c,aJO l,(0:Int))=some v∧(decide (v≥(0:Int))=true↔c∈l):=by
 obtain ⟨v,h1,h2⟩:=xb_run he c hl l.length 0 M (by omega) hM
 exact ⟨v,h1,by rw [h2,decide_eq_true_eq,List.drop_zero]⟩
/- remove -/
def RB {T:Type} (z:Nat) (eq:T→T→Bool):(T×(List T×(List T×(Int×Int))))→Option ((T×(List T×(List T×(Int×Int)))) ⊕ List T):=fun p2 =>
 aJy (decide (p2.2.2.2.2 < p2.2.2.2.1)) fun v3 =>
 bif v3 then (aBJ (fun (p4:(T×(List T×(List T×(Int×Int))))) =>
 aJy (IntKind.i64.wrap (p4.2.2.2.2+(1:Int))) fun v6 =>
 tN (p4.1,p4.2.1,p4.2.2.1,p4.2.2.2.1,v6)) fun j5 =>
 (aEU p2.2.2.1 p2.2.2.2.2).bind fun v7 =>
 aJy (true != (eq v7 p2.1)) fun v8 =>
 aBJ (fun (p9:(T×(List T×(List T×(Int×Int))))) =>
 j5 (p9.1,p9.2.1,p9.2.2.1,p9.2.2.2.1,p9.2.2.2.2)) fun j10 =>
 bif v8 then ((aH3 z p2.2.1 ([v7]:List T)).bind fun v11 =>
 j10 (p2.1,v11,p2.2.2.1,p2.2.2.2.1,p2.2.2.2.2)) else (j10 (p2.1,p2.2.1,p2.2.2.1,p2.2.2.2.1,p2.2.2.2.2))) else (lJ (some p2.2.1))
theorem rb_run {T:Type} [DecidableEq T] {z:Nat} (hz:z≤24) {eq:T→T→Bool} (he:∀ a b,eq a b=decide (a=b)) (c:T) {l:List T} (hl:l.length≤100000) {M:Nat} (hM:l.length < M):eG M (RB z eq) (c,[],l,aJO l,(0:Int))=some (l.filter fun p=>!(decide (p=c))):=by
 refine loopN_seq' (fun i=>((c,(l.take i).filter (fun p=>!(decide (p=c))),l,aJO l,(i:Int)):(T×(List T×(List T×(Int×Int)))))) l.length rfl (fun i hi=>?_) ?_ hM
 · have e:=he l[i] c
   have hlen:((l.take i).filter (fun p=>!(decide (p=c)))).length≤i:=Nat.le_trans (List.length_filter_le _ _) (by rw [List.length_take]; omega)
   have hz2:(((l.take i).filter (fun p=>!(decide (p=c)))).length+1) * z≤2400024:=Nat.le_trans (Nat.mul_le_mul (show _≤100001 by omega) hz) (by omega)
   have nx:IntKind.i64.wrap ((i:Int)+1)=((i+1:Nat):Int):=wv _ (by omega) (by omega) (by omega)
   have hx:(l.take (i+1)).filter (fun p=>!(decide (p=c)))=(l.take i).filter (fun p=>!(decide (p=c)))++if l[i]=c then [] else [l[i]]:=by
    rw [List.take_succ_eq_append_getElem hi,List.filter_append]
    by_cases k:l[i]=c <;> simp [k]
   refine letB (v:=true) (decide_eq_true (show (i:Int) < aJO l by unfold aJO; omega)) (bifT rfl (jB (bindB (aJo hi) ?_)))
   by_cases k:l[i]=c
   · rw [hx,if_pos k,List.append_nil]
     exact letB (v:=false) (by rw [e,decide_eq_true k]; rfl) (jB (bifF rfl (letB nx rfl)))
   · rw [hx,if_neg k]
     exact letB (v:=true) (by rw [e,decide_eq_false k]; rfl) (jB (bifT rfl (bindB (aJm (by simp only [List.length_singleton]; omega) (by simp only [List.length_singleton]; omega)) (letB nx rfl))))
 · rw [List.take_length]
   exact letB (v:=false) (decide_eq_false (show ¬ (l.length:Int) < aJO l by unfold aJO; omega)) (bifF rfl (leaveB rfl))
/- add,by the document -/
def GB {T R:Type} (z:T) (les:T×T→Option Bool) (K:List T→T→Int→Option R):(List T×(T×Int))→Option ((List T×(T×Int)) ⊕ R):=fun p14 =>
 aJy (decide (p14.2.2 < (aJO p14.1))) fun v15 =>
 (bif v15 then (aEU p14.1 p14.2.2) else some z).bind fun v16 =>
 (bif v15 then (les (v16,p14.2.1)) else some false).bind fun v17 =>
 aJy (bif v15 then v17 else false) fun v18 =>
 bif v18 then (aJy (IntKind.i64.wrap (p14.2.2+(1:Int))) fun v19 =>
 tN (p14.1,p14.2.1,v19)) else (lJ (K p14.1 p14.2.1 p14.2.2))
theorem gb_run {T R : Type} (z : T) {les : T → T → Bool} {f : T × T → Option Bool} (hf : ∀ a b, f (a, b) = some (les a b)) {K : List T → T → Int → Option R} (c : T) {l : List T} (hl : l.length ≤ 100000) {i : Nat} (hp : Z.Place les l c i) {r : R} (hK : K l c (i : Int) = some r) {M : Nat} (hM : l.length < M) :
  eG M (GB z f K) (l,c,(0:Int))=some r:=by
 refine loopN_seq' (fun k=>((l,c,(k:Int)):(List T×(T×Int)))) i rfl (fun k hk=>?_) ?_ (by have:=hp.1; omega)
 · have hkl:k < l.length:=by have:=hp.1; omega
   exact letB (v:=true) (decide_eq_true (show (k:Int) < aJO l by unfold aJO; omega)) (bindB (bifT rfl (aJo hkl)) (bindB (bifT rfl (hf _ _)) (letB (v:=true) (hp.2.1 k hkl hk) (bifT rfl (letB (v:=((k+1:Nat):Int)) (wv _ (show (k:Int)+1=((k+1:Nat):Int) by omega) (by omega) (by omega)) rfl)))))
 · by_cases hlt:i < l.length
   · exact letB (v:=true) (decide_eq_true (show (i:Int) < aJO l by unfold aJO; omega)) (bindB (bifT rfl (aJo hlt)) (bindB (bifT rfl (hf _ _)) (letB (v:=false) (hp.2.2 i hlt (Nat.le_refl _)) (bifF rfl (leaveB hK)))))
   · exact letB (v:=false) (decide_eq_false (show ¬ (i:Int) < aJO l by unfold aJO; omega)) (bindB rfl (bindB rfl (letB (v:=false) rfl (bifF rfl (leaveB hK)))))
/- the order -/
structure Les {T:Type} (les:T→T→Bool):Prop where
 irr:∀ a,les a a=false
 tr:∀ a b c,les a b=true→les b c=true→les a c=true
 tri:∀ a b,les a b=false→les b a=false→a=b
theorem lesL_les:Les lesL where
 irr a:=by unfold lesL; rw [decide_eq_false_iff_not]; omega
 tr a b c:=by unfold lesL; rw [decide_eq_true_eq,decide_eq_true_eq,decide_eq_true_eq]; omega
 tri a b:=by
  obtain ⟨a,a2,a3⟩:=a; obtain ⟨b,b2,b3⟩:=b
  unfold lesL; rw [decide_eq_false_iff_not,decide_eq_false_iff_not,Prod.mk.injEq,Prod.mk.injEq]; simp only; omega
/-- In order. -/
def Inc {T:Type} (les:T→T→Bool) (l:List T):Prop:=∀ i j (hi:i < l.length) (hj:j < l.length),i < j→les l[i] l[j]=true
theorem vld_iff {T:Type} {z:T} {fit:T→Bool} {les:T→T→Bool} (L:Les les) {l:List T}:vld z fit les l=true↔(∀ c∈l,fit c=true)∧Inc les l∧l.length≤64:=by
 constructor
 · intro h
   refine ⟨vld_fit h,?_,vld_len h⟩
   unfold vld at h
   rw [Bool.and_eq_true,List.all_eq_true] at h
   have step:∀ k (hk:k+1 < l.length),les l[k] l[k+1]=true:=fun k hk=>by
    have:=h.1 (k+1) (by simp [List.mem_range']; omega)
    unfold okAt at this
    simp only [Nat.add_sub_cancel,Bool.and_eq_true,Bool.or_eq_true,decide_eq_true_eq,List.getD,List.getElem?_eq_getElem hk,List.getElem?_eq_getElem (show k < l.length by omega),Option.getD_some] at this
    rcases this.2 with q | q
    · omega
    · exact q
   have key:∀ d i (hi:i < l.length) (hj:i+(d+1) < l.length),les l[i] l[i+(d+1)]=true:=by
    intro d
    induction d with
    | zero=>intro i hi hj; exact step i hj
    | succ d ih=>intro i hi hj; exact L.tr _ _ _ (ih i hi (by omega)) (step (i+(d+1)) (by omega))
   intro i j hi hj hij
   obtain ⟨d,rfl⟩:∃ d,j=i+(d+1):=⟨j - i - 1,by omega⟩
   exact key d i hi hj
 · rintro ⟨h1,h2,h3⟩
   unfold vld
   rw [Bool.and_eq_true,List.all_eq_true,decide_eq_true_eq]
   refine ⟨fun i hi=>?_,h3⟩
   have hil:i < l.length:=by simp [List.mem_range'] at hi; omega
   unfold okAt
   simp only [Bool.and_eq_true,Bool.or_eq_true,decide_eq_true_eq,List.getD,List.getElem?_eq_getElem hil,Option.getD_some]
   refine ⟨h1 _ (List.getElem_mem hil),?_⟩
   by_cases h0:i=0
   · exact .inl h0
   · rw [List.getElem?_eq_getElem (show i - 1 < l.length by omega)]
     exact .inr (h2 (i - 1) i (by omega) hil (by omega))
theorem inc_srt {T:Type} {les:T→T→Bool} (L:Les les) {l:List T} (h:Inc les l) (hl:l.length≤100000) (c:T):Srt les l c:=by
 refine ⟨hl,fun i j hi hj hij hc=>?_⟩
 rcases Nat.lt_or_eq_of_le hij with q | rfl
 · exact L.tr _ _ _ (h i j hi hj q) hc
 · exact hc
theorem place_ex {T:Type} {les:T→T→Bool} {l:List T} {c:T} (h:Srt les l c):∃ i,Z.Place les l c i:=by
 have key:∀ m,m≤l.length→(∀ k (hk:k < l.length),m≤k→les l[k] c=false)→∃ i,Z.Place les l c i:=by
  intro m
  induction m with
  | zero=>intro _ h2; exact ⟨0,Nat.zero_le _,fun k _ hk=>absurd hk (Nat.not_lt_zero _),h2⟩
  | succ m ih =>
   intro h1 h2
   cases hm:les l[m] c with
   | true=>exact ⟨m+1,h1,fun k hk hkm=>h.2 k m hk (by omega) (by omega) hm,h2⟩
   | false =>
    refine ih (by omega) fun k hk hmk=>?_
    rcases Nat.lt_or_eq_of_le hmk with q | rfl
    · exact h2 k hk q
    · exact hm
 exact key l.length (Nat.le_refl _) fun k hk h=>absurd hk (by omega)
theorem has_at {T:Type} [DecidableEq T] {les:T→T→Bool} (L:Les les) {l:List T} (h:Inc les l) {c:T} {i:Nat} (hp:Z.Place les l c i):c∈l↔l[i]?=some c:=by
 constructor
 · intro hc
   obtain ⟨k,hk,e⟩:=List.getElem_of_mem hc
   have h1:¬ k < i:=fun q=>by
    have:=hp.2.1 k hk q
    rw [e,L.irr] at this; cases this
   have h2:¬ i < k:=fun q=>by
    have q1:=h i k (by omega) hk q
    have q2:=hp.2.2 i (by omega) (Nat.le_refl _)
    rw [e] at q1; rw [q1] at q2; cases q2
   have:k=i:=by omega
   subst this
   rw [List.getElem?_eq_getElem hk,e]
 · exact fun h=>List.mem_of_getElem? h
/-- What Add comes to. -/
def AddTo {T:Type} [DecidableEq T] (vd:List T→Bool) (fit:T→Bool) (les:T→T→Bool) (l:List T) (c:T) (r:List T×Int):Prop :=
 (vd l=false∨fit c=false)∧r=([],1)∨vd l=true∧fit c=true∧∃ i,Z.Place les l c i∧r=addR i l c
theorem has_pL (N:Nat) {l:List Lg} (c:Lg) (hN:l.length < N) (hl:l.length≤100000):∃ b,n32 (N+3) (l,c)=some b∧(b=true↔c∈l):=by
 obtain ⟨v,h1,h2⟩:=xb_all eqL_d c hl hN
 have h75:n81 (N+1) (l,c)=some v:=by rw [e81]; exact jB h1
 exact ⟨_,by rw [e32,e57,h75]; rfl,h2⟩
theorem has_rL (N:Nat) {l:List Lg} (c:Lg) (hN:l.length < N) (hl:l.length≤100000):∃ b,n33 (N+1) (l,c)=some b∧(b=true↔c∈l):=by
 rw [e33]
 exact (hb_all eqL_d c hl hN).imp fun _ h=>⟨jB h.1,h.2⟩
theorem rem_pL (N:Nat) {l:List Lg} (c:Lg) (hl:l.length≤100000):n30 (N+3) (l,c)=some (l.filter fun p=>!(decide (p=c))):=by
 rw [e30,e56]
 exact bindB (v:=l.filter fun p=>!(decide (p=c))) (by unfold gWithout; rw [if_pos hl]) rfl
theorem rem_rL (N:Nat) {l:List Lg} (c:Lg) (hN:l.length < N) (hl:l.length≤100000):n31 (N+1) (l,c)=some (l.filter fun p=>!(decide (p=c))):=by
 rw [e31]
 exact jB (rb_run (z:=24) (by decide) eqL_d c hl hN)
theorem add_pL (N:Nat) {l:List Lg} (c:Lg) (hN:l.length < N) (h20:20 < N) (hl:l.length≤100000):∃ r,n28 (N+60) (l,c)=some r∧AddTo vldL fitL lesL l c r:=by
 rw [e28]
 have h1:=valid_l (N+9) (l:=l) (by omega) hl
 have h2:=fits_l (N+56) (by omega) c
 cases hv:vldL l with
 | false =>
  rw [hv] at h1
  exact ⟨_,bindB h1 (bindB (v:=false) rfl (letB (v:=true) rfl (bifT rfl rfl))),.inl ⟨.inl hv,rfl⟩⟩
 | true =>
  rw [hv] at h1
  cases hf:fitL c with
  | false =>
   rw [hf] at h2
   exact ⟨_,bindB h1 (bindB (bifT rfl h2) (letB (v:=true) rfl (bifT rfl rfl))),.inl ⟨.inr hf,rfl⟩⟩
  | true =>
   rw [hf] at h2
   obtain ⟨_,hi,_⟩:=(vld_iff lesL_les).1 hv
   obtain ⟨i,hp⟩:=place_ex (inc_srt lesL_les hi hl c)
   have h47:n55 (N+59) (l,c,())=some (addR i l c):=by
    rw [e55]; exact gAdd_eq (inc_srt lesL_les hi hl c) hp
   exact ⟨_,bindB h1 (bindB (bifT rfl h2) (letB (v:=false) rfl (bifF rfl (bindB h47 rfl)))),.inr ⟨hv,hf,i,hp,rfl⟩⟩
theorem add_rL (N:Nat) {l:List Lg} (c:Lg) (hN:l.length < N) (hl:l.length≤100000):∃ r,n29 (N+60) (l,c)=some r∧AddTo vldL fitL lesL l c r:=by
 rw [e29]
 have h1:=valid_rl (N+57) (l:=l) (by omega) hl
 have h2:=right_l (N+58) c
 cases hv:vldL l with
 | false =>
  rw [hv] at h1
  exact ⟨_,bindB h1 (bindB (v:=false) rfl (letB (v:=true) rfl (bifT rfl rfl))),.inl ⟨.inl hv,rfl⟩⟩
 | true =>
  rw [hv] at h1
  cases hf:fitL c with
  | false =>
   rw [hf] at h2
   exact ⟨_,bindB h1 (bindB (bifT rfl h2) (letB (v:=true) rfl (bifT rfl rfl))),.inl ⟨.inr hf,rfl⟩⟩
  | true =>
   rw [hf] at h2
   obtain ⟨_,hi,h64⟩:=(vld_iff lesL_les).1 hv
   obtain ⟨i,hp⟩:=place_ex (inc_srt lesL_les hi hl c)
   obtain ⟨b,h3,hb⟩:=has_rL (N+58) c (l:=l) (by omega) hl
   have hat:=has_at lesL_les hi hp
   refine ⟨addR i l c,?_,.inr ⟨hv,hf,i,hp,rfl⟩⟩
   refine bindB h1 (bindB (bifT rfl h2) (letB (v:=false) rfl (bifF rfl (bindB h3 ?_))))
   unfold addR
   by_cases hm:c∈l
   · rw [if_pos (hat.1 hm)]
     exact bifT (hb.2 hm) (bindB (aJm (l:=[]) (by simp only [List.length_nil]; omega) (by simp only [List.length_nil]; omega)) rfl)
   · rw [if_neg fun h=>hm (hat.2 h)]
     refine bifF (Bool.eq_false_iff.2 fun h=>hm (hb.1 h)) ?_
     by_cases h6:l.length=64
     · rw [if_pos h6]
       exact letB (v:=true) (decide_eq_true (show aJO l≥64 by unfold aJO; omega)) (bifT rfl rfl)
     · rw [if_neg h6]
       refine letB (v:=false) (decide_eq_false (show ¬ aJO l≥64 by unfold aJO; omega)) (bifF rfl (jB ?_))
       exact gb_run zL (less_l (N+58)) (K:=fun l c i=>(aEV l i).bind fun v8 =>
 (aH3 24 ([]:List Lg) v8).bind fun v9 =>
 aJy ([c]:List Lg) fun v10 =>
 (aH3 24 v9 v10).bind fun v11 =>
 (aEW l i).bind fun v12 =>
 (aH3 24 v11 v12).bind fun v13 =>
 some (v13,(0:Int))) c hl hp (put_l c hp.1 h64) (by omega)
theorem addTo_uniq {T:Type} [DecidableEq T] {vd:List T→Bool} {fit:T→Bool} {les:T→T→Bool} {l:List T} {c:T} {r s:List T×Int} (h:AddTo vd fit les l c r) (k:AddTo vd fit les l c s):r=s:=by
 rcases h with ⟨h1,rfl⟩ | ⟨h1,h2,i,h3,rfl⟩
 · rcases k with ⟨_,rfl⟩ | ⟨k1,k2,_⟩
   · rfl
   · rcases h1 with h1 | h1
     · rw [h1] at k1; cases k1
     · rw [h1] at k2; cases k2
 · rcases k with ⟨k1,_⟩ | ⟨_,_,j,k3,rfl⟩
   · rcases k1 with k1 | k1
     · rw [h1] at k1; cases k1
     · rw [h2] at k1; cases k1
   · rw [Z.place_uniq h3 k3]
end Go.Proofs.YtghpknbkecolnaaGreatDoor
