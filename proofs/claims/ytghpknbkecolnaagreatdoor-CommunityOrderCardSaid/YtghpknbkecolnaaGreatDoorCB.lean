/- Chapter 17, plainly: which lists are valid, for the program and the document's answer. -/
import Derived.Test.YtghpknbkecolnaaGreatDoorCA
namespace Go.Proofs.YtghpknbkecolnaaGreatDoor
open Go.VM Go.Txt
set_option maxRecDepth 10000
def fitC (c:Cm):Bool:=decide (0≤c.1∧c.1≤65535∧0≤c.2∧c.2≤65535)
def fitL (c:Lg):Bool:=decide (0≤c.1∧c.1≤4294967295∧0≤c.2.1∧c.2.1≤4294967295∧0≤c.2.2∧c.2.2≤4294967295)
def lesC (a b:Cm):Bool:=decide (a.1 < b.1∨(a.1=b.1∧a.2 < b.2))
def lesL (a b:Lg):Bool:=decide (a.1 < b.1∨(a.1=b.1∧(a.2.1 < b.2.1∨(a.2.1=b.2.1∧a.2.2 < b.2.2))))
theorem fits_c (N:Nat) (hN:20 < N) (c:Cm):n43 (N+3) c=some (fitC c):=by
 rw [e43]
 refine bindB (within_p N (l:=[c.2]) (by simp) (by simp; omega)) ?_
 congr 1
 unfold fitC
 simp only [List.mem_cons,List.not_mem_nil,or_false,forall_eq_or_imp,forall_eq]
 exact decide_eq_decide.2 ⟨fun h=>⟨h.1.1,h.1.2,h.2.1,h.2.2⟩,fun h=>⟨⟨h.1,h.2.1⟩,h.2.2.1,h.2.2.2⟩⟩
theorem fits_l (N:Nat) (hN:20 < N) (c:Lg):n51 (N+3) c=some (fitL c):=by
 rw [e51]
 refine letB rfl (bindB (within_p N (l:=[c.2.1,c.2.2]) (by simp) (by simp; omega)) ?_)
 congr 1
 unfold fitL
 simp only [List.mem_cons,List.not_mem_nil,or_false,forall_eq_or_imp,forall_eq]
 exact decide_eq_decide.2 ⟨fun h=>⟨h.1.1,h.1.2,h.2.1.1,h.2.1.2,h.2.2.1,h.2.2.2⟩,fun h=>⟨⟨h.1,h.2.1⟩,⟨h.2.2.1,h.2.2.2.1⟩,h.2.2.2.2.1,h.2.2.2.2.2⟩⟩
theorem comp_c (N:Nat) (a b:Cm):∃ v,n44 (N+21) (a,b)=some v∧decide (v≥(0:Int))=!(lesC a b):=by
 rw [e44]
 refine ⟨_,bindB (cmp_p (N+18) _ _) (bindB (cmp_p (N+18) _ _) (bindB (or_p N (by simp)) rfl)),?_⟩
 unfold lesC orI orI orI cmpI
 by_cases h1:a.1 < b.1
 · simp [h1]
 · by_cases h2:a.1=b.1
   · by_cases h3:a.2 < b.2
     · simp [h2,h3]
     · by_cases h4:a.2 > b.2
       · simp [h2,h3,h4]
       · simp [h2,h3,h4]
   · have h5:a.1 > b.1:=by omega
     simp [h1,h2,h5]
theorem comp_l (N:Nat) (a b:Lg):∃ v,n52 (N+21) (a,b)=some v∧decide (v≥(0:Int))=!(lesL a b):=by
 rw [e52]
 refine ⟨_,bindB (cmp_p (N+18) _ _) (bindB (cmp_p (N+18) _ _) (bindB (cmp_p (N+18) _ _) (bindB (or_p N (by simp)) rfl))),?_⟩
 unfold lesL orI orI orI orI cmpI
 by_cases h1:a.1 < b.1
 · simp [h1]
 · by_cases h2:a.1=b.1
   · by_cases h3:a.2.1 < b.2.1
     · simp [h2,h3]
     · by_cases h4:a.2.1=b.2.1
       · by_cases h5:a.2.2 < b.2.2
         · simp [h2,h4,h5]
         · by_cases h6:a.2.2 > b.2.2
           · simp [h2,h4,h5,h6]
           · simp [h2,h4,h5,h6]
       · have h7:a.2.1 > b.2.1:=by omega
         simp [h2,h3,h4,h7]
   · have h8:a.1 > b.1:=by omega
     simp [h1,h2,h8]
/- valid lists -/
def okAt {T:Type} (z:T) (fit:T→Bool) (les:T→T→Bool) (l:List T) (i:Nat):Bool:=fit (l.getD i z)&&(decide (i=0)||les (l.getD (i - 1) z) (l.getD i z))
def vld {T:Type} (z:T) (fit:T→Bool) (les:T→T→Bool) (l:List T):Bool:=(List.range' 0 l.length).all (okAt z fit les l)&&decide (l.length≤64)
theorem run_all {T:Type} (z:T) (fit:T→Bool) (les:T→T→Bool) (l:List T):∀ (m i:Nat),runF (fun i (_:Unit)=>if okAt z fit les l i=true then some () else none) m i ()=if (List.range' i m).all (okAt z fit les l)=true then some () else none
 | 0,i=>rfl
 | m+1,i=>by
  rw [runF,List.range'_succ,List.all_cons]
  cases h:okAt z fit les l i with
  | false=>rfl
  | true=>exact run_all z fit les l m (i+1)
def AB {T γ:Type} (z:T) (d0:γ) (q:γ→Bool) (f:T→Option Bool) (g:T×T→Option γ):(List T×(List T×(Int×Int)))→Option ((List T×(List T×(Int×Int))) ⊕ Bool):=fun p3 =>
 aJy (decide (p3.2.2.2 < p3.2.2.1)) fun v4 =>
 bif v4 then ((aEU p3.2.1 p3.2.2.2).bind fun v5 =>
 (f v5).bind fun v6 =>
 aJy (decide (p3.2.2.2 > (0:Int))) fun v7 =>
 aJy (IntKind.i64.wrap (p3.2.2.2 - (1:Int))) fun v8 =>
 (bif (v7&&(!(!v6))) then (aEU p3.1 v8) else some z).bind fun v9 =>
 (bif (v7&&(!(!v6))) then (g (v9,v5)) else some d0).bind fun v10 =>
 aJy (bif v7 then (q v10) else false) fun v11 =>
 aJy (bif (!v6) then true else v11) fun v12 =>
 bif v12 then (lJ (some false)) else (aJy (IntKind.i64.wrap (p3.2.2.2+(1:Int))) fun v13 =>
 tN (p3.1,p3.2.1,p3.2.2.1,v13))) else (lJ (aJy (decide ((aJO p3.1)≤(64:Int))) fun v2=>some v2))
theorem ab_step {T γ : Type} (z : T) (d0 : γ) (q : γ → Bool) (fit : T → Bool) (les : T → T → Bool) (f : T → Option Bool) (g : T × T → Option γ) (hf : ∀ c, f c = some (fit c)) (hg : ∀ a b, ∃ v, g (a, b) = some v ∧ q v = !(les a b)) {l : List T} (hl : l.length ≤ 9223372036854775806) {i : Nat} (hi : i < l.length) :
  AB z d0 q f g (l,l,aJO l,(i:Int))=if okAt z fit les l i=true then some (.inl (l,l,aJO l,((i+1:Nat):Int))) else some (.inr false):=by
 have hx:aEU l (i:Int)=some (l.getD i z):=by rw [aJo hi,List.getD,List.getElem?_eq_getElem hi]; rfl
 have hd:((i:Int) < aJO l):=by unfold aJO; omega
 have nx:IntKind.i64.wrap ((i:Int)+1)=((i+1:Nat):Int):=wv _ (by omega) (by omega) (by omega)
 unfold AB
 cases i with
 | zero =>
  have ho:okAt z fit les l 0=fit (l.getD 0 z):=by unfold okAt; simp
  rw [ho]
  refine letB (v:=true) (decide_eq_true hd) (bifT rfl (bindB hx (bindB (hf _) (letB (v:=false) rfl (letB rfl (bindB (v:=z) rfl (bindB (v:=d0) rfl (letB (v:=false) rfl ?_))))))))
  cases fit (l.getD 0 z) with
  | false=>exact letB (v:=true) rfl (bifT rfl (leaveB rfl))
  | true=>exact letB (v:=false) rfl (bifF rfl (letB nx rfl))
 | succ i =>
  have hx2:aEU l (i:Int)=some (l.getD i z):=by rw [aJo (by omega),List.getD,List.getElem?_eq_getElem (by omega)]; rfl
  have hw:IntKind.i64.wrap (((i+1:Nat):Int) - 1)=(i:Int):=wv _ (by omega) (by omega) (by omega)
  have ho:okAt z fit les l (i+1)=(fit (l.getD (i+1) z)&&les (l.getD i z) (l.getD (i+1) z)):=by unfold okAt; simp
  obtain ⟨v,g1,g2⟩:=hg (l.getD i z) (l.getD (i+1) z)
  rw [ho]
  have hp:decide (((i+1:Nat):Int) > 0)=true:=decide_eq_true (by omega)
  refine letB (v:=true) (decide_eq_true hd) (bifT rfl (bindB hx (bindB (hf _) (letB (v:=true) hp (letB hw ?_)))))
  generalize l.getD (i+1) z=c at *
  generalize l.getD i z=c' at *
  cases fit c with
  | false=>exact bindB (v:=z) rfl (bindB (v:=d0) rfl (letB rfl (letB (v:=true) rfl (bifT rfl (leaveB rfl)))))
  | true =>
   refine bindB (bifT rfl hx2) (bindB (bifT rfl g1) (letB (v:=!(les c' c)) g2 ?_))
   cases les c' c with
   | false=>exact letB (v:=true) rfl (bifT rfl (leaveB rfl))
   | true=>exact letB (v:=false) rfl (bifF rfl (letB nx rfl))
theorem asc_p {T γ : Type} (z : T) (d0 : γ) (q : γ → Bool) (fit : T → Bool) (les : T → T → Bool) (f : T → Option Bool) (g : T × T → Option γ) (hf : ∀ c, f c = some (fit c)) (hg : ∀ a b, ∃ v, g (a, b) = some v ∧ q v = !(les a b)) {l : List T} (M : Nat) (hM : l.length < M) (hl : l.length ≤ 9223372036854775806) :
  eG M (AB z d0 q f g) (l,l,(aJO l),(0:Int))=some (vld z fit les l):=by
 refine loopF_go (fun i (_:Unit)=>if okAt z fit les l i=true then some () else none) (fun _ _=>True) (fun i _=>(l,l,aJO l,(i:Int))) l.length false (fun _=>decide (l.length≤64)) () rfl trivial (fun i hi _ _=>?_) (fun _ _=>?_) hM ?_
 · have k:=ab_step z d0 q fit les f g hf hg hl hi
   cases h:okAt z fit les l i with
   | false=>rw [h] at k; exact ⟨fun b hb=>(by cases hb),fun _=>k⟩
   | true=>rw [h] at k; exact ⟨fun b _=>⟨trivial,k⟩,fun hb=>(by cases hb)⟩
 · have hd:¬ ((l.length:Int) < aJO l):=by unfold aJO; omega
   unfold AB
   refine letB (v:=false) (decide_eq_false hd) (bifF rfl (leaveB (letB (v:=decide (l.length≤64)) ?_ rfl)))
   show decide (aJO l≤64)=_
   exact decide_eq_decide.2 ⟨fun h=>by unfold aJO at h; omega,fun h=>by unfold aJO; omega⟩
 · rw [run_all]
   unfold vld
   cases (List.range' 0 l.length).all (okAt z fit les l) <;> rfl
abbrev zC:Cm:=((0:Int),(0:Int))
abbrev zL:Lg:=((0:Int),(0:Int),(0:Int))
def vldC (l:List Cm):Bool:=vld zC fitC lesC l
def vldL (l:List Lg):Bool:=vld zL fitL lesL l
theorem valid_c (N:Nat) {l:List Cm} (hN:l.length < N) (hl:l.length≤100000):n18 (N+50) l=some (vldC l):=by
 rw [e18]
 have h:n42 (N+49) (l,(),())=some (vldC l):=by
  rw [e42]
  exact jB (asc_p zC (0:Int) (fun v=>decide (v≥(0:Int))) fitC lesC (n43 (N+48)) (n44 (N+48)) (fun c=>fits_c (N+45) (by omega) c) (fun a b=>comp_c (N+27) a b) (N+48) (by omega) (by omega))
 exact bindB h rfl
theorem valid_l (N:Nat) {l:List Lg} (hN:l.length < N) (hl:l.length≤100000):n26 (N+50) l=some (vldL l):=by
 rw [e26]
 have h:n50 (N+49) (l,(),())=some (vldL l):=by
  rw [e50]
  exact jB (asc_p zL (0:Int) (fun v=>decide (v≥(0:Int))) fitL lesL (n51 (N+48)) (n52 (N+48)) (fun c=>fits_l (N+45) (by omega) c) (fun a b=>comp_l (N+27) a b) (N+48) (by omega) (by omega))
 exact bindB h rfl
theorem vld_len {T:Type} {z:T} {fit:T→Bool} {les:T→T→Bool} {l:List T} (h:vld z fit les l=true):l.length≤64:=by
 unfold vld at h
 rw [Bool.and_eq_true,decide_eq_true_eq] at h
 exact h.2
theorem vld_fit {T:Type} {z:T} {fit:T→Bool} {les:T→T→Bool} {l:List T} (h:vld z fit les l=true):∀ c∈l,fit c=true:=by
 unfold vld at h
 rw [Bool.and_eq_true,List.all_eq_true] at h
 intro c hc
 obtain ⟨i,hi,e⟩:=List.getElem_of_mem hc
 have:=h.1 i (by simp [List.mem_range']; omega)
 unfold okAt at this
 rw [Bool.and_eq_true,List.getD,List.getElem?_eq_getElem hi,e] at this
 exact this.1
end Go.Proofs.YtghpknbkecolnaaGreatDoor
