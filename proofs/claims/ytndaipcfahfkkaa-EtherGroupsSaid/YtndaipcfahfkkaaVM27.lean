/- Regions whose order is open; the region as a whole. -/
import Derived.Test.YtndaipcfahfkkaaVM26
namespace Go.VM
open Go.RowKit

/-- What is still to go, in its own order. -/
def remOf (listed : Array Bool) (n : Nat) : List Nat := (List.range n).filter fun i => !listed.getD i true

theorem rem_split {listed : Array Bool} {n i : Nat} (h : i ∈ remOf listed n) (hs : listed.size = n) : ∃ ahead post, remOf listed n = ahead ++ i :: post ∧ remOf (listed.setIfInBounds i true) n = ahead ++ post ∧ ∀ j ∈ ahead, j < i := by
  obtain ⟨ahead, post, hsplit⟩ := List.append_of_mem h
  have hp : (remOf listed n).Pairwise (· < ·) := List.Pairwise.filter _ List.pairwise_lt_range
  rw [hsplit] at hp
  obtain ⟨p1, p2, p3⟩ := List.pairwise_append.1 hp
  have hlt : ∀ j ∈ ahead, j < i := fun j hj => p3 j hj i List.mem_cons_self
  have hgt : ∀ j ∈ post, i < j := fun j hj => (List.pairwise_cons.1 p2).1 j hj
  refine ⟨ahead, post, hsplit, ?_, hlt⟩
  have hi : i < n := List.mem_range.1 (List.mem_filter.1 h).1
  have e1 : remOf (listed.setIfInBounds i true) n = (remOf listed n).filter (· != i) := by
    unfold remOf
    rw [List.filter_filter]
    refine List.filter_congr fun j hj => ?_
    have hjn := List.mem_range.1 hj
    by_cases e : j = i
    · subst e
      simp [Array.getD, hs, hi]
    · have : (listed.setIfInBounds i true).getD j true = listed.getD j true := by
        simp only [Array.getD_eq_getD_getElem?, Array.getElem?_setIfInBounds_ne (Ne.symm e)]
      rw [this]
      simp [e]
  rw [e1, hsplit, List.filter_append, List.filter_cons]
  simp only [bne_self_eq_false, Bool.false_eq_true, if_false]
  rw [List.filter_eq_self.2 fun j hj => by have := hlt j hj; simp; omega, List.filter_eq_self.2 fun j hj => by have := hgt j hj; simp; omega]

theorem mask_bit {acc : List Nat} {es : List Edge} {j : Nat} (h : (maskOf acc es).testBit j = true) : ∃ e ∈ es, Region.binds .any e = true ∧ (j = e.on ∨ (acc.getD e.on 0).testBit j = true) := by
  induction es with
  | nil => simp [maskOf] at h
  | cons e r ih =>
    simp only [maskOf, Nat.testBit_or, Bool.or_eq_true] at h
    rcases h with h | h
    · split at h
      · rename_i hb
        simp only [Nat.testBit_or, Bool.or_eq_true] at h
        rcases h with h | h
        · refine ⟨e, List.mem_cons_self, hb, .inl ?_⟩
          rw [Nat.testBit_two_pow] at h
          simpa using Eq.symm (by simpa using h)
        · exact ⟨e, List.mem_cons_self, hb, .inr h⟩
      · simp at h
    · obtain ⟨e', h1, h2⟩ := ih h
      exact ⟨e', List.mem_cons_of_mem _ h1, h2⟩

theorem precs_get : ∀ {os : List Oper} {acc : List Nat} {i : Nat} {o : Oper}, os[i]? = some o → ∃ pre, (precs os acc)[acc.length + i]? = some (maskOf pre o.after.toList) ∧ pre = (precs os acc).take (acc.length + i) ∧ (precs os acc).take acc.length = acc
  | [], acc, i, o, h => by simp at h
  | p :: r, acc, i, o, h => by
    have hacc : ∀ (os : List Oper) (acc : List Nat), (precs os acc).take acc.length = acc := by
      intro os
      induction os with
      | nil => intro acc; simp [precs]
      | cons p r ih =>
        intro acc
        have := ih (acc ++ [maskOf acc p.after.toList])
        simp only [precs]
        have h2 := congrArg (List.take acc.length) this
        rw [List.take_take, List.length_append] at h2
        simpa using h2
    cases i with
    | zero =>
      simp at h; subst h
      refine ⟨acc, ?_, by rw [Nat.add_zero, hacc], hacc _ _⟩
      have h1 := hacc r (acc ++ [maskOf acc p.after.toList])
      have h2 : ((precs r (acc ++ [maskOf acc p.after.toList])).take (acc ++ [maskOf acc p.after.toList]).length)[acc.length]? = some (maskOf acc p.after.toList) := by rw [h1]; simp
      rw [List.getElem?_take_of_lt (by simp)] at h2
      simpa [precs] using h2
    | succ i =>
      simp at h
      obtain ⟨pre, h1, h2, h3⟩ := precs_get (acc := acc ++ [maskOf acc p.after.toList]) h
      have e1 : (acc ++ [maskOf acc p.after.toList]).length + i = acc.length + (i + 1) := by simp; omega
      rw [e1] at h1 h2
      exact ⟨pre, h1, h2, hacc _ _⟩

theorem precs_bit {os : List Oper} {i j : Nat} {o : Oper} (ho : os[i]? = some o) (h : ((precs os []).getD i 0).testBit j = true) : ∃ e ∈ o.after.toList, Region.binds .any e = true ∧ (j = e.on ∨ (e.on < i ∧ ((precs os []).getD e.on 0).testBit j = true)) := by
  obtain ⟨pre, h1, h2, _⟩ := precs_get (acc := []) ho
  simp only [List.length_nil, Nat.zero_add] at h1 h2
  rw [List.getD_eq_getElem?_getD, h1, Option.getD_some] at h
  obtain ⟨e, k1, k2, k3⟩ := mask_bit h
  refine ⟨e, k1, k2, k3.imp id fun k3 => ?_⟩
  rw [h2, List.getD_eq_getElem?_getD, List.getElem?_take] at k3
  split at k3
  · rename_i hlt; exact ⟨hlt, by rw [List.getD_eq_getElem?_getD]; exact k3⟩
  · simp at k3

theorem edges_lt : ∀ {os : List Oper} {k i : Nat} {o : Oper}, edgesOk os k = true → os[i]? = some o → ∀ e ∈ o.after.toList, Region.binds .any e = true → e.on < k + i
  | [], k, i, o, _, h => by simp at h
  | p :: r, k, i, o, he, h => by
    simp only [edgesOk, Bool.and_eq_true, List.all_eq_true] at he
    intro e hee hb
    cases i with
    | zero =>
      simp at h; subst h
      have := he.1 e hee
      simpa [hb] using this
    | succ i =>
      simp at h
      have := edges_lt he.2 h e hee hb
      omega

section
variable {P : Program} {D M : Nat → Prop} {G : Gh} {σ : St} {a : Act} {w : World} {t0 : Nat → Nat} {hh : Hints} {cf : CallF} {sg : Nat → Sig} {ops : Array Oper}

theorem mem_ready {listed : Array Bool} {i : Nat} (h : i ∈ Region.ready .any ops listed) : i < ops.size ∧ listed.getD i true = false ∧ ∀ o, ops[i]? = some o → ∀ e ∈ o.after.toList, Region.binds .any e = true → listed.getD e.on false = true := by
  unfold Region.ready at h
  obtain ⟨h1, h2⟩ := List.mem_filter.1 h
  simp only [Bool.and_eq_true, Bool.not_eq_true'] at h2
  refine ⟨List.mem_range.1 h1, h2.1, fun o ho e he hb => ?_⟩
  have h3 := h2.2
  rw [ho] at h3
  simp only [Option.map_some, Option.getD_some, Array.all_eq_true'] at h3
  have := h3 e (by simpa using he)
  simpa [hb] using this

theorem getD_agree {listed : Array Bool} {n i : Nat} (hs : listed.size = n) (hi : i < n) : listed.getD i true = listed.getD i false := by
  simp [Array.getD, hs, hi]

/-- In whatever order. -/
theorem wpAny_mid (hcf : CallOk P cf) (hnr : NoReg cf) (hq : QuietOk cf sg) {vs : List VOper} {N S : Nat} (hN : N ≤ S) (hcomp : compileOpers P hh N ops ops.toList = some vs) (hnd : (dstsOf vs).Nodup) (hloose : looseAll (precs ops.toList []) vs = true) (hedge : edgesOk ops.toList 0 = true)
    {τ : St} {Q : Exit → Act → World → Prop} {a0 : Act} {w0 : World} {G0 : Gh} (hok : GOk G0 w0)
    (hQ : ∀ D' G' σ' a' w', SR D' M G' σ' a'.tmps w' → StEq σ' τ → Fr G0 w0 G' w' → a'.tmps.size = S → a'.defers = a0.defers → Q .normal a' w') :
    ∀ (fuel : Nat) {listed : Array Bool} {D : Nat → Prop} {G : Gh} {σ : St} {a : Act} {w : World}, listed.size = ops.size → (remOf listed ops.size).length = fuel →
      (∀ k, k < ops.size → listed.getD k true = true → ∀ j, ((precs ops.toList []).getD k 0).testBit j = true → listed.getD j false = true) →
      Mid P hh ops cf sg t0 vs D M G σ τ (remOf listed ops.size) a w → Fr G0 w0 G w → a.tmps.size = S → a.defers = a0.defers → wpAny P .any ops Q fuel listed a w := by
  intro fuel
  induction fuel with
  | zero =>
    intro listed D G σ a w hs hf hcl h hfr hn hd
    have hrem : remOf listed ops.size = [] := List.eq_nil_of_length_eq_zero hf
    refine ⟨?_, ?_⟩
    · rw [List.eq_nil_iff_forall_not_mem]
      intro i hi
      obtain ⟨h1, h2, _⟩ := mem_ready hi
      have : i ∈ remOf listed ops.size := List.mem_filter.2 ⟨List.mem_range.2 h1, by simp [h2]⟩
      rw [hrem] at this
      cases this
    · rw [hrem] at h
      obtain ⟨τ', hrun, heq⟩ := h.run
      cases hrun
      exact hQ D G σ a w h.sr heq hfr hn hd
  | succ fuel ih =>
    intro listed D G σ a w hs hf hcl h hfr hn hd
    refine ⟨fun hr => ?_, fun i hi => ?_⟩
    · -- the first one is ready
      exfalso
      cases hrem : remOf listed ops.size with
      | nil => rw [hrem] at hf; cases hf
      | cons i r =>
        have hi : i ∈ remOf listed ops.size := by rw [hrem]; exact List.mem_cons_self
        obtain ⟨h1, h2⟩ := List.mem_filter.1 hi
        have hin := List.mem_range.1 h1
        have : i ∈ Region.ready .any ops listed := by
          unfold Region.ready
          refine List.mem_filter.2 ⟨h1, ?_⟩
          simp only [Bool.and_eq_true]
          refine ⟨h2, ?_⟩
          rw [Array.getElem?_eq_getElem hin]
          simp only [Option.map_some, Option.getD_some, Array.all_eq_true']
          intro e he
          by_cases hb : Region.binds .any e = true
          · have hlt := edges_lt hedge (i := i) (o := ops[i]) (by rw [Array.getElem?_toList]; exact Array.getElem?_eq_getElem hin) e (by simpa using he) hb
            rw [Nat.zero_add] at hlt
            have hnr' : e.on ∉ remOf listed ops.size := fun hm => by
              rw [hrem] at hm
              have hp : (remOf listed ops.size).Pairwise (· < ·) := List.Pairwise.filter _ List.pairwise_lt_range
              rw [hrem] at hp
              rcases List.mem_cons.1 hm with h3 | h3
              · omega
              · have := (List.pairwise_cons.1 hp).1 _ h3; omega
            have : listed.getD e.on true = true := by
              cases hh : listed.getD e.on true with
              | true => rfl
              | false => exact absurd (List.mem_filter.2 ⟨List.mem_range.2 (by omega), by simp [hh]⟩) hnr'
            rw [← getD_agree hs (by omega), this]
            simp
          · simp [hb]
        rw [hr] at this
        cases this
    · obtain ⟨h1, h2, h3⟩ := mem_ready hi
      have hmem : i ∈ remOf listed ops.size := List.mem_filter.2 ⟨List.mem_range.2 h1, by simp [h2]⟩
      obtain ⟨ahead, post, e1, e2, e3⟩ := rem_split hmem hs
      have ho : ops.toList[i]? = some ops[i] := by rw [Array.getElem?_toList]; exact Array.getElem?_eq_getElem h1
      obtain ⟨c1, c2⟩ := compileOpers_get hcomp
      obtain ⟨v, hv, _⟩ := c2 i _ ho
      -- all that must go before it has gone
      have hpre : ∀ j, ((precs ops.toList []).getD i 0).testBit j = true → listed.getD j false = true := fun j hj => by
        obtain ⟨e, k1, k2, k3⟩ := precs_bit ho hj
        have hl := h3 ops[i] (Array.getElem?_eq_getElem h1) e k1 k2
        rcases k3 with k3 | ⟨k3, k4⟩
        · rw [k3]; exact hl
        · exact hcl e.on (by omega) (by rw [getD_agree hs (by omega)]; exact hl) j k4
      -- it may go before what stands ahead of it
      have hl : ∀ p ∈ ahead.filterMap (fun i => vs[i]?), loose p v = true := fun p hp => by
        obtain ⟨j, hj, hjp⟩ := List.mem_filterMap.1 hp
        have hji := e3 j hj
        have hlen : i < vs.length := by rw [c1]; simpa using h1
        unfold looseAll at hloose
        rw [List.all_eq_true] at hloose
        have q1 := hloose i (List.mem_range.2 hlen)
        rw [List.all_eq_true] at q1
        have q2 := q1 j (List.mem_range.2 hji)
        rw [hjp, hv] at q2
        simp only [Bool.or_eq_true] at q2
        rcases q2 with q2 | q2
        · exfalso
          have hlj := hpre j q2
          have hjm : j ∈ remOf listed ops.size := by rw [e1]; exact List.mem_append.2 (.inl hj)
          have hjn := (List.mem_filter.1 hjm).2
          rw [getD_agree hs (by omega), hlj] at hjn
          cases hjn
        · exact q2
      obtain ⟨τ', hrun, heq⟩ := h.run
      rw [e1, List.filterMap_append, List.filterMap_cons, hv] at hrun
      obtain ⟨τ2, hrun2, heq2⟩ := bubble hnr hq hl hrun
      have hperm : ∀ j, j ∈ i :: (ahead ++ post) → j ∈ remOf listed ops.size := fun j hj => by
        rw [e1]
        rcases List.mem_cons.1 hj with rfl | hj
        · exact List.mem_append.2 (.inr List.mem_cons_self)
        · rcases List.mem_append.1 hj with hj | hj
          · exact List.mem_append.2 (.inl hj)
          · exact List.mem_append.2 (.inr (List.mem_cons_of_mem _ hj))
      have hnod : (i :: (ahead ++ post)).Nodup := by
        have := h.nodup
        rw [e1] at this
        obtain ⟨n1, n2, n3⟩ := List.nodup_append.1 this
        obtain ⟨n4, n5⟩ := List.nodup_cons.1 n2
        refine List.nodup_cons.2 ⟨fun hm => ?_, List.nodup_append.2 ⟨n1, n5, fun x hx y hy => n3 x hx y (List.mem_cons_of_mem _ hy)⟩⟩
        rcases List.mem_append.1 hm with hm | hm
        · exact n3 i hm i List.mem_cons_self rfl
        · exact n4 hm
      have hmid : Mid P hh ops cf sg t0 vs D M G σ τ (i :: (ahead ++ post)) a w :=
        ⟨⟨τ2, by rw [List.filterMap_cons, hv, List.filterMap_append]; exact hrun2, heq2.trans heq⟩, h.sr, h.tips, fun j hj => h.lt j (hperm j hj), fun j hj => h.fresh j (hperm j hj), fun j hj => h.made j (hperm j hj), hnod⟩
      refine hmid.step hcf (by rw [hn]; exact hN) hcomp hnd fun D' G' σ' a' w' q1 q2 q3 q4 => ?_
      refine ih (by simpa using hs) ?_ (fun k hk hkl j hj => ?_) (by rw [e2]; exact q1) (hfr.trans hok q2) (by rw [q3, hn]) (by rw [q4, hd])
      · rw [e2]
        rw [e1] at hf
        simp only [List.length_append, List.length_cons] at hf ⊢
        omega
      · have hset : ∀ j b, (listed.setIfInBounds i true).getD j b = if j = i then true else listed.getD j b := fun j b => by
          by_cases e : j = i
          · subst e; simp [Array.getD, hs, h1]
          · simp only [Array.getD_eq_getD_getElem?, Array.getElem?_setIfInBounds_ne (Ne.symm e), if_neg e]
        rw [hset]
        split
        · rfl
        · rw [hset] at hkl
          split at hkl
          · rename_i e; subst e; exact hpre j hj
          · exact hcl k hk hkl j hj

/-- What an act is to be behind a region. -/
def ThenC (G : Gh) (σ' : St) (a : Act) (w : World) (a' : Act) (w' : World) : Prop :=
  ∃ G', SRc G' σ' a'.tmps w' ∧ Fr G w G' w' ∧ a'.tmps.size = a.tmps.size ∧ a'.defers = a.defers

/-- A REGION. -/
theorem wp_regionV (hcf : CallOk P cf) (hnr : NoReg cf) (hq : QuietOk cf sg) {vs : List VOper} {draw : Bool} {id N : Nat} (hN : N ≤ a.tmps.size) (hc : compileRegion P hh N ops draw = some vs) {τ : St} (hr : runRegion cf sg vs σ = some τ) (h : SRc G σ a.tmps w)
    {Q : Exit → Act → World → Prop} (hQ : ∀ a' w', ThenC G τ a w a' w' → Q .normal a' w') : (Code.region id ops draw).wp P Q a w := by
  unfold compileRegion at hc
  cases hcomp : compileOpers P hh N ops ops.toList with
  | none => rw [hcomp] at hc; cases hc
  | some vs' =>
    rw [hcomp] at hc
    simp only at hc
    split at hc
    · rename_i hcond
      cases hc
      obtain ⟨hnd, hdraw⟩ := hcond
      unfold runRegion at hr
      split at hr
      · rename_i τ1 hrun
        cases hr
        obtain ⟨c1, c2⟩ := compileOpers_get hcomp
        have key : ∀ w2, Calm w w2 → ∃ G1, Fr G w G1 w2 ∧ Mid P hh ops cf sg (bump σ.tips (makes vs)) vs (fun _ => False) (fun d => nmOf d 0 ∈ makes vs) G1 { σ with clk := σ.clk + 1, tips := bump σ.tips (makes vs), lk := updL σ.lk false (makes vs) } τ1 (List.range ops.size) a w2 := fun w2 hcalm => by
          have h2 : SRc G σ a.tmps w2 := h.grow (G' := G) hcalm (fun _ _ => rfl) (fun _ _ _ => ⟨rfl, rfl⟩) (fun _ _ _ _ => ⟨rfl, rfl⟩) rfl
            ⟨fun b hb => Nat.lt_of_lt_of_le (h.ok.lt b hb) hcalm.size, h.ok.famU, fun b nm hb => by
              obtain ⟨cur, e, k1, k2⟩ := h.ok.famC b nm hb
              exact ⟨cur, e, by rw [hcalm.block b (h.ok.lt b (by rw [hb]; simp))]; exact k1, k2⟩, h.ok.rgU⟩ h.clkD h.newD
          obtain ⟨G1, k1, k2⟩ := SR.begin (vs := vs) h2
          have hfr : Fr G w G w2 := fr_calm h.ok hcalm (fun _ _ => rfl) (fun _ _ _ => rfl) (fun _ _ hb => hb)
          refine ⟨G1, hfr.trans h.ok k2, ⟨⟨τ1, ?_, StEq.refl _⟩, k1, fun nm => Nat.le_refl _, fun i hi => List.mem_range.1 hi, fun _ _ _ _ _ _ hd => hd, fun i _ v hv d hd hro => makes_mem (List.mem_of_getElem? hv) hro hd, List.nodup_range⟩⟩
          have : (List.range ops.size).filterMap (fun i => vs[i]?) = vs := by
            have hl : ops.size = vs.length := by rw [c1]; simp
            rw [hl]
            clear hcomp c2 hnd hdraw hrun c1 hl
            apply List.ext_getElem?
            intro i
            have hgen : ∀ (vs : List VOper), (List.range vs.length).filterMap (fun i => vs[i]?) = vs := by
              intro vs
              induction vs with
              | nil => rfl
              | cons x r ih =>
                rw [List.length_cons, List.range_succ_eq_map, List.filterMap_cons]
                simp only [List.getElem?_cons_zero, List.filterMap_map]
                congr 1
            rw [hgen]
          rw [this]; exact hrun
        have fin : ∀ D' G' σ' a' w', SR D' (fun d => nmOf d 0 ∈ makes vs) G' σ' a'.tmps w' → StEq σ' τ1 → Fr G w G' w' → a'.tmps.size = a.tmps.size → a'.defers = a.defers → Q .normal a' w' := fun D' G' σ' a' w' q1 q2 q3 q4 q5 =>
          hQ a' w' ⟨G', ((q1.steq q2).rest).drop _, q3, q4, q5⟩
        cases draw with
        | false =>
          obtain ⟨G1, k1, k2⟩ := key w (Calm.refl w)
          exact wp_region (wpOps_mid hcf hN hcomp hnd (a0 := a) h.ok fin _ k2 k1 rfl rfl)
        | true =>
          obtain ⟨l1, l2, l3⟩ := hdraw rfl
          obtain ⟨G1, k1, k2⟩ := key w.drew ((Calm.refl w).drew)
          have hrem : remOf (Array.replicate ops.size false) ops.size = List.range ops.size := by
            unfold remOf
            refine List.filter_eq_self.2 fun i hi => ?_
            have := List.mem_range.1 hi
            simp [Array.getD, this]
          rw [← hrem] at k2
          exact wp_region_any l3 (wpAny_mid hcf hnr hq hN hcomp hnd l1 l2 (a0 := a) h.ok fin ops.size (by simp) (by rw [hrem, List.length_range]) (fun k hk hl => by simp [Array.getD, hk] at hl) k2 k1 rfl rfl)
      · cases hr
    · cases hc
end
end Go.VM
