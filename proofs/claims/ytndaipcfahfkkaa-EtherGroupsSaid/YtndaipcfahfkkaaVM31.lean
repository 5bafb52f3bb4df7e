/- THE MACHINE'S CALLS ARE THE MODEL'S. -/
import Derived.Test.YtndaipcfahfkkaaVM30
namespace Go.VM
open Go.RowKit

/- no shared variable is pointed at: their numbering does not matter -/
mutual
theorem Rel.nobox {w : World} {A : Pl} {B B' : List Nat} {v : V} {c : Value} (h : Rel w A B v c) (hn : v.noBox = true) : Rel w A B' v c := by
  cases h with
  | undef => exact .undef _
  | bool => exact .bool _
  | int => exact .int _ _
  | str => exact .str _
  | nilp => exact .nilp
  | nilf => exact .nilf
  | nili => exact .nili
  | nils => exact .nils
  | sl l z n cs a cap xs h1 h2 h3 h4 h5 h6 h7 h8 => exact .sl l z n cs a cap xs h1 h2 h3 h4 h5 h6 (RelL.nobox h7 (by simpa [V.noBox] using hn)) h8
  | ep l cs off a z n cap xs h1 h2 h3 h4 => exact .ep l cs off a z n cap xs h1 h2 (RelL.nobox h3 (by simpa [V.noBox] using hn)) h4
  | bp b off blk h1 => simp [V.noBox] at hn
  | agg cs xs h1 => exact .agg cs xs (RelL.nobox h1 (by simpa [V.noBox] using hn))
  | tup cs xs h1 => exact .tup cs xs (RelL.nobox h1 (by simpa [V.noBox] using hn))
  | fn f a b xs ys h1 h2 h3 h4 =>
    simp only [V.noBox, Bool.and_eq_true] at hn
    exact .fn f a b xs ys (RelL.nobox h1 hn.1) (RelL.nobox h2 hn.2) h3 h4
  | iface t v c h1 h2 => exact .iface t v c (Rel.nobox h1 (by simpa [V.noBox] using hn)) h2
theorem RelL.nobox {w : World} {A : Pl} {B B' : List Nat} {vs : List V} {cs : List Value} (h : RelL w A B vs cs) (hn : noBoxL vs = true) : RelL w A B' vs cs := by
  cases h with
  | nil => exact .nil
  | cons v c vs cs h1 h2 =>
    simp only [noBoxL, Bool.and_eq_true] at hn
    exact .cons v c vs cs (Rel.nobox h1 hn.1) (RelL.nobox h2 hn.2)
end
theorem noBoxLL_get {bx : List (List V)} (h : noBoxLL bx = true) : ∀ cs ∈ bx, noBoxL cs = true := by
  induction bx with
  | nil => intro cs hc; cases hc
  | cons x r ih =>
    simp only [noBoxLL, Bool.and_eq_true] at h
    intro cs hc
    rcases List.mem_cons.1 hc with rfl | hc
    · exact h.1
    · exact ih h.2 cs hc

/- results -/
section
variable {P : Program} {D M : Nat → Prop} {G : Gh} {σ : St} {a : Act} {w : World}

def resOf (tm : Array Value) : ResultVar → Sem Value
  | .tmp t => pure (tm.getD t Go.undef)
  | .cell b t => do loadVar t (← asAddr (tm.getD b Go.undef))

theorem results_list (h : SR D M G σ a.tmps w) {N : Nat} : ∀ {rs : List ResultVar} {vs : List RV} {us : List V}, compileRes P N rs = some vs → resVals (get σ.env) vs = some us →
    ∃ cs, RelL w (At G σ.tips σ.lk w) G.bxB us cs ∧ (rs.mapM (resOf a.tmps)).run P w = .ok cs w
  | [], vs, us, hc, hr => by cases hc; cases hr; exact ⟨[], .nil, rfl⟩
  | .tmp t :: r, vs, us, hc, hr => by
    simp only [compileRes] at hc
    split at hc
    · obtain ⟨vs', h1, rfl⟩ := Option.map_eq_some_iff.1 hc
      simp only [resVals] at hr
      split at hr
      · rename_i hk
        obtain ⟨us', h2, rfl⟩ := Option.map_eq_some_iff.1 hr
        obtain ⟨cs, k1, k2⟩ := results_list h h1 h2
        refine ⟨a.tmps.getD t Go.undef :: cs, .cons _ _ _ _ (h.opd_ok (x := .tmp t) (y := .tmp t) rfl hk) k1, ?_⟩
        have e1 : (resOf a.tmps (.tmp t)).run P w = .ok (a.tmps.getD t Go.undef) w := rfl
        rw [List.mapM_cons, Sem.run_bind, e1, Result.andThen_ok, Sem.run_bind, k2, Result.andThen_ok]
        rfl
      · cases hr
    · cases hc
  | .cell b t :: r, vs, us, hc, hr => by
    simp only [compileRes] at hc
    split at hc
    · rename_i g sz hg hs
      split at hc
      · obtain ⟨vs', h1, rfl⟩ := Option.map_eq_some_iff.1 hc
        simp only [resVals] at hr
        split at hr
        · rename_i c n ds he
          split at hr
          · rename_i v hp
            split at hr
            · rename_i hk
              obtain ⟨us', h2, rfl⟩ := Option.map_eq_some_iff.1 hr
              obtain ⟨cs, k1, k2⟩ := results_list h h1 h2
              have hsl := h.slots b
              rw [he] at hsl
              obtain ⟨_, q2, _, xs, e, q3, q4⟩ := hsl
              obtain ⟨p1, p2, p3, p4⟩ := part_rel hp q4
              have hrun := run_loadVar_row' (P := P) (a := ⟨G.rgB b c, 0, none⟩) hg hs p2 p3 (row_of_block q3)
              rw [addr_add] at hrun
              refine ⟨_, .cons _ _ _ _ p1 k1, ?_⟩
              have e1 : (resOf a.tmps (.cell b t)).run P w = (loadVar t ⟨G.rgB b c, 0, none⟩).run P w := by
                simp only [resOf]
                rw [q2]
                simp [asAddr]
              rw [List.mapM_cons, Sem.run_bind, e1, hrun, Result.andThen_ok, Sem.run_bind, k2, Result.andThen_ok]
              rfl
            · cases hr
          · cases hr
        · cases hr
      · cases hc
    · cases hc

theorem results_run (h : SR D M G σ a.tmps w) {N : Nat} {fn : Func} {vs : List RV} {us : List V} (hc : compileRes P N fn.results.toList = some vs) (hr : resVals (get σ.env) vs = some us) :
    ∃ cs, RelL w (At G σ.tips σ.lk w) G.bxB us cs ∧ (results fn a.tmps).run P w = .ok (packC cs) w := by
  obtain ⟨cs, h1, h2⟩ := results_list h hc hr
  refine ⟨cs, h1, ?_⟩
  have e0 : results fn a.tmps = (do
      let vs ← fn.results.mapM (resOf a.tmps)
      pure (if h : vs.size = 1 then vs[0] else .tuple vs)) := by
    unfold results
    congr 2
  have e1 : (fn.results.mapM (resOf a.tmps)).run P w = .ok cs.toArray w := by
    rw [Array.mapM_eq_mapM_toList, ← bind_pure_comp, Sem.run_bind, h2, Result.andThen_ok]
    rfl
  rw [e0, Sem.run_bind, e1, Result.andThen_ok, Sem.run_pure]
  congr 1
  match cs with
  | [] => rfl
  | [c] => rfl
  | c :: d :: r =>
    rw [dif_neg (by simp)]
    rfl
end

/- what is handed on -/
section
variable {T : Nat → Nat} {lk : Nat → Bool} {all : List Nat}

theorem labs1_map {v : V} {g : Lab → Lab} : (v.mapLab1 g).labs1 = v.labs1.map g := by cases v <;> rfl
theorem labs_map {v : V} {g : Lab → Lab} : (v.mapLab g).labs = v.labs.map g := by
  rcases owns_or v with ⟨cs, rfl⟩ | ⟨o0, o1, o2, o3, o4, o5, o6⟩
  · simp only [V.mapLab, V.labs, List.flatMap_map, List.map_flatMap, labs1_map]
  · have : (v.mapLab1 g).labs = (v.mapLab1 g).labs1 := by cases v <;> first | rfl | exact absurd rfl (o0 _)
    rw [o6, this, labs1_map, o3]

theorem ownNm_labs {v : V} {nm : Nat} (h : nm ∈ ownNm v) : ∃ f, Lab.own nm f ∈ v.labs1 := by
  unfold ownNm at h
  split at h
  · simp at h; subst h; exact ⟨_, by simp [V.labs1]; rfl⟩
  · cases h
theorem owns_labs {v : V} {nm : Nat} (h : nm ∈ owns v) : ∃ f, Lab.own nm f ∈ v.labs := by
  rcases owns_or v with ⟨cs, rfl⟩ | ⟨o0, o1, o2, o3, o4, o5, o6⟩
  · simp only [owns, List.mem_flatMap] at h
    obtain ⟨u, hu, h⟩ := h
    obtain ⟨f, hf⟩ := ownNm_labs h
    exact ⟨f, List.mem_flatMap.2 ⟨u, hu, hf⟩⟩
  · rw [o1] at h; rw [o3]; exact ownNm_labs h

theorem adopt_own {l : Lab} {nm f : Nat} (h : adoptLab T lk all l = .own nm f) : l = .own nm (T nm) ∧ all.count nm = 1 ∧ 64 ≤ nm ∧ f = if lk nm then 1 else 0 := by
  unfold adoptLab at h
  split at h
  · rename_i nm' k
    split at h
    · rename_i hc
      split at h
      · cases h
      · rename_i h64
        cases h
        exact ⟨by rw [hc.1], hc.2, by omega, rfl⟩
    · cases h
  · cases h

theorem ownNm_count {v : V} {nm : Nat} (hk : v.ok1 = true) : (ownNm (v.mapLab1 (adoptLab T lk all))).count nm ≤ v.names.count nm := by
  cases v with
  | sl l z n cs =>
    simp only [V.mapLab1, V.names]
    cases he : adoptLab T lk all l with
    | own nm' f =>
      obtain ⟨h1, _⟩ := adopt_own he
      rw [h1]
      exact Nat.le_refl _
    | _ => simp [ownNm]
  | _ => simp [V.mapLab1, ownNm]
theorem owns_count {v : V} {nm : Nat} (hk : v.ok = true) : (owns (v.mapLab (adoptLab T lk all))).count nm ≤ v.names.count nm := by
  rcases owns_or v with ⟨cs, rfl⟩ | ⟨o0, o1, o2, o3, o4, o5, o6⟩
  · simp only [V.ok, List.all_eq_true] at hk
    simp only [V.mapLab, owns, V.names]
    induction cs with
    | nil => simp
    | cons u r ih =>
      simp only [List.map_cons, List.flatMap_cons, List.count_append, namesL]
      have h1 := ownNm_count (T := T) (lk := lk) (all := all) (nm := nm) (hk u List.mem_cons_self)
      have h2 := ih fun x hx => hk x (List.mem_cons_of_mem _ hx)
      omega
  · have h1 : v.ok1 = true := by cases v <;> first | exact hk | exact absurd rfl (o0 _)
    rw [o6]
    have : owns (v.mapLab1 (adoptLab T lk all)) = ownNm (v.mapLab1 (adoptLab T lk all)) := by cases v <;> first | rfl | exact absurd rfl (o0 _)
    rw [this]
    exact ownNm_count h1
theorem ownsL_count {vs : List V} {nm : Nat} (hk : ∀ v ∈ vs, v.ok = true) : ((vs.map (V.mapLab (adoptLab T lk all))).flatMap owns).count nm ≤ (namesL vs).count nm := by
  induction vs with
  | nil => simp
  | cons u r ih =>
    simp only [List.map_cons, List.flatMap_cons, List.count_append, namesL]
    have h1 := owns_count (T := T) (lk := lk) (all := all) (nm := nm) (hk u List.mem_cons_self)
    have h2 := ih fun x hx => hk x (List.mem_cons_of_mem _ hx)
    omega
end

theorem number1_ep {v : V} {i : Nat} (h : epFree1 v = false) : (number1 i v).1 = v := by
  unfold epFree1 at h
  split at h
  · rfl
  · cases h
theorem epFree_news {v : V} {i : Nat} (hl : ∀ l ∈ v.labs, ∀ nm f, l = .own nm f → 64 ≤ nm) (h : epFree v = false) : ∃ nm ∈ (number i v).1.news, 64 ≤ nm := by
  have one : ∀ {u : V} {i : Nat}, epFree1 u = false → (∀ l ∈ u.labs1, ∀ nm f, l = .own nm f → 64 ≤ nm) → ∃ nm ∈ (number1 i u).1.news1, 64 ≤ nm := fun {u i} hu hl => by
    rw [number1_ep hu]
    unfold epFree1 at hu
    split at hu
    · rename_i nm f cs off
      exact ⟨nm, by simp [V.news1, Lab.news], hl (.own nm f) (by simp [V.labs1]) nm f rfl⟩
    · cases hu
  rcases owns_or v with ⟨cs, rfl⟩ | ⟨o0, o1, o2, o3, o4, o5, o6⟩
  · simp only [epFree] at h
    simp only [V.labs] at hl
    have : ∀ (cs : List V) (i : Nat), (cs.all epFree1) = false → (∀ l ∈ cs.flatMap V.labs1, ∀ nm f, l = .own nm f → 64 ≤ nm) → ∃ nm ∈ (numberL i cs).1.flatMap V.news1, 64 ≤ nm := by
      intro cs
      induction cs with
      | nil => intro i h _; cases h
      | cons u r ih =>
        intro i h hl
        simp only [numberL]
        by_cases hu : epFree1 u = true
        · simp only [List.all_cons, hu, Bool.true_and] at h
          obtain ⟨nm, h1, h2⟩ := ih _ h fun l hll => hl l (by rw [List.flatMap_cons]; exact List.mem_append.2 (.inr hll))
          exact ⟨nm, by rw [List.flatMap_cons]; exact List.mem_append.2 (.inr h1), h2⟩
        · obtain ⟨nm, h1, h2⟩ := one (i := i) (by simpa using hu) fun l hll => hl l (by rw [List.flatMap_cons]; exact List.mem_append.2 (.inl hll))
          exact ⟨nm, by rw [List.flatMap_cons]; exact List.mem_append.2 (.inl h1), h2⟩
    exact this cs i h hl
  · have h1 : epFree1 v = false := by cases v <;> first | exact h | exact absurd rfl (o0 _)
    rw [o2]
    have h2 : (number1 i v).1.news = (number1 i v).1.news1 := by
      rw [number1_ep h1]; exact o4
    rw [h2]
    exact one h1 (by rw [← o3]; exact hl)
theorem epFree_all {vs : List V} (hl : ∀ l ∈ labsL vs, ∀ nm f, l = .own nm f → 64 ≤ nm) : ∀ {i : Nat}, (newsOf (numberAll i vs)).all (· < 64) = true → ∀ v ∈ vs, epFree v = true := by
  induction vs with
  | nil => intro i _ v hv; cases hv
  | cons u r ih =>
    intro i h v hv
    simp only [numberAll, newsOf, List.flatMap_cons, List.all_append, Bool.and_eq_true] at h
    have hu : ∀ l ∈ u.labs, ∀ nm f, l = .own nm f → 64 ≤ nm := fun l hll => hl l (by simp only [labsL, List.flatMap_cons]; exact List.mem_append.2 (.inl hll))
    have hr : ∀ l ∈ labsL r, ∀ nm f, l = .own nm f → 64 ≤ nm := fun l hll => hl l (by simp only [labsL, List.flatMap_cons]; exact List.mem_append.2 (.inr hll))
    rcases List.mem_cons.1 hv with rfl | hv
    · by_cases he : epFree v = true
      · exact he
      · obtain ⟨nm, h1, h2⟩ := epFree_news (i := i) hu (by simpa using he)
        have := List.all_eq_true.1 h.1 nm h1
        simp at this; omega
    · exact ih hr h.2 v hv

theorem single_map {v : V} {g : Lab → Lab} (h : v.single = true) : (v.mapLab1 g).single = true := by cases v <;> first | rfl | cases h
theorem flat_map {v : V} {g : Lab → Lab} (h : v.flat = true) : (v.mapLab g).flat = true := by
  cases v with
  | agg cs =>
    simp only [V.mapLab, V.flat, List.all_eq_true, List.mem_map] at *
    rintro u ⟨x, hx, rfl⟩
    exact single_map (h x hx)
  | tup => cases h
  | _ => rfl
theorem single_number {v : V} {i : Nat} (h : v.single = true) : (number1 i v).1.single = true := by
  unfold number1
  split
  · rfl
  · exact h
theorem flat_number {v : V} {i : Nat} (h : v.flat = true) : (number i v).1.flat = true := by
  rcases owns_or v with ⟨cs, rfl⟩ | ⟨o0, o1, o2, o3, o4, o5, o6⟩
  · simp only [number, V.flat, List.all_eq_true] at *
    have : ∀ (cs : List V) (i : Nat), (∀ u ∈ cs, u.single = true) → ∀ u ∈ (numberL i cs).1, u.single = true := by
      intro cs
      induction cs with
      | nil => intro i _ u hu; cases hu
      | cons x r ih =>
        intro i h u hu
        simp only [numberL, List.mem_cons] at hu
        rcases hu with rfl | hu
        · exact single_number (h x List.mem_cons_self)
        · exact ih _ (fun y hy => h y (List.mem_cons_of_mem _ hy)) u hu
    exact this cs i h
  · rw [o2]
    unfold number1
    split
    · rfl
    · exact h
theorem flat_numberAll {vs : List V} (h : ∀ v ∈ vs, v.flat = true) : ∀ i, ∀ v ∈ numberAll i vs, v.flat = true := by
  induction vs with
  | nil => intro i v hv; cases hv
  | cons u r ih =>
    intro i v hv
    simp only [numberAll, List.mem_cons] at hv
    rcases hv with rfl | hv
    · exact flat_number (h u List.mem_cons_self)
    · exact ih (fun x hx => h x (List.mem_cons_of_mem _ hx)) _ v hv

theorem shared_number1 {v : V} {i nm : Nat} (hnm : nm ∈ ownNm v) (hf : ∀ f, Lab.own nm f ∈ v.labs1 → f = 1) : i ∈ (number1 i v).1.shared1 := by
  unfold ownNm at hnm
  split at hnm
  · rename_i nm' f z n cs
    simp at hnm; subst hnm
    have := hf f (by simp [V.labs1])
    subst this
    simp [number1, V.shared1, Lab.shared]
  · cases hnm
theorem shared_numberL {vs : List V} {nm : Nat} (hf : ∀ f, Lab.own nm f ∈ vs.flatMap V.labs1 → f = 1) : ∀ {i j : Nat}, (vs.flatMap ownNm)[j]? = some nm → i + j ∈ (numberL i vs).1.flatMap V.shared1 := by
  induction vs with
  | nil => intro i j h; simp at h
  | cons u r ih =>
    intro i j h
    simp only [numberL]
    rw [List.flatMap_cons] at h ⊢
    have hlen : (ownNm u).length ≤ 1 := by unfold ownNm; split <;> simp
    by_cases hj : j < (ownNm u).length
    · have hj0 : j = 0 := by omega
      subst hj0
      rw [List.getElem?_append_left hj] at h
      exact List.mem_append.2 (.inl (shared_number1 (List.mem_of_getElem? h) fun f hff => hf f (by rw [List.flatMap_cons]; exact List.mem_append.2 (.inl hff))))
    · rw [List.getElem?_append_right (by omega)] at h
      have := ih (fun f hff => hf f (by rw [List.flatMap_cons]; exact List.mem_append.2 (.inr hff))) (i := (number1 i u).2) h
      rw [number1_snd, Nat.add_assoc, Nat.add_sub_cancel' (by omega)] at this
      rw [number1_snd]
      exact List.mem_append.2 (.inr this)
theorem shared_number {v : V} {nm : Nat} (hf : ∀ f, Lab.own nm f ∈ v.labs → f = 1) {i j : Nat} (h : (owns v)[j]? = some nm) : i + j ∈ (number i v).1.shared := by
  rcases owns_or v with ⟨cs, rfl⟩ | ⟨o0, o1, o2, o3, o4, o5, o6⟩
  · exact shared_numberL hf h
  · rw [o1] at h
    rw [o2]
    have hlen : (ownNm v).length ≤ 1 := by unfold ownNm; split <;> simp
    have hj := (List.getElem?_eq_some_iff.1 h).1
    have hj0 : j = 0 := by omega
    subst hj0
    have h1 := shared_number1 (i := i) (List.mem_of_getElem? h) (by rw [← o3]; exact hf)
    have h2 : (number1 i v).1.shared = (number1 i v).1.shared1 := by
      unfold number1
      split
      · rfl
      · exact o5
    rw [h2]; exact h1
theorem shared_numberAll {vs : List V} {nm : Nat} (hf : ∀ f, Lab.own nm f ∈ labsL vs → f = 1) : ∀ {i j : Nat}, (vs.flatMap owns)[j]? = some nm → i + j ∈ (numberAll i vs).flatMap V.shared := by
  induction vs with
  | nil => intro i j h; simp at h
  | cons u r ih =>
    intro i j h
    simp only [numberAll]
    rw [List.flatMap_cons] at h ⊢
    by_cases hj : j < (owns u).length
    · rw [List.getElem?_append_left hj] at h
      exact List.mem_append.2 (.inl (shared_number (fun f hff => hf f (by simp only [labsL, List.flatMap_cons]; exact List.mem_append.2 (.inl hff))) h))
    · rw [List.getElem?_append_right (by omega)] at h
      have := ih (fun f hff => hf f (by simp only [labsL, List.flatMap_cons]; exact List.mem_append.2 (.inr hff))) (i := (number i u).2) h
      rw [number_snd, Nat.add_assoc, Nat.add_sub_cancel' (by omega)] at this
      rw [number_snd]
      exact List.mem_append.2 (.inr this)

section
variable {P : Program} {G G0 : Gh} {σ : St} {a : Act} {w w0 : World}

/-- WHAT IS HANDED BACK at a callee's end. -/
theorem ret_end {tm : Array Value} (h : SRc G σ tm w) {vs0 : List V} {cs0 : List Value} {bx0 : BX} (hst : Start G0 w0 vs0 cs0 bx0) (hfr : Fr G0 w0 G w) {us : List V} {cs : List Value} (hus : ∀ v ∈ us, v.ok = true) (hr : RelL w (At G σ.tips σ.lk w) G.bxB us cs)
    (h64 : (newsOf (finish σ.tips σ.lk us)).all (· < 64) = true) : ∃ G' lk, Ret G0 w0 G' lk w (finish σ.tips σ.lk us) cs bx0 (keepBoxes bx0.length (finish σ.tips σ.lk us) σ.bx) := by
  -- the shared variables that stay
  have hbl : bx0.length ≤ σ.bx.length := by
    rw [hst.boxes.1, h.boxes.1]
    by_cases hz : G0.bxB.length = 0
    · omega
    · have hlt : G0.bxB.length - 1 < G0.bxB.length := by omega
      have := hfr.boxes (G0.bxB.length - 1) _ (List.getElem?_eq_getElem hlt)
      have := (List.getElem?_eq_some_iff.1 this).1
      omega
  have hbx : ∃ nn, keepBoxes bx0.length (finish σ.tips σ.lk us) σ.bx = σ.bx.take nn ∧ nn ≤ σ.bx.length ∧ bx0.length ≤ nn ∧ (nn = σ.bx.length ∨ (noBoxL (finish σ.tips σ.lk us) = true ∧ noBoxLL (σ.bx.take nn) = true)) := by
    unfold keepBoxes
    split
    · rename_i he; exact ⟨σ.bx.length, by simp, Nat.le_refl _, by omega, .inl rfl⟩
    · split
      · rename_i hb
        simp only [Bool.and_eq_true] at hb
        exact ⟨bx0.length, rfl, hbl, Nat.le_refl _, .inr hb⟩
      · exact ⟨σ.bx.length, by simp, Nat.le_refl _, hbl, .inl rfl⟩
  obtain ⟨nn, hk, hnn, hnb, hcase⟩ := hbx
  rw [hk]
  have hbB : nn = σ.bx.length → G.bxB.take nn = G.bxB := fun e => by rw [e, h.boxes.1, List.take_length]
  -- the names that go on
  let ad := (us.map (V.mapLab (adoptLab σ.tips σ.lk (namesL us)))).flatMap owns
  have hall := namesL_labs hus
  have hadm : ∀ nm ∈ ad, Lab.own nm (σ.tips nm) ∈ labsL us ∧ (namesL us).count nm = 1 ∧ 64 ≤ nm := fun nm hnm => by
    obtain ⟨u, hu, ho⟩ := List.mem_flatMap.1 hnm
    obtain ⟨v, hv, rfl⟩ := List.mem_map.1 hu
    obtain ⟨f, hf⟩ := owns_labs ho
    rw [labs_map] at hf
    obtain ⟨l, hl, he⟩ := List.mem_map.1 hf
    obtain ⟨h1, h2, h3, _⟩ := adopt_own he
    exact ⟨List.mem_flatMap.2 ⟨v, hv, h1 ▸ hl⟩, h2, h3⟩
  have hnd : ad.Nodup := List.nodup_iff_count.2 fun nm => by
    by_cases hm : nm ∈ ad
    · have := ownsL_count (T := σ.tips) (lk := σ.lk) (all := namesL us) (nm := nm) hus
      have h2 := (hadm nm hm).2.1
      rw [h2] at this
      exact this
    · rw [List.count_eq_zero_of_not_mem hm]; omega
  have hlabs : ∀ l ∈ labsL (us.map (V.mapLab (adoptLab σ.tips σ.lk (namesL us)))), ∃ l' ∈ labsL us, l = adoptLab σ.tips σ.lk (namesL us) l' := fun l hl => by
    obtain ⟨u, hu, ho⟩ := List.mem_flatMap.1 hl
    obtain ⟨v, hv, rfl⟩ := List.mem_map.1 hu
    rw [labs_map] at ho
    obtain ⟨l', hl', he⟩ := List.mem_map.1 ho
    exact ⟨l', List.mem_flatMap.2 ⟨v, hv, hl'⟩, he.symm⟩
  have hep : ∀ v ∈ us.map (V.mapLab (adoptLab σ.tips σ.lk (namesL us))), epFree v = true := epFree_all (fun l hl nm f e => by
    obtain ⟨l', _, e2⟩ := hlabs l hl
    exact (adopt_own (e2.symm.trans e)).2.2.1) h64
  have hflat : ∀ v ∈ us.map (V.mapLab (adoptLab σ.tips σ.lk (namesL us))), v.flat = true := fun v hv => by
    obtain ⟨u, hu, rfl⟩ := List.mem_map.1 hv
    exact flat_map (V.flat_of_ok (hus u hu))
  -- the relation, in two steps
  have hkB : KeepsB w w (At G σ.tips σ.lk w) (AtM ad G nn σ.lk w) G.bxB G.bxB := ⟨fun l a len z k cap hl ha => ⟨by
    cases l with
    | none =>
      change AtR (endG ad G nn) (endLk ad σ.lk) w .none a len z k cap
      rcases ha with h0 | ha | ⟨nm, h1, h2, h3⟩
      · exact .inl h0
      · exact .inr (.inl (endG_still ha))
      · exact end_none (.inr ⟨h2, h3⟩) (.inr (.inr h1))
    | rv => exact ha.elim
    | _ => simp [Lab.names] at hl, fun _ _ => rfl⟩, fun _ _ hb => hb⟩
  have hmid : RelL w (AtM ad G nn σ.lk w) G.bxB (us.map (V.mapLab (adoptLab σ.tips σ.lk (namesL us)))) cs := by
    have : ∀ (xs : List V) (ys : List Value), RelL w (At G σ.tips σ.lk w) G.bxB xs ys → (∀ x ∈ xs, x ∈ us) → RelL w (AtM ad G nn σ.lk w) G.bxB (xs.map (V.mapLab (adoptLab σ.tips σ.lk (namesL us)))) ys := by
      intro xs
      induction xs with
      | nil => intro ys hh _; cases hh; exact .nil
      | cons x r ih =>
        intro ys hh hx
        cases hh with
        | cons _ c _ ys k1 k2 =>
          have hxu := hx x List.mem_cons_self
          refine .cons _ _ _ _ (k1.mapLab hkB (fun l hl a len z k cap ha => ⟨?_, fun _ _ => rfl⟩) (V.flat_of_ok (hus x hxu))) (ih ys k2 fun y hy => hx y (List.mem_cons_of_mem _ hy))
          exact end_lab h hall (fun nm hnm _ => ⟨(hadm nm hnm).1, (hadm nm hnm).2.1⟩) (List.mem_flatMap.2 ⟨x, hxu, hl⟩) ha
    exact this us cs hr fun _ hx => hx
  have hres0 : RelL w (AtR (endG ad G nn) (endLk ad σ.lk) w) G.bxB (finish σ.tips σ.lk us) cs :=
    numberAll_rel (ad := ad) (fun nm j f a len z k cap hj ha => end_own hnd hj ha) (fun l a len z k cap hne ha => by
      cases l with
      | none => exact ha
      | own nm f => exact absurd rfl (hne nm f)
      | arg i => exact end_arg ha
      | pre => exact ha.elim
      | view => exact ha.elim
      | rv => exact ha.elim) hmid hflat hep (i := 0) (fun j nm hj => by rw [Nat.zero_add]; exact hj)
  have hkB2 : KeepsB w w (At G σ.tips σ.lk w) (AtR (endG ad G nn) (endLk ad σ.lk) w) G.bxB G.bxB := ⟨fun l a len z k cap hl ha => ⟨by
    have := (hkB.1 l a len z k cap hl ha).1
    cases l with
    | none => exact this
    | rv => exact ha.elim
    | _ => simp [Lab.names] at hl, fun _ _ => rfl⟩, fun _ _ hb => hb⟩
  have hfamB : ∀ {b m : Nat}, (endG ad G nn).Z b = .fam m → b = (endG ad G nn).famB m ∧ ∃ cur e, w.heap[b]? = some (.cells cur e (0, 0)) ∧ (endG ad G nn).ext m ≤ cur.size := fun {b m} hz => by
    cases hg : G.Z b with
    | fam nm =>
      rw [endG_fam hg] at hz
      split at hz
      · rename_i h64; cases hz
        simp only [endG, if_pos h64]
        exact ⟨h.ok.famU b _ hg, h.ok.famC b _ hg⟩
      · split at hz
        · rename_i i hp
          cases hz
          have hi := posOf_some hp
          simp only [endG]
          rw [if_neg (by omega), if_neg (by omega), Nat.add_sub_cancel_left, List.getD_eq_getElem?_getD, hi]
          exact ⟨h.ok.famU b _ hg, h.ok.famC b _ hg⟩
        · cases hz
    | bx i => simp only [endG, hg] at hz; split at hz <;> cases hz
    | _ => simp only [endG, hg] at hz; cases hz
  refine ⟨endG ad G nn, endLk ad σ.lk, ⟨fun b hb => h.ok.lt b fun ho => hb (by simp only [endG, ho]), fun b m hz => (hfamB hz).1, fun b m hz => (hfamB hz).2, fun b s c hz => ?_⟩, ⟨hfr.os, hfr.tape, hfr.output, hfr.size, fun b hb hz => ?_, fun b nm hnm hz => ?_, fun i b hi => ?_⟩, fun i hi => ?_, ?_, flat_numberAll hflat 0, ⟨?_, fun i ds hi => ?_⟩, ?_⟩
  · exfalso
    cases hg : G.Z b with
    | fam nm =>
      rw [endG_fam hg] at hz
      split at hz
      · cases hz
      · split at hz <;> cases hz
    | bx i => simp only [endG, hg] at hz; split at hz <;> cases hz
    | _ => simp only [endG, hg] at hz; cases hz
  · obtain ⟨k1, k2⟩ := hfr.rest b hb hz
    refine ⟨k1, ?_⟩
    rcases hz with hz | ⟨m, hz⟩
    · rw [hz] at k2; simp only [endG, k2, hz]
    · rw [hz] at k2; simp only [endG, k2, hz]
  · obtain ⟨k1, k2⟩ := hfr.used b nm hnm hz
    refine ⟨k1, ?_⟩
    rcases k2 with ⟨k2, k3⟩ | ⟨m, k2, k3⟩
    · exact .inl ⟨by rw [endG_fam k2, if_pos hnm], by simp only [endG, if_pos hnm]; exact k3⟩
    · exact .inr ⟨m, by simp only [endG, k2], k3⟩
  · have h1 := hfr.boxes i b hi
    have h2 := (List.getElem?_eq_some_iff.1 hi).1
    show (G.bxB.take nn)[i]? = some b
    rw [List.getElem?_take_of_lt (by rw [hst.boxes.1] at hnb; omega)]
    exact h1
  · simp only [endLk] at hi
    rw [if_neg (by omega), Nat.add_sub_cancel_left] at hi
    cases hai : ad[i]? with
    | none => rw [hai] at hi; cases hi
    | some nm =>
      rw [hai] at hi
      have := shared_numberAll (vs := us.map (V.mapLab (adoptLab σ.tips σ.lk (namesL us)))) (nm := nm) (fun f hf => by
        obtain ⟨l', _, e2⟩ := hlabs _ hf
        have := (adopt_own e2.symm).2.2.2
        simp only at hi
        rw [this, if_pos hi]) (i := 0) hai
      rw [Nat.zero_add] at this
      exact this
  · show RelL _ _ (G.bxB.take nn) _ _
    rcases hcase with hc | hc
    · rw [hbB hc]; exact hres0
    · exact hres0.nobox hc.1
  · show (σ.bx.take nn).length = (G.bxB.take nn).length
    rw [List.length_take, List.length_take, h.boxes.1]
  · have hin : i < nn := by
      have := (List.getElem?_eq_some_iff.1 hi).1
      rw [List.length_take] at this; omega
    have hi0 := hi
    rw [List.getElem?_take_of_lt hin] at hi
    obtain ⟨hn, b, q1, q2, xs, e, q3, q4⟩ := h.boxes.2 i ds hi
    refine ⟨hn, b, ?_, by simp only [endG, q2, if_pos hin], xs, e, q3, ?_⟩
    · show (G.bxB.take nn)[i]? = some b
      rw [List.getElem?_take_of_lt hin]; exact q1
    · have h5 := q4.keepB hkB2 hn
      show RelL _ _ (G.bxB.take nn) _ _
      rcases hcase with hc | hc
      · rw [hbB hc]; exact h5
      · exact h5.nobox (noBoxLL_get hc.2 ds (List.mem_of_getElem? hi0))
  · rw [List.length_take]; omega

/-- THE MACHINE'S CALLS ARE THE MODEL'S. -/
theorem call_sound {F : Nat → Option Entry} (hF : TableOk P F) : ∀ n, CallOk P (call F n) := by
  intro n
  induction n with
  | zero => intro f vs bx r bx' h; cases h
  | succ n ih =>
    intro f vs bx r bx' h h64 G w cs hst
    unfold call at h
    split at h
    · rename_i vf hf
      obtain ⟨fn, hh, h1, h2⟩ := hF f _ hf
      obtain ⟨c, hb, hcode, hres, _, _, _, hname⟩ := compileFn_inv h2
      obtain ⟨e, τ, us, hex, he, hrv, rfl, rfl⟩ := endOf_inv h
      have hok := resVals_ok hrv
      obtain ⟨hrr, _⟩ := finish_results (T := τ.tips) (lk := τ.lk) hok
      rw [hrr] at h64 ⊢
      refine .inl ⟨?_, calls_of_wp h1 hb (wp_mono (wp_codeV ih (noReg_call hF n) (quietOk_call hF n) c hcode hex (SRc.start hst vf _) (by simp; omega)) fun e' a' w' ⟨k1, G1, k2, k3, k4, k5⟩ => ?_)⟩
      · unfold callFunc
        have hp : (Go.program : Sem Program).run P w = .ok P w := rfl
        rw [Sem.run_bind, hp, Result.andThen_ok, h1]
        simp only
        rw [if_neg (by rw [hname]; simp), if_neg (by rw [hb]; simp)]
        rfl
      · obtain ⟨rcs, q1, q2⟩ := results_run k2 hres hrv
        obtain ⟨G', lk, q3⟩ := ret_end k2 hst k3 hok q1 h64
        subst k1
        rcases he with rfl | rfl
        · exact ⟨k5, _, q2, _, rfl, rcs, G', lk, rfl, q3⟩
        · exact ⟨k5, _, q2, _, rfl, rcs, G', lk, rfl, q3⟩
    · rename_i cons p hf
      obtain ⟨v, h1, h2⟩ := Option.map_eq_some_iff.1 h
      cases h2
      exact (hF f _ hf).call _ _ h1 G w cs bx hst
    · cases h
end
end Go.VM
