/- '==', min and max, closures, interface values. -/
import Derived.Test.YtndaipcfahfkkaaVM9
namespace Go.VM
open Go.RowKit

section
variable {P : Program} {D M : Nat → Prop} {G : Gh} {σ : St} {a : Act} {w : World} {o : Oper} {t0 : Nat → Nat} {clk d : Nat} {bx : BX}

theorem eqi_sl1 (n : Nat) {t e : TypeId} (hu : P.underlying t = some (.slice e)) (b : Option Addr) (l c : Nat) : (Op.equalIn (n + 1) t (.slice none 0 0) (.slice b l c)).run P w = .ok b.isNone w := by simp [Op.equalIn, run_underlying hu]
theorem eqi_sl2 (n : Nat) {t e : TypeId} (hu : P.underlying t = some (.slice e)) (b : Addr) (l c : Nat) : (Op.equalIn (n + 1) t (.slice (some b) l c) (.slice none 0 0)).run P w = .ok false w := by simp [Op.equalIn, run_underlying hu]
theorem eqi_p1 (n : Nat) {t e : TypeId} (hu : P.underlying t = some (.pointer e)) (b : Option Addr) : (Op.equalIn (n + 1) t (.pointer none) (.pointer b)).run P w = .ok b.isNone w := by simp [Op.equalIn, run_underlying hu]
theorem eqi_p2 (n : Nat) {t e : TypeId} (hu : P.underlying t = some (.pointer e)) (b : Option Addr) : (Op.equalIn (n + 1) t (.pointer b) (.pointer none)).run P w = .ok b.isNone w := by cases b <;> simp [Op.equalIn, run_underlying hu]
theorem eqi_f0 (n : Nat) {t : TypeId} {p1 p2 : Array TypeId} {p3 : Bool} (hu : P.underlying t = some (.func p1 p2 p3)) : (Op.equalIn (n + 1) t .nilFunc .nilFunc).run P w = .ok true w := by simp [Op.equalIn, run_underlying hu]
theorem eqi_f1 (n : Nat) {t : TypeId} {p1 p2 : Array TypeId} {p3 : Bool} (hu : P.underlying t = some (.func p1 p2 p3)) (f : Fn) (x y : Array Value) : (Op.equalIn (n + 1) t .nilFunc (.func f x y)).run P w = .ok false w := by simp [Op.equalIn, run_underlying hu]
theorem eqi_f2 (n : Nat) {t : TypeId} {p1 p2 : Array TypeId} {p3 : Bool} (hu : P.underlying t = some (.func p1 p2 p3)) (f : Fn) (x y : Array Value) : (Op.equalIn (n + 1) t (.func f x y) .nilFunc).run P w = .ok false w := by simp [Op.equalIn, run_underlying hu]
theorem eqi_i0 (n : Nat) {t : TypeId} {ms : Array (String × TypeId)} (hu : P.underlying t = some (.interface ms)) : (Op.equalIn (n + 1) t .nilIface .nilIface).run P w = .ok true w := by simp [Op.equalIn, run_underlying hu]
theorem eqi_i1 (n : Nat) {t : TypeId} {ms : Array (String × TypeId)} (hu : P.underlying t = some (.interface ms)) (u : TypeId) (x : Value) : (Op.equalIn (n + 1) t .nilIface (.iface u x)).run P w = .ok false w := by simp [Op.equalIn, run_underlying hu]
theorem eqi_i2 (n : Nat) {t : TypeId} {ms : Array (String × TypeId)} (hu : P.underlying t = some (.interface ms)) (u : TypeId) (x : Value) : (Op.equalIn (n + 1) t (.iface u x) .nilIface).run P w = .ok false w := by simp [Op.equalIn, run_underlying hu]

theorem eqGuard_nili {op : BinOp} {t : TypeId} {x y : Operand} (hcon : (isConstO x || isConstO y) = true) : (eqGuard op t x y .nilIface .nilIface).run P w = .ok () w := by
  unfold eqGuard
  cases op <;> cases x <;> cases y <;> first | rfl | (simp [isConstO] at hcon)

theorem yields_eq {neq : Bool} {t yt : TypeId} {x y : Operand} {c e : Value} {b : Bool} (ho : o.op = .binOp (if neq then .neq else .eql) t x y yt) (hx : a.eval x = c) (hy : a.eval y = e)
    (hg : (eqGuard (if neq then .neq else .eql) t x y c e).run P w = .ok () w)
    (hb1 : Go.binOp .eql t c e = (do pure (.bool (← Op.equal t c e)))) (hb2 : Go.binOp .neq t c e = (do pure (.bool (!(← Op.equal t c e)))))
    (hr : (Op.equalIn 10000 t c e).run P w = .ok b w) : Yields P a o w (.bool (neq != b)) := by
  refine yields_bin ho (by rw [hx, hy]; exact hg) ?_
  rw [hx, hy]
  have he : (Op.equal t c e).run P w = .ok b w := hr
  cases neq with
  | false => simp only [Bool.false_eq_true, if_false, hb1, Sem.run_bind, he, Result.andThen_ok]; cases b <;> rfl
  | true => simp only [if_true, hb2, Sem.run_bind, he, Result.andThen_ok]; cases b <;> rfl

set_option maxHeartbeats 1000000 in
theorem ans_eq (h : SR D M G σ a.tmps w) {neq : Bool} {t yt : TypeId} {x y : Operand} {x' y' : Opd} {k : EK} {b : Bool} (ho : o.op = .binOp (if neq then .neq else .eql) t x y yt) (hx : opdOf x = some x') (hy : opdOf y = some y') (hk : eqT P t x y = some k)
    (hv : eqV k (ev (get σ.env) x') (ev (get σ.env) y') = some b) : Ans P G σ a o w (.bool (neq != b)) := by
  have h1 := h.opd hx
  have h2 := h.opd hy
  refine ⟨_, ?_, .bool _⟩
  unfold eqT at hk
  split at hk
  · -- bools
    rename_i hu
    cases hk
    unfold eqV at hv
    split at hv <;> first | (cases hv; done) | skip
    all_goals (rename_i e0 e1 e2; first | (cases e0; done) | skip)
    rename_i p q
    cases hv
    rw [e1] at h1; rw [e2] at h2
    exact yields_eq ho (Rel.bool_inv h1) (Rel.bool_inv h2) (by unfold eqGuard; cases neq <;> rfl) rfl rfl (run_equalIn_bool w 9999 t _ _ hu)
  · -- slices
    rename_i e hu
    cases hk
    unfold eqV at hv
    split at hv <;> first | (cases hv; done) | skip
    all_goals (rename_i e0 e1 e2; first | (cases e0; done) | skip)
    · cases hv
      rw [e1] at h1; rw [e2] at h2
      exact yields_eq ho (Rel.nils_inv h1) (Rel.nils_inv h2) (by unfold eqGuard; cases neq <;> rfl) rfl rfl (eqi_sl1 9999 hu _ _ _)
    · cases hv
      rw [e1] at h1; rw [e2] at h2
      obtain ⟨q, cap, h3, _⟩ := h2.sl_val
      exact yields_eq ho (Rel.nils_inv h1) h3 (by unfold eqGuard; cases neq <;> rfl) rfl rfl (eqi_sl1 9999 hu _ _ _)
    · cases hv
      rw [e1] at h1; rw [e2] at h2
      obtain ⟨q, cap, h3, _⟩ := h1.sl_val
      exact yields_eq ho h3 (Rel.nils_inv h2) (by unfold eqGuard; cases neq <;> rfl) rfl rfl (eqi_sl2 9999 hu _ _ _)
  · -- pointers
    rename_i e hu
    cases hk
    have ptr : ∀ (p q : Option Addr) (b : Bool), a.eval x = .pointer p → a.eval y = .pointer q → (p = none ∧ b = q.isNone ∨ q = none ∧ b = p.isNone) → Yields P a o w (.bool (neq != b)) := by
      intro p q b hp hq hb
      refine yields_eq ho hp hq (by unfold eqGuard; cases neq <;> rfl) rfl rfl ?_
      rcases hb with ⟨rfl, rfl⟩ | ⟨rfl, rfl⟩
      · exact eqi_p1 9999 hu _
      · exact eqi_p2 9999 hu _
    have nilp : ∀ {c : Value}, VR G (At G σ.tips σ.lk w) w (get σ.env) .nilp c → c = .pointer none := fun hh => by cases hh; rfl
    unfold eqV at hv
    split at hv <;> first | (cases hv; done) | skip
    all_goals (rename_i e0 e1 e2; first | (cases e0; done) | skip)
    all_goals (cases hv; rw [e1] at h1; rw [e2] at h2)
    · exact ptr none none true (nilp h1) (nilp h2) (.inl ⟨rfl, rfl⟩)
    · obtain ⟨blk, h3, _⟩ := Rel.bp_inv h2; exact ptr _ _ false (nilp h1) h3 (.inl ⟨rfl, rfl⟩)
    · obtain ⟨blk, h3, _⟩ := Rel.bp_inv h1; exact ptr _ _ false h3 (nilp h2) (.inr ⟨rfl, rfl⟩)
    · obtain ⟨q, h3⟩ := h2.ep_val; exact ptr _ _ false (nilp h1) h3 (.inl ⟨rfl, rfl⟩)
    · obtain ⟨q, h3⟩ := h1.ep_val; exact ptr _ _ false h3 (nilp h2) (.inr ⟨rfl, rfl⟩)
    · exact ptr _ _ false (nilp h1) h2.1 (.inl ⟨rfl, rfl⟩)
    · exact ptr _ _ false h1.1 (nilp h2) (.inr ⟨rfl, rfl⟩)
  · -- functions
    rename_i p1 p2 p3 hu
    cases hk
    have nilf : ∀ {c : Value}, VR G (At G σ.tips σ.lk w) w (get σ.env) .nilf c → c = .nilFunc := fun hh => by cases hh; rfl
    unfold eqV at hv
    split at hv <;> first | (cases hv; done) | skip
    all_goals (rename_i e0 e1 e2; first | (cases e0; done) | skip)
    all_goals (cases hv; rw [e1] at h1; rw [e2] at h2)
    · exact yields_eq ho (nilf h1) (nilf h2) (by unfold eqGuard; cases neq <;> rfl) rfl rfl (eqi_f0 9999 hu)
    · obtain ⟨xs, ys, h3, _⟩ := Rel.fn_inv h2
      exact yields_eq ho (nilf h1) h3 (by unfold eqGuard; cases neq <;> rfl) rfl rfl (eqi_f1 9999 hu _ _ _)
    · obtain ⟨xs, ys, h3, _⟩ := Rel.fn_inv h1
      exact yields_eq ho h3 (nilf h2) (by unfold eqGuard; cases neq <;> rfl) rfl rfl (eqi_f2 9999 hu _ _ _)
  · -- interface values
    rename_i ms hu
    split at hk
    · rename_i hcon
      cases hk
      have nili : ∀ {c : Value}, VR G (At G σ.tips σ.lk w) w (get σ.env) .nili c → c = .nilIface := fun hh => by cases hh; rfl
      have ifa : ∀ {c : Value} {t v}, VR G (At G σ.tips σ.lk w) w (get σ.env) (.iface t v) c → ∃ u, c = .iface t u := fun hh => by cases hh; exact ⟨_, rfl⟩
      unfold eqV at hv
      split at hv <;> first | (cases hv; done) | skip
      all_goals (rename_i e0 e1 e2; first | (cases e0; done) | skip)
      all_goals (cases hv; rw [e1] at h1; rw [e2] at h2)
      · exact yields_eq ho (nili h1) (nili h2) (eqGuard_nili hcon) rfl rfl (eqi_i0 9999 hu)
      · obtain ⟨u, h3⟩ := ifa h2
        exact yields_eq ho (nili h1) h3 (by unfold eqGuard; cases neq <;> rfl) rfl rfl (eqi_i1 9999 hu _ _)
      · obtain ⟨u, h3⟩ := ifa h1
        exact yields_eq ho h3 (nili h2) (by unfold eqGuard; cases neq <;> rfl) rfl rfl (eqi_i2 9999 hu _ _)
    · cases hk
  all_goals (first | (cases hk; done) | skip)
  all_goals
    split at hk
    · rename_i hgt
      cases hfl : flatK P 20 t with
      | none => rw [hfl] at hk; cases hk
      | some ks =>
        rw [hfl] at hk; cases hk
        unfold eqV at hv
        split at hv <;> first | (cases hv; done) | skip
        all_goals (rename_i e0 e1 e2; first | (cases e0; done) | skip)
        cases e0
        rw [e1] at h1; rw [e2] at h2
        obtain ⟨xs, h3, h4⟩ := Rel.agg_inv h1
        obtain ⟨ys, h5, h6⟩ := Rel.agg_inv h2
        obtain ⟨g, hg, _, _, hrun⟩ := flat_sound (P := P) (w := w) (A := At G σ.tips σ.lk w) (B := G.bxB) 20 t ks hfl
        have hgt' : g = true := by
          unfold aggT at hg
          simp_all
        subst hgt'
        have h7 := hrun 10000 (by omega) _ _ _ _ b h4 h6 hv
        simp only [valOf, if_true] at h7
        have hx' : xs.toList.toArray = xs := by simp
        have hy' : ys.toList.toArray = ys := by simp
        rw [hx', hy'] at h7
        exact yields_eq ho h3 h5 (run_eqGuard_agg _ _ _ _ _ _ _ hgt) rfl rfl h7
    · cases hk

theorem opds_rel (h : SR D M G σ a.tmps w) : ∀ {xs : List Operand} {ys : List Opd}, opdsOf xs = some ys → (∀ y ∈ ys, (ev (get σ.env) y).far) → RelL w (At G σ.tips σ.lk w) G.bxB (ys.map (ev (get σ.env))) (xs.map a.eval)
  | [], ys, hx, _ => by cases hx; exact .nil
  | x :: r, ys, hx, hk => by
    simp only [opdsOf] at hx
    split at hx
    · rename_i y s e1 e2
      cases hx
      exact .cons _ _ _ _ ((h.opd e1).rel (hk y (by simp))) (opds_rel h e2 fun y' hy' => hk y' (by simp [hy']))
    · cases hx

theorem ans_mkfn (h : SR D M G σ a.tmps w) {fn : Fn} {p q : Array Operand} {p' q' : List Opd} {v : V} (ho : o.op = .makeFunc fn p q) (hp : opdsOf p.toList = some p') (hq : opdsOf q.toList = some q') (hv : pureOp (get σ.env) t0 clk bx d (.mkfn fn p' q') = some v) : Ans P G σ a o w v := by
  simp only [pureOp] at hv
  split at hv
  · rename_i hc
    cases hv
    have hall := hc.1
    rw [List.all_eq_true] at hall
    have f1 : ∀ y ∈ p', (ev (get σ.env) y).far := fun y hy => V.far_of_ok1 (hall _ (by simp; exact .inl ⟨y, hy, rfl⟩))
    have f2 : ∀ y ∈ q', (ev (get σ.env) y).far := fun y hy => V.far_of_ok1 (hall _ (by simp; exact .inr ⟨y, hy, rfl⟩))
    refine ⟨.func fn (p.map a.eval) (q.map a.eval), ?_, .fn _ _ _ _ _ ?_ ?_ hc.2.1 hc.2.2⟩
    · unfold Yields execOp
      simp [ho, Instr.makeFunc]
    · rw [Array.toList_map]; exact opds_rel h hp f1
    · rw [Array.toList_map]; exact opds_rel h hq f2
  · cases hv

theorem ans_mkiface (h : SR D M G σ a.tmps w) {t : TypeId} {x : Operand} {y : Opd} {td : TypeDesc} {v : V} (ho : o.op = .makeInterface t x) (hy : opdOf x = some y) (hu : P.underlying t = some td) (hn : ∀ ms, td ≠ .interface ms) (hv : pureOp (get σ.env) t0 clk bx d (.mkiface t y) = some v) : Ans P G σ a o w v := by
  simp only [pureOp] at hv
  split at hv
  · rename_i hc
    cases hv
    refine ⟨.iface t (a.eval x), ?_, .iface _ _ _ (h.opd_ok hy hc.1) hc.2⟩
    unfold Yields execOp
    simp only [ho, Instr.makeInterface, Sem.run_bind, run_underlying hu, Result.andThen_ok]
    cases td <;> first | rfl | exact absurd rfl (hn _)
  · cases hv

theorem minmax_rel {mx : Bool} : ∀ {vs : List V} {cs : List Value} {x : V} {c : Value} {v : V} {A : Pl} {B : List Nat}, minmaxV mx x vs = some v → Rel w A B x c → RelL w A B vs cs →
    ∃ e, (cs.foldlM (if mx then Builtin.max2 else Builtin.min2) c).run P w = .ok e w ∧ Rel w A B v e
  | [], cs, x, c, v, A, B, hm, hx, hl => by
    cases hl
    simp only [minmaxV] at hm
    cases hm
    exact ⟨c, by simp, hx⟩
  | u :: r, cs, x, c, v, A, B, hm, hx, hl => by
    cases hl with
    | cons _ c' _ cs h1 h2 =>
      cases x with
      | int k n =>
        cases u with
        | int k' n' =>
          simp only [minmaxV] at hm
          split at hm
          · rename_i hk
            subst hk
            rw [Rel.int_inv hx, Rel.int_inv h1]
            obtain ⟨e, h3, h4⟩ := minmax_rel hm (.int k _) h2
            refine ⟨e, ?_, h4⟩
            rw [List.foldlM_cons, Sem.run_bind]
            cases mx
            · simp only [Bool.false_eq_true, if_false] at h3 ⊢
              simp only [Builtin.min2, Sem.run_pure, Result.andThen_ok]
              exact h3
            · simp only [if_true] at h3 ⊢
              simp only [Builtin.max2, Sem.run_pure, Result.andThen_ok]
              exact h3
          · cases hm
        | _ => simp [minmaxV] at hm
      | _ => simp [minmaxV] at hm

theorem minmax_far {mx : Bool} : ∀ {vs : List V} {x v : V}, minmaxV mx x vs = some v → (∀ u, u ∈ vs → u.far) ∧ (vs = [] → v = x) ∧ (vs ≠ [] → x.far ∧ v.far)
  | [], x, v, hm => by simp only [minmaxV] at hm; cases hm; exact ⟨by simp, by simp, by simp⟩
  | u :: r, x, v, hm => by
    cases x with
    | int k n =>
      cases u with
      | int k' n' =>
        simp only [minmaxV] at hm
        split at hm
        · obtain ⟨h1, h2, h3⟩ := minmax_far hm
          refine ⟨fun q hq => ?_, by simp, fun _ => ⟨trivial, ?_⟩⟩
          · rcases List.mem_cons.1 hq with rfl | hq
            · trivial
            · exact h1 q hq
          · by_cases hr : r = []
            · rw [h2 hr]; trivial
            · exact (h3 hr).2
        · cases hm
      | _ => simp [minmaxV] at hm
    | _ => simp [minmaxV] at hm

theorem ans_minmax (h : SR D M G σ a.tmps w) {mx : Bool} {args : Array Operand} {ts : Array TypeId} {x' : Opd} {r' : List Opd} {v : V} (ho : o.op = .call { callee := .builtin (if mx then .max else .min), args := args, argTypes := ts }) (hy : opdsOf args.toList = some (x' :: r'))
    (hv : pureOp (get σ.env) t0 clk bx d (.minmax mx x' r') = some v) : Ans P G σ a o w v := by
  have hv : minmaxV mx (ev (get σ.env) x') (r'.map (ev (get σ.env))) = some v := by
    simp only [pureOp] at hv
    split at hv
    · cases hv
    · exact hv
  cases hal : args.toList with
  | nil => rw [hal] at hy; cases hy
  | cons x r =>
    rw [hal] at hy
    simp only [opdsOf] at hy
    split at hy
    · rename_i y s e1 e2
      cases hy
      obtain ⟨f1, f2, f3⟩ := minmax_far hv
      have hl := opds_rel h e2 (fun y hy => f1 _ (List.mem_map_of_mem hy))
      have hd1 := h.opd e1
      have run_it : ∀ c, (List.foldlM (if mx then Builtin.max2 else Builtin.min2) (a.eval x) (r.map a.eval)).run P w = .ok c w → Yields P a o w c := by
        intro c hc
        unfold Yields execOp
        cases mx
        · simp only [Bool.false_eq_true, if_false] at ho hc
          simp [ho, resolve, invoke, builtin, Builtin.min_, hal, hc]
        · simp only [if_true] at ho hc
          simp [ho, resolve, invoke, builtin, Builtin.max_, hal, hc]
      by_cases hr : r'.map (ev (get σ.env)) = []
      · rw [f2 hr]
        rw [hr] at hl
        refine ⟨a.eval x, run_it _ ?_, hd1⟩
        cases hm : r.map a.eval with
        | nil => simp
        | cons q qs => rw [hm] at hl; cases hl
      · obtain ⟨g1, g2⟩ := f3 hr
        obtain ⟨c, h3, h4⟩ := minmax_rel (P := P) hv (hd1.rel g1) hl
        exact ⟨c, run_it c h3, VR.of_rel g2 h4⟩
    · cases hy
end
end Go.VM
