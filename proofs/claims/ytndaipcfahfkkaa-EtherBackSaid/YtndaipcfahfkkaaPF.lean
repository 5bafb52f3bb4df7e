/- The law on frames, plainly. -/
import Derived.Test.YtndaipcfahfkkaaPT
namespace Go.Proofs.Ytndaipcfahfkkaa
open Go.VM
theorem valid_rng {f : Fr} (h : valid f = true) : 0 ≤ f.2.2.1 ∧ f.2.2.1 ≤ 4094 ∧ 1536 ≤ f.2.2.2.1 ∧ f.2.2.2.1 ≤ 65535 ∧ f.2.2.2.1 ≠ 33024 ∧ f.2.2.2.2.length ≤ 1500 := by
  unfold valid at h
  exact of_decide_eq_true h
theorem enc_any (N : Nat) (f : Fr) : n27 (N + 2) f = some (if valid f then (encB f, 0) else ([], 1)) ∧ n28 (N + 2) f = some (if valid f then (encB f, 0) else ([], 1)) := by
  cases hv : valid f with
  | true =>
    have h := valid_rng hv
    have := enc_eq N (f := f) h.1 (by omega) (by omega) (by omega) (by omega)
    rw [hv] at this
    exact this
  | false =>
    rw [e27, e28, (valid_eq N f).1, (valid_eq N f).2, hv]
    exact ⟨rfl, rfl⟩
theorem nTake_int {l : List Int} {h : Int} (h0 : 0 ≤ h) (h1 : h ≤ l.length) : nTake l h = some (l.take h.toNat) := if_pos ⟨h0, h1⟩
theorem nDrop_int {l : List Int} {h : Int} (h0 : 0 ≤ h) (h1 : h ≤ l.length) : nDrop l h = some (l.drop h.toNat) := if_pos ⟨h0, h1⟩
theorem spoilt_ok (N : Nat) {l : List Int} (hl : Bs l) (hlen : l.length ≤ 100000) (a b : Int) : ∃ r, n18 (N + 2) (l, a, b) = some r ∧ Bs r ∧ r.length ≤ l.length + 1 := by
  rw [e18, nApp_ok (by simp only [List.length_nil]; omega) (by simp only [List.length_nil]; omega)]
  simp only [↓letS, List.nil_append, bindS, bif_if, beq_iff_eq, nLen]
  have one : Bs [IntKind.u8.wrap b] := fun x hx => by rw [List.mem_singleton.1 hx]; exact wrap8_rng _
  by_cases h0 : (l.length : Int) = 0
  · rw [if_pos h0]
    exact ⟨_, rfl, one, by simp⟩
  · rw [if_neg h0]
    obtain ⟨k, hk, k0, k1⟩ := mod_ok N (a := a) (b := l.length) (by omega) (by omega)
    obtain ⟨q, hq, q0, q1⟩ := mod_ok N (a := IntKind.i64.wrap (b.tdiv 256)) (b := 4) (by omega) (by omega)
    simp only [↓letS, hk, hq, bindS]
    split
    · obtain ⟨x, _, hx⟩ := idx_mem k0 k1
      simp only [↓letS, hx, bindS]
      refine ⟨_, rfl, fun y hy => ?_, by simp⟩
      rcases List.mem_or_eq_of_mem_set hy with hy | hy
      · exact hl y hy
      · rw [hy]; exact wrap8_rng _
    · have e1 : IntKind.i64.wrap (k + 1) = k + 1 := wrap_i64 (by omega) (by omega)
      simp only [↓letS, e1, nTake_int k0 (by omega : k ≤ l.length), nDrop_int (by omega : 0 ≤ k + 1) (by omega : k + 1 ≤ l.length), nDrop_int k0 (by omega : k ≤ l.length), bindS]
      have lt : (l.take k.toNat).length ≤ l.length := by rw [List.length_take]; omega
      have ld : (l.drop k.toNat).length + (l.take k.toNat).length = l.length := by rw [List.length_drop, List.length_take]; omega
      have ld1 : (l.drop (k + 1).toNat).length + (l.take k.toNat).length ≤ l.length := by rw [List.length_drop, List.length_take]; omega
      have bt : Bs (l.take k.toNat) := fun x hx => hl x (List.mem_of_mem_take hx)
      have bd : ∀ n, Bs (l.drop n) := fun n x hx => hl x (List.mem_of_mem_drop hx)
      split
      · rw [nApp_ok (by omega) (by omega)]
        refine ⟨_, rfl, fun x hx => ?_, by rw [List.length_append]; omega⟩
        rcases List.mem_append.1 hx with hx | hx
        · exact bt x hx
        · exact bd _ x hx
      · split
        · rw [nApp_ok (by simp only [List.length_nil]; omega) (by simp only [List.length_nil]; omega)]
          simp only [↓letS, List.nil_append, bindS]
          rw [nApp_ok (by simp only [List.length_singleton]; omega) (by simp only [List.length_singleton]; omega)]
          simp only [↓letS, bindS]
          rw [nApp_ok (by simp only [List.length_append, List.length_singleton]; omega) (by simp only [List.length_append, List.length_singleton]; omega)]
          refine ⟨_, rfl, fun x hx => ?_, by simp only [List.length_append, List.length_singleton]; omega⟩
          rcases List.mem_append.1 hx with hx | hx
          · rcases List.mem_append.1 hx with hx | hx
            · exact bt x hx
            · exact one x hx
          · exact bd _ x hx
        · exact ⟨_, rfl, bt, by omega⟩
theorem tag_is {x y : Int} (hx : B8 x) (hy : B8 y) : (if (x == 129) = true then ((if x = 129 then y else 0) == 0) else false) = decide (x * 256 + y = 33024) := by
  obtain ⟨x0, x1⟩ := hx
  obtain ⟨y0, y1⟩ := hy
  rw [Bool.eq_iff_iff, decide_eq_true_eq]
  by_cases h : x = 129
  · subst h
    simp only [beq_self_eq_true, if_true, beq_iff_eq]
    omega
  · have : (x == 129) = false := by simp [h]
    simp only [this, Bool.false_eq_true, if_false, false_iff]
    omega
theorem fin_is {x y : Int} (hx : B8 x) (hy : B8 y) : bits .or IntKind.i64 (nShl IntKind.i64 (IntKind.i64.wrap x) 8) (IntKind.i64.wrap y) = x * 256 + y := or_bytes0 hx.1 hx.2 hy.1 hy.2
theorem ite_decide {p : Prop} [Decidable p] {α : Type} (x y : α) : (if decide p = true then x else y) = if p then x else y := by by_cases h : p <;> simp [h]
theorem dec2_eq (N : Nat) {a b : Mac} {x y : Int} {r : List Int} (hx : B8 x) (hy : B8 y) (hr : Bs r) (hlen : r.length ≤ 100000) :
    n32 (N + 1) (macL a ++ (macL b ++ x :: y :: r)) = some (decR a b (x :: y :: r)) := by
  have hL : (macL a ++ (macL b ++ x :: y :: r)).length = 14 + r.length := by simp [macL]; omega
  rw [e32]
  simp only [↓letS, bif_if, decide_eq_true_eq]
  simp only [nLen, hL]
  rw [if_neg (by omega)]
  rw [show nTake (macL a ++ (macL b ++ x :: y :: r)) 6 = some (macL a) by
      rw [show (6 : Int) = ((6 : Nat) : Int) from rfl, nTake_ok (by omega)]; rfl]
  simp only [↓letS, bindS]
  rw [arr6]
  simp only [↓letS, bindS]
  rw [show nCut (macL a ++ (macL b ++ x :: y :: r)) 6 12 = some (macL b) by
      rw [show (6 : Int) = ((6 : Nat) : Int) from rfl, show (12 : Int) = ((12 : Nat) : Int) from rfl, nCut_ok (by omega) (by omega)]; rfl]
  simp only [↓letS, bindS]
  rw [arr6]
  simp only [↓letS, bindS]
  rw [show nDrop (macL a ++ (macL b ++ x :: y :: r)) 12 = some (x :: y :: r) by
      rw [show (12 : Int) = ((12 : Nat) : Int) from rfl, nDrop_ok (by omega)]; rfl]
  simp only [↓letS, bindS, joinK_eq]
  have i0 : ∀ (x y : Int) (r : List Int), nIdx (x :: y :: r) 0 = some x := fun _ _ _ => rfl
  have i1 : ∀ (x y : Int) (r : List Int), nIdx (x :: y :: r) 1 = some y := fun _ _ _ => rfl
  have tagd : (if (x == 129) = true then (nIdx (x :: y :: r) 1) else some 0) = some (if x = 129 then y else 0) := by
    rw [i1]; by_cases h : x = 129 <;> simp [h]
  simp only [↓letS, i0, bindS, tagd]
  rw [tag_is hx hy, ite_decide]
  have fin : ∀ (vl : Int) (x y : Int) (r : List Int), B8 x → B8 y → r.length ≤ 100000 → ((nIdx (x :: y :: r) 0).bind fun v11 => (nIdx (x :: y :: r) 1).bind fun v13 =>
      (nDrop (x :: y :: r) 2).bind fun v15 => (nApp 1 ([] : List Int) v15).bind fun v16 =>
      if (if bits .or IntKind.i64 (nShl IntKind.i64 (IntKind.i64.wrap v11) 8) (IntKind.i64.wrap v13) < 1536 then true else bits .or IntKind.i64 (nShl IntKind.i64 (IntKind.i64.wrap v11) 8) (IntKind.i64.wrap v13) == 33024) = true then some (zF, (5 : Int)) else
        if (v16.length : Int) > 1500 then some (zF, (3 : Int)) else some ((a, b, vl, bits .or IntKind.i64 (nShl IntKind.i64 (IntKind.i64.wrap v11) 8) (IntKind.i64.wrap v13), v16), (0 : Int))) = some (finB a b vl (x :: y :: r)) := by
    intro vl x y r hx hy hr
    rw [i0, i1]
    simp only [↓letS, bindS]
    simp only [fin_is hx hy]
    have e1 : ((if x * 256 + y < 1536 then true else x * 256 + y == 33024) = true) = (x * 256 + y < 1536 ∨ x * 256 + y = 33024) := by
      rw [eq_iff_iff]
      by_cases h : x * 256 + y < 1536
      · simp [h]
      · simp [h]
    have e3 : nDrop (x :: y :: r) 2 = some r := by
      rw [show (2 : Int) = ((2 : Nat) : Int) from rfl, nDrop_ok (by simp)]; rfl
    simp only [↓letS, bindS, e1, e3]
    rw [nApp_ok (by simp only [List.length_nil]; omega) (by simp only [List.length_nil]; omega)]
    simp only [↓letS, finB, bindS, List.nil_append]
    by_cases h1 : x * 256 + y < 1536 ∨ x * 256 + y = 33024
    · rw [if_pos h1, if_pos h1]
    · rw [if_neg h1, if_neg h1]
      by_cases h2 : r.length > 1500
      · rw [if_pos (by omega), if_pos h2]
      · rw [if_neg (by omega), if_neg h2]
  unfold decR
  by_cases ht : x * 256 + y = 33024
  · rw [if_pos ht]
    simp only [if_pos ht]
    match r, hr, hlen with
    | [], _, _ => rw [if_pos (by simp)]; rfl
    | [u], _, _ => rw [if_pos (by simp)]; rfl
    | [u, v], _, _ => rw [if_pos (by simp)]; rfl
    | [u, v, w], _, _ => rw [if_pos (by simp)]; rfl
    | u :: v :: w :: z :: s, hr, hlen =>
      simp only [List.length_cons] at hlen
      rw [if_neg (by simp only [List.length_cons]; omega)]
      have hu := hr u (by simp)
      have hv := hr v (by simp)
      have hw := hr w (by simp)
      have hz := hr z (by simp)
      have d4 : nDrop (x :: y :: u :: v :: w :: z :: s) 4 = some (w :: z :: s) := by
        rw [show (4 : Int) = ((4 : Nat) : Int) from rfl, nDrop_ok (by simp)]; rfl
      have i2 : nIdx (x :: y :: u :: v :: w :: z :: s) 2 = some u := rfl
      have i3 : nIdx (x :: y :: u :: v :: w :: z :: s) 3 = some v := rfl
      have hu0 := hu.1
      have hu1 := hu.2
      have hv0 := hv.1
      have hv1 := hv.2
      have a15 : bits .and .u8 u 15 = u % 16 := and15 hu0 (by simp [IntKind.bits]; omega)
      have ob : bits .or IntKind.i64 (nShl IntKind.i64 (IntKind.i64.wrap (u % 16)) 8) (IntKind.i64.wrap v) = (u * 256 + v) % 4096 := by
        rw [or_bytes0 (by omega) (by omega) hv0 hv1]; omega
      simp only [↓letS, d4, i2, i3, bindS, a15, ob]
      change _ = some (if (w :: z :: s).length < 2 then (zF, 4) else if (u * 256 + v) % 4096 = 0 ∨ (u * 256 + v) % 4096 > 4094 then (zF, 5) else finB a b ((u * 256 + v) % 4096) (w :: z :: s))
      rw [if_neg (by simp : ¬ (w :: z :: s).length < 2)]
      generalize (u * 256 + v) % 4096 = vl
      by_cases h0 : vl = 0 ∨ vl > 4094
      · rw [if_pos h0]
        rw [if_pos (by rcases h0 with h0 | h0 <;> simp [h0])]
        rfl
      · rw [if_neg h0]
        rw [if_neg (by simp only [not_or] at h0; simp [h0.1]; omega)]
        exact fin vl w z s hw hz (by omega)
  · rw [if_neg ht]
    simp only [if_neg ht]
    have f3 := fin 0 x y r hx hy hlen
    rw [i0] at f3
    simp only [↓letS, bindS] at f3
    exact f3
/-- Both read the same. -/
theorem dec_both (N : Nat) {l : List Int} (hl : Bs l) (hlen : l.length ≤ 100000) : ∃ r, n31 (N + 2) l = some r ∧ n32 (N + 2) l = some r := by
  by_cases h14 : l.length < 14
  · refine ⟨(zF, 4), ?_, ?_⟩
    · rw [e31]
      simp only [↓letS, bif_if, decide_eq_true_eq]
      rw [if_pos (by simp only [nLen]; omega)]; rfl
    · rw [e32]
      simp only [↓letS, bif_if, decide_eq_true_eq]
      rw [if_pos (by simp only [nLen]; omega)]; rfl
  · obtain ⟨a, r1, rfl⟩ := six (l := l) (by omega)
    simp only [List.length_append, show (macL a).length = 6 from rfl] at h14 hlen
    obtain ⟨b, r2, rfl⟩ := six (l := r1) (by omega)
    simp only [List.length_append, show (macL b).length = 6 from rfl] at h14 hlen
    obtain ⟨x, y, r, rfl⟩ := two (l := r2) (by omega)
    simp only [List.length_cons] at hlen
    have hx : B8 x := hl x (by simp)
    have hy : B8 y := hl y (by simp)
    have hr : Bs r := fun z hz => hl z (by simp [hz])
    exact ⟨_, dec_eq N hx hy hr (by omega), dec2_eq (N + 1) hx hy hr (by omega)⟩
theorem nMake12 : nMake 1 (0 : Int) 12 12 = some (List.replicate 12 0) := rfl
theorem frames (a0 : Fr) (a1 a2 : List Int) (a3 a4 : Int) (h1 : Bs a1) (h2 : a2.length ≤ 9223372036854775807) : n5 61 (a0, a1, a2, a3, a4) = some true := by
  rw [e5, e24, e24]
  simp only [↓letS, bindS]
  have hn : ∀ (l : List Int), decide (nLen l ≤ 600) = decide (l.length ≤ 600) := fun l => by
    rw [Bool.eq_iff_iff, decide_eq_true_eq, decide_eq_true_eq]; simp only [nLen]; omega
  simp only [hn]
  have aw : ∀ {K}, 40 ≤ K → ((n8 K ()).bind fun v => some v) = some true := fun h => by rw [awake_eq h]; rfl
  by_cases hb : a1.length ≤ 600
  case neg => simp only [↓letS, hb, decide_false, Bool.not_false, Bool.not_true, condT, condF, bindS]; exact aw (by omega)
  by_cases hd : a0.2.2.2.2.length ≤ 600
  case neg => simp only [↓letS, hb, hd, decide_false, decide_true, Bool.not_false, Bool.not_true, condT, condF, bindS]; exact aw (by omega)
  simp only [↓letS, hb, hd, decide_true, Bool.not_false, Bool.not_true, condT, condF, bindS]
  rw [e26]
  obtain ⟨f, d', hfr, hf, _⟩ := frame_ok 20 (d := (a2, 0)) ⟨Int.le_refl _, by omega, h2⟩
  simp only [↓letS, bindS]
  rw [hfr]
  simp only [↓letS, bindS, joinK_eq]
  refine loopN_seq (s := fun i : Nat => (a1, a3, a4, f, [a0, f], (2 : Int), (i : Int))) (n := 2) (fun i hi => ?_) ?_ (by omega)
  · have hx : nIdx [a0, f] (i : Int) = some ([a0, f][i]'hi) := nIdx_lt hi
    generalize [a0, f][i]'hi = x at hx
    simp only [↓letS, hx, bindS]
    rw [(enc_any 58 x).1, (enc_any 58 x).2, (valid_eq 59 x).1, (valid_eq 59 x).2]
    have hlt : ((i : Int) < 2) := by omega
    simp only [↓letS, bindS, hlt, decide_true, condT, beq_self_eq_true, Bool.not_true, bne_self_eq_false, condF]
    rw [wrap_i64 (by omega) (by omega)]
    rfl
  · have hlt : ¬ (((2 : Nat) : Int) < 2) := by omega
    simp only [↓letS, hlt, decide_false, condF]
    rw [(enc_any 58 f).2]
    have hc : ∃ c e, (if valid f then (encB f, (0 : Int)) else ([], 1)) = (c, e) ∧ Bs c ∧ c.length ≤ 2000 := by
      cases hv : valid f with
      | false => exact ⟨[], 1, rfl, (fun x hx => by cases hx), by simp⟩
      | true =>
        refine ⟨encB f, 0, rfl, bs_enc hf, ?_⟩
        have := (valid_rng hv).2.2.2.2.2
        unfold encB
        simp only [List.length_append, macL, List.length_cons, List.length_nil]
        split <;> simp only [List.length_cons, List.length_nil] <;> omega
    obtain ⟨c, e, hce, hcb, hcl⟩ := hc
    rw [hce]
    simp only [↓letS, bindS, nMake12]
    rw [nApp_ok (by simp) (by simp)]
    simp only [↓letS, bindS]
    rw [nApp_ok (by simp only [List.length_append, List.length_replicate, List.length_cons, List.length_nil]; omega) (by simp only [List.length_append, List.length_replicate, List.length_cons, List.length_nil]; omega)]
    obtain ⟨sp, hsp, hspb, hspl⟩ := spoilt_ok 58 hcb (by omega) a3 a4
    simp only [↓letS, bindS, hsp]
    have hw : IntKind.i64.wrap (nLen c + 1) = c.length + 1 := by simp only [nLen]; exact wrap_i64 (by omega) (by omega)
    obtain ⟨k, hk, k0, k1⟩ := mod_ok 59 (a := a3) (b := c.length + 1) (by omega) (by omega)
    rw [hw, hk]
    simp only [↓letS, bindS]
    rw [nTake_int k0 (by omega)]
    simp only [↓letS, bindS]
    rw [nApp_ok (by simp) (by simp)]
    simp only [↓letS, bindS]
    have hrep : Bs (List.replicate 12 0) := fun x hx => by rw [(List.mem_replicate.1 hx).2]; exact ⟨by omega, by omega⟩
    have hall : ∀ x ∈ [a1, c, sp, List.replicate 12 0 ++ [129, 0, IntKind.u8.wrap a4, IntKind.u8.wrap a3, IntKind.u8.wrap (nShr IntKind.i64 a4 8), 0] ++ a1, c.take k.toNat, List.replicate 12 0 ++ [8, 0]], Bs x ∧ x.length ≤ 100000 := by
      intro x hx
      simp only [List.mem_cons, List.not_mem_nil, or_false] at hx
      rcases hx with rfl | rfl | rfl | rfl | rfl | rfl
      · exact ⟨h1, by omega⟩
      · exact ⟨hcb, by omega⟩
      · exact ⟨hspb, by omega⟩
      · refine ⟨fun y hy => ?_, by simp only [List.length_append, List.length_replicate, List.length_cons, List.length_nil]; omega⟩
        rcases List.mem_append.1 hy with hy | hy
        · rcases List.mem_append.1 hy with hy | hy
          · exact hrep y hy
          · simp only [List.mem_cons, List.not_mem_nil, or_false] at hy
            rcases hy with rfl | rfl | rfl | rfl | rfl | rfl <;> first | exact wrap8_rng _ | exact ⟨by omega, by omega⟩
        · exact h1 y hy
      · exact ⟨fun y hy => hcb y (List.mem_of_mem_take hy), by rw [List.length_take]; omega⟩
      · refine ⟨fun y hy => ?_, by simp⟩
        rcases List.mem_append.1 hy with hy | hy
        · exact hrep y hy
        · simp only [List.mem_cons, List.not_mem_nil, or_false] at hy
          rcases hy with rfl | rfl <;> exact ⟨by omega, by omega⟩
    have fin : ∀ (L : List (List Int)), L.length = 6 → (∀ x ∈ L, Bs x ∧ x.length ≤ 100000) → loopN 60 (fun p26 : List (List Int) × Int × Int =>
        bif decide (p26.2.2 < p26.2.1) then ((nIdx p26.1 p26.2.2).bind fun v27 => (n31 60 v27).bind fun v28 => (n32 60 v27).bind fun v29 => (n33 60 (v28.1, v29.1)).bind fun v30 =>
          bif (bif (!v30) then true else (v28.2 != v29.2)) then (leave (some false)) else (again (p26.1, p26.2.1, IntKind.i64.wrap (p26.2.2 + 1)))) else (leave ((n8 60 ()).bind fun v25 => some v25))) (L, nLen L, 0) = some true := by
      intro L hL hall
      have hlen : nLen L = 6 := by simp only [nLen, hL]; rfl
      rw [hlen]
      refine loopN_seq (s := fun i : Nat => (L, (6 : Int), (i : Int))) (n := 6) (fun i hi => ?_) ?_ (by omega)
      · have hlt : ((i : Int) < 6) := by omega
        have hx : nIdx L (i : Int) = some (L[i]'(by omega)) := nIdx_lt (by omega)
        obtain ⟨q1, q2⟩ := hall _ (List.getElem_mem (by omega : i < L.length))
        obtain ⟨r, r1, r2⟩ := dec_both 58 q1 q2
        simp only [↓letS, hx, hlt, decide_true, condT, bindS]
        rw [r1, r2]
        simp only [↓letS, bindS]
        rw [same_refl 59]
        simp only [↓letS, bindS, Bool.not_true, condF, bne_self_eq_false]
        rw [wrap_i64 (by omega) (by omega)]
        rfl
      · have hlt : ¬ (((6 : Nat) : Int) < 6) := by omega
        simp only [↓letS, hlt, decide_false, condF]
        rw [aw (by omega)]; rfl
    exact congrArg (fun o => leave o) (fin _ rfl hall)
end Go.Proofs.Ytndaipcfahfkkaa
