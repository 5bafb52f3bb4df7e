/- Chapter 36, plainly: the document's answer reads as the program does; GlassTexts. -/
import Derived.Test.YtgajbpiclnekkaaDoorGD
namespace Go.Proofs.YtgajbpiclnekkaaDoor
open Go.VM Go.Txt
set_option maxRecDepth 10000
def fin4 (t : List UInt8) : List Int → RR
  | [a, b, c, d] => if pr (a, b, c, d) = t then ((a, b, c, d), 0) else bad
  | _ => bad
noncomputable def K2 (N : Nat) : List UInt8 × ((Int × Int × Int × Int) × List (Int)) → Option RR := fun p1 =>
 bif ((nLen p1.2.2) != (4 : Int)) then (some bad) else ((nIdx p1.2.2 (0 : Int)).bind fun v3 =>
 (nIdx p1.2.2 (1 : Int)).bind fun v4 =>
 (nIdx p1.2.2 (2 : Int)).bind fun v5 =>
 (nIdx p1.2.2 (3 : Int)).bind fun v6 =>
 (n6 N (v3, v4, v5, v6)).bind fun v7 =>
 bif (!(v7 == p1.1)) then (some bad) else (some ((v3, v4, v5, v6), (0 : Int))))
theorem K2_ok (N : Nat) {t : List UInt8} {acc : List Int} (h : ∀ v ∈ acc, ok40 v) : K2 (N + 2) (t, z4, acc) = some (fin4 t acc) := by
  unfold K2
  by_cases hl : acc.length = 4
  · have h4 : ∃ a b c d, acc = [a, b, c, d] := by
      cases acc with
      | nil => cases hl
      | cons a acc => cases acc with
        | nil => cases hl
        | cons b acc => cases acc with
          | nil => cases hl
          | cons c acc => cases acc with
            | nil => cases hl
            | cons d acc => cases acc with
              | nil => exact ⟨a, b, c, d, rfl⟩
              | cons e acc => simp at hl
    obtain ⟨a, b, c, d, rfl⟩ := h4
    have hr : r4 (a, b, c, d) := ok4.r ⟨h a (by simp), h b (by simp), h c (by simp), h d (by simp)⟩
    refine bifF rfl (bindB rfl (bindB rfl (bindB rfl (bindB rfl (bindB (print_r N hr) ?_)))))
    show _ = some (if pr (a, b, c, d) = t then ((a, b, c, d), 0) else bad)
    by_cases e : pr (a, b, c, d) = t
    · rw [if_pos e]; exact bifF (by rw [e]; simp) rfl
    · rw [if_neg e]; exact bifT (by simp [e]) rfl
  · have hf : fin4 t acc = bad := by
      unfold fin4
      split
      · exact absurd rfl hl
      · rfl
    rw [hf]
    refine bifT ?_ rfl
    have : ¬ nLen acc = 4 := by unfold nLen; omega
    simp [this]
theorem parse_r (N : Nat) (hN : 100 < N) {t : List UInt8} : n9 (N + 3) t = some (match gp t with | some w => (w, 0) | none => bad) := by
  rw [e9]
  by_cases h60 : nLen t > 60
  · have hg : gp t = none := by
      cases h : gp t with
      | none => rfl
      | some w =>
        obtain ⟨e, hw⟩ := gp_iff.1 h
        have := pr_len hw
        rw [← e] at this
        unfold nLen at h60
        omega
    rw [hg]
    exact letB (v := true) (decide_eq_true h60) (bifT rfl rfl)
  · have ht : t.length ≤ 60 := by unfold nLen at h60; omega
    have hps : (parts 32 t).length ≤ 61 := by
      rw [parts_length]
      have := List.count_le_length (a := (32 : UInt8)) (l := t)
      omega
    have hjn := join_parts 32 t
    have hne := parts_ne 32 t
    have hmem := parts_mem 32 t
    have hgr := gr_gp t
    unfold gr at hgr
    rw [← hgr]
    refine letB (v := false) (decide_eq_false h60) (bifF rfl (jB ?_))
    generalize parts 32 t = ps at *
    refine loopF_go (body := OB (N + 2) (K2 (N + 2))) (RW ps) (fun i acc => acc.length ≤ i ∧ ∀ v ∈ acc, ok40 v) (fun i acc => ((t, z4, acc, ((start ps i : Nat) : Int)) : S4)) ps.length bad (fin4 t) [] (by cases ps <;> rfl) ⟨Nat.le_refl _, fun v hv => by cases hv⟩ (fun i hi acc hP => ?_) (fun acc hP => ?_) (by omega) ?_
    · obtain ⟨tail, h1, h2, h3, h4⟩ := start_at ps i hi
      rw [hjn] at h1 h3
      have hno : (32 : UInt8) ∉ ps.getD i [] := by
        rw [List.getD, List.getElem?_eq_getElem hi]
        exact (hmem _ (List.getElem_mem hi)).1
      have k := word_step (N + 2) (by omega) (K2 (N + 2)) (acc := acc) ht h1 h2 h3 hno (by have := hP.1; omega)
      unfold RW
      cases hw : wnum (ps.getD i []) with
      | none =>
        rw [hw] at k
        exact ⟨fun b hb => (by cases hb), fun _ => k⟩
      | some v =>
        rw [hw] at k
        refine ⟨fun b hb => ?_, fun hb => (by cases hb)⟩
        have hb := Option.some.inj hb
        subst hb
        refine ⟨⟨by rw [List.length_append]; have := hP.1; simp; omega, fun x hx => ?_⟩, ?_⟩
        · rcases List.mem_append.1 hx with hx | hx
          · exact hP.2 x hx
          · rw [List.mem_singleton.1 hx]; exact wnum_ok hw
        · rw [h4]; exact k
    · have he := start_end ps hne
      rw [hjn] at he
      have hw : ¬ (((start ps ps.length : Nat) : Int) ≤ nLen t) := by unfold nLen; omega
      unfold OB
      exact letB (v := false) (decide_eq_false hw) (bifF rfl (leaveB (K2_ok N hP.2)))
    · cases runF (RW ps) ps.length 0 [] with
      | none => rfl
      | some l =>
        simp only
        unfold fin4
        split
        · rename_i a b c d
          show (if pr (a, b, c, d) = t then ((a, b, c, d), (0 : Int)) else bad) = (match (if pr (a, b, c, d) = t then some (a, b, c, d) else none : Option I4) with
            | some w => (w, (0 : Int))
            | none => bad)
          by_cases e : pr (a, b, c, d) = t
          · rw [if_pos e, if_pos e]
          · rw [if_neg e, if_neg e]
        · rename_i hx
          split
          · rename_i w hw
            split at hw
            · rename_i a b c d
              exact absurd rfl (hx a b c d)
            · cases hw
          · rfl
theorem awake300 : n4 300 () = some true := by kernel_rfl
theorem awake' {N : Nat} (h : 300 ≤ N) : n4 N () = some true := nfN_mono (T := TN) h 4 () true awake300
theorem i4_beq (a : I4) : ((a.1 == a.1) && ((a.2.1 == a.2.1) && ((a.2.2.1 == a.2.2.1) && (a.2.2.2 == a.2.2.2)))) = true := by simp
theorem i64_of {x : Int} (h : IntKind.i64.min ≤ x ∧ x ≤ IntKind.i64.max) : i64r x := ⟨Int.le_trans (by decide) h.1, Int.le_trans h.2 (by decide)⟩
/-- GlassTexts. -/
theorem glass {w : I4} {t0 : List UInt8} {at' by' : Int} (hw : r4 w) : n3 2000 (w, t0, at', by') = some true := by
  rw [e3]
  by_cases h12 : nLen t0 > 1200
  · exact letB (v := true) (decide_eq_true h12) (bifT rfl (bindB (awake' (by omega)) rfl))
  have ht0 : t0.length ≤ 1200 := by unfold nLen at h12; omega
  obtain ⟨m1, k1, a1, b1⟩ := mod_ok 1998 (a := at') (b := 200000) (by omega) (by omega)
  obtain ⟨m2, k2, a2, b2⟩ := mod_ok 1998 (a := by') (b := 7) (by omega) (by omega)
  obtain ⟨m3, k3, a3, b3⟩ := mod_ok 1998 (a := at') (b := 30) (by omega) (by omega)
  obtain ⟨m4, k4, a4, b4⟩ := mod_ok 1998 (a := by') (b := 70000) (by omega) (by omega)
  have hr : r4 (m1, m2, m3 - 3, m4) := by unfold r4 i64r; simp only; omega
  have hp := pr_len2 hr
  have hpr := print_r 1997 hr
  generalize pr (m1, m2, m3 - 3, m4) = T at *
  have hb : nToBytes T = some (nBytes T) := if_pos (by omega)
  have hbl : nLen (nBytes T) = (T.length : Int) := by unfold nLen nBytes; rw [List.length_map]
  obtain ⟨m5, k5, a5, b5⟩ := mod_ok 1998 (a := at') (b := nLen (nBytes T)) (by omega) (by omega)
  obtain ⟨m6, k6, a6, b6⟩ := mod_ok 1998 (a := by') (b := 12) (by omega) (by omega)
  obtain ⟨c, _, hc⟩ := idx_mem (l := ([48, 49, 50, 51, 52, 53, 54, 55, 56, 57, 32, 45] : List UInt8)) a6 b6
  have hx : nIdxB ([48, 49, 50, 51, 52, 53, 54, 55, 56, 57, 32, 45] : List UInt8) m6 = some (c.toNat : Int) := by unfold nIdxB; rw [hc]; rfl
  obtain ⟨d, _, hd⟩ := idx_mem (l := nBytes T) a5 b5
  have hset : (nStr ((nBytes T).set m5.toNat (c.toNat : Int))).length ≤ 87 := by
    rw [nStr_length, List.length_set]
    unfold nLen at hbl
    omega
  refine letB (v := false) (decide_eq_false h12) (bifF rfl (bindB (print_g 1979 hw) (bindB (print_r 1997 hw) (bifF (by simp) (bindB k1 (bindB k2 (bindB k3 (letB (v := m3 - 3) (wv _ rfl (by omega) (by omega)) (bindB k4 (bindB hpr (bindB hb (bindB k5 (bindB k6 (bindB hx (bindB hd (letB rfl (bindB (cat_ok (by simp; omega)) (bindB (cat_ok (by simp; omega)) (bindB (cat_ok (by simp; omega)) (letB rfl (jB ?_)))))))))))))))))))))
  generalize nStr ((nBytes T).set m5.toNat (c.toNat : Int)) = S at *
  generalize hL : ([t0, T, S, T ++ [32], [32] ++ T, T ++ [32, 49], ([49, 48, 57, 57, 53, 49, 49, 54, 50, 55, 55, 55, 54, 32, 48, 32, 48, 32, 45, 49, 48, 57, 57, 53, 49, 49, 54, 50, 55, 55, 55, 54] : List UInt8), ([49, 48, 57, 57, 53, 49, 49, 54, 50, 55, 55, 55, 55, 32, 48, 32, 48, 32, 48] : List UInt8), ([45, 48, 32, 49, 32, 50, 32, 51] : List UInt8)] : List (List UInt8)) = L
  have hL9 : L.length = 9 := by rw [← hL]; rfl
  have hLm : ∀ x ∈ L, x.length ≤ 1200 := by
    intro x hx2
    rw [← hL] at hx2
    simp only [List.mem_cons, List.not_mem_nil, or_false] at hx2
    rcases hx2 with rfl | rfl | rfl | rfl | rfl | rfl | rfl | rfl | rfl <;> first | omega | (simp; done) | (simp; omega)
  refine loopN_seq' (fun k => ((L, (9 : Int), (k : Int)) : (List (List UInt8) × (Int × Int)))) 9 (by unfold nLen; rw [hL9]; rfl) (fun k hk => ?_) ?_ (by omega)
  · have hx2 : nIdx L (k : Int) = some (L[k]'(by omega)) := nIdx_lt (by omega)
    have hlen := hLm _ (List.getElem_mem (l := L) (n := k) (by omega))
    have q1 := parse_g 1979 (t := L[k]'(by omega)) (by omega)
    have q2 := parse_r 1996 (by omega) (t := L[k]'(by omega))
    refine bifT (decide_eq_true (show ((k : Int) < 9) by omega)) (bindB hx2 (bindB q1 (bindB q2 (letB (v := false) ?_ (letB (v := false) ?_ (bifF rfl (letB (v := (k : Int) + 1) (wv _ rfl (by omega) (by omega)) rfl)))))))
    · cases gp (L[k]'(by omega)) with
      | none => rfl
      | some u =>
        show (true != _) = _
        rw [i4_beq]; rfl
    · cases gp (L[k]'(by omega)) <;> rfl
  · exact bifF rfl (leaveB (bindB (awake' (by omega)) rfl))
end Go.Proofs.YtgajbpiclnekkaaDoor
