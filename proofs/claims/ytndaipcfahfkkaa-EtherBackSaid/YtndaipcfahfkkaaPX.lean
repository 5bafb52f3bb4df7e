/- The laws on addresses and on what is read back, plainly. -/
import Derived.Test.YtndaipcfahfkkaaPQ
namespace Go.Proofs.Ytndaipcfahfkkaa
open Go.VM
theorem group_same (N : Nat) {m : Mac} (h : Mac8 m) : ∃ g, n12 (N + 1) m = some g ∧ n13 (N + 1) m = some g := by
  obtain ⟨h0, h1⟩ := h.1
  rw [e12, e13]
  refine ⟨_, rfl, ?_⟩
  rw [and1 h0 (by simp [IntKind.bits]; omega), Int.tmod_eq_emod_of_nonneg h0, letS]
theorem reserved_same (N : Nat) (m : Mac) : ∃ g, n14 (N + 1) m = some g ∧ n15 (N + 1) m = some g := by
  rw [e14, e15]
  refine ⟨_, rfl, ?_⟩
  have key : ∀ p q : Bool, (bif p then q else false) = (bif q then p else false) := by decide
  simp only [beq_self_eq_true, letS]
  exact congrArg some (key _ _)
theorem solicited_same (N : Nat) (a : Bool × Int × Int) : ∃ g, n21 (N + 1) a = some g ∧ n22 (N + 1) a = some g := by
  rw [e21, e22]
  cases a.1 with
  | false => exact ⟨_, rfl, rfl⟩
  | true => exact ⟨_, rfl, rfl⟩
theorem nToBytes_ok {s : List UInt8} (h : s.length ≤ 9223372036854775807) : nToBytes s = some (nBytes s) := if_pos h
theorem addresses (a0 : Mac) (a1 : List UInt8) (a2 : Bool × Int × Int) (a3 a4 : Int) (h0 : Mac8 a0) : n3 61 (a0, a1, a2, a3, a4) = some true := by
  rw [e3]
  have aw : ∀ {K}, 40 ≤ K → ((n8 K ()).bind fun v => some v) = some true := fun h => by rw [awake_eq h]; rfl
  simp only [↓letS, bif_if, decide_eq_true_eq]
  by_cases hl : nLen a1 > 600
  · rw [if_pos hl]; exact aw (by omega)
  rw [if_neg hl]
  obtain ⟨v2, hv2, _, _⟩ := mod_ok 59 (a := a4) (b := 2) (by omega) (by omega)
  obtain ⟨v3, hv3, _, _⟩ := mod_ok 59 (a := a3) (b := 32) (by omega) (by omega)
  simp only [↓letS, hv2, hv3, bindS, joinK_eq]
  have hall : ∀ x ∈ [a0, (1, 128, 194, 0, IntKind.u8.wrap v2, IntKind.u8.wrap v3), (1, 128, 194, 0, 0, IntKind.u8.wrap v3), (255, 255, 255, 255, 255, IntKind.u8.wrap a4)], Mac8 x := by
    have c : ∀ n : Int, 0 ≤ n → n ≤ 255 → B8 n := fun n a b => ⟨a, b⟩
    intro x hx
    simp only [List.mem_cons, List.not_mem_nil, or_false] at hx
    rcases hx with rfl | rfl | rfl | rfl
    · exact h0
    · exact ⟨c 1 (by decide) (by decide), c 128 (by decide) (by decide), c 194 (by decide) (by decide), c 0 (by decide) (by decide), wrap8_rng _, wrap8_rng _⟩
    · exact ⟨c 1 (by decide) (by decide), c 128 (by decide) (by decide), c 194 (by decide) (by decide), c 0 (by decide) (by decide), c 0 (by decide) (by decide), wrap8_rng _⟩
    · exact ⟨c 255 (by decide) (by decide), c 255 (by decide) (by decide), c 255 (by decide) (by decide), c 255 (by decide) (by decide), c 255 (by decide) (by decide), wrap8_rng _⟩
  generalize hL : [a0, (1, 128, 194, 0, IntKind.u8.wrap v2, IntKind.u8.wrap v3), (1, 128, 194, 0, 0, IntKind.u8.wrap v3), (255, 255, 255, 255, 255, IntKind.u8.wrap a4)] = L at hall
  have hlen : L.length = 4 := by rw [← hL]; rfl
  have hn : nLen L = 4 := by simp only [nLen, hlen]; rfl
  rw [hn]
  refine loopN_seq (s := fun i : Nat => (a1, a3, a4, a2, L, (4 : Int), (i : Int))) (n := 4) (fun i hi => ?_) ?_ (by omega)
  · have hlt : ((i : Int) < 4) := by omega
    have hx : nIdx L (i : Int) = some (L[i]'(by omega)) := nIdx_lt (by omega)
    have hm := hall _ (List.getElem_mem (by omega : i < L.length))
    generalize L[i]'(by omega) = x at hx hm
    obtain ⟨g, hg1, hg2⟩ := group_same 59 hm
    obtain ⟨q, hq1, hq2⟩ := reserved_same 59 x
    simp only [↓letS, hlt, if_true, hx, bindS]
    rw [print_ok 51 hm, print2_ok 52 hm]
    simp only [↓letS, bindS, beq_self_eq_true, bne_self_eq_false, Bool.not_true, Bool.not_false, if_true, Bool.false_eq_true, if_false, hg1, hg2, hq1, hq2]
    rw [e16, e17]
    simp only [↓letS, bindS, beq_self_eq_true, bne_self_eq_false, Bool.not_true, Bool.not_false, if_true, Bool.false_eq_true, if_false]
    have hpl : (nStr (printI x)).length = 17 := by rw [nStr_length]; rfl
    rw [nToBytes_ok (by omega)]
    simp only [↓letS, bindS]
    obtain ⟨sp, hsp, hspb, hspl⟩ := spoilt_ok 58 (l := nBytes (nStr (printI x))) (nBytes_rng _) (by unfold nBytes; rw [List.length_map]; omega) a3 a4
    rw [hsp]
    simp only [↓letS, bindS]
    generalize hW : [a1, nStr (printI x), nStr sp] = W
    have hwl : W.length = 3 := by rw [← hW]; rfl
    have hwn : nLen W = 3 := by simp only [nLen, hwl]; rfl
    rw [hwn]
    refine loopN_seq (s := fun j : Nat => (a1, a3, a4, a2, L, (4 : Int), (i : Int), W, (3 : Int), (j : Int))) (n := 3) (m := 60) (fun j hj => ?_) ?_ (by omega)
    · have hlt2 : ((j : Int) < 3) := by omega
      have hx2 : nIdx W (j : Int) = some (W[j]'(by omega)) := nIdx_lt (by omega)
      generalize W[j]'(by omega) = t at hx2
      simp only [↓letS, hlt2, if_true, hx2, bindS]
      rw [parse_ok 40 t, parse2_ok 52 t]
      simp only [↓letS, bindS, beq_self_eq_true, Bool.and_self, bne_self_eq_false, Bool.false_eq_true, if_false]
      rw [wrap_i64 (by omega) (by omega)]
      rfl
    · have hlt2 : ¬ (((3 : Nat) : Int) < 3) := by omega
      simp only [↓letS, hlt2, if_false]
      rw [wrap_i64 (by omega) (by omega)]
      rfl
  · have hlt : ¬ (((4 : Nat) : Int) < 4) := by omega
    obtain ⟨g, hg1, hg2⟩ := solicited_same 59 a2
    simp only [↓letS, hlt, if_false]
    rw [hg1, hg2]
    simp only [↓letS, bindS, beq_self_eq_true, Bool.and_self, bne_iff_ne, ne_eq, Bool.false_eq_true, not_false_eq_true, if_true, false_bne']
    rw [awake_eq (by omega)]
    rfl
theorem parse_print {m : Mac} (h : Mac8 m) : parseS (nStr (printI m)) = (m, 0) := by
  have hb : nBytes (nStr (printI m)) = printI m := nBytes_nStr (printI_rng h)
  unfold parseS
  rw [hb, if_pos ⟨by rw [nStr_length]; rfl, print_all h⟩, mAt6]
  obtain ⟨a, b, c, d, e, f⟩ := m
  obtain ⟨⟨a0, a1⟩, ⟨b0, b1⟩, ⟨c0, c1⟩, ⟨d0, d1⟩, ⟨e0, e1⟩, ⟨f0, f1⟩⟩ := h
  simp only at a0 a1 b0 b1 c0 c1 d0 d1 e0 e1 f0 f1
  have key : ∀ x : Int, 0 ≤ x → x ≤ 255 → 16 * valI (hexI (x / 16)) + valI (hexI (x % 16)) = x := fun x h0 h1 => by
    rw [valI_hexI (by omega) (by omega), valI_hexI (by omega) (by omega)]; omega
  show ((16 * valI (hexI (a / 16)) + valI (hexI (a % 16)), 16 * valI (hexI (b / 16)) + valI (hexI (b % 16)), 16 * valI (hexI (c / 16)) + valI (hexI (c % 16)), 16 * valI (hexI (d / 16)) + valI (hexI (d % 16)), 16 * valI (hexI (e / 16)) + valI (hexI (e % 16)), 16 * valI (hexI (f / 16)) + valI (hexI (f % 16))), (0 : Int)) = _
  rw [key a a0 a1, key b b0 b1, key c c0 c1, key d d0 d1, key e e0 e1, key f f0 f1]
/-- What is read, written again. -/
theorem finB_inv {a b : Mac} {vl x y : Int} {r : List Int} {f : Fr} (h : finB a b vl (x :: y :: r) = (f, 0)) : f = (a, b, vl, x * 256 + y, r) ∧ 1536 ≤ x * 256 + y ∧ x * 256 + y ≠ 33024 ∧ r.length ≤ 1500 := by
  simp only [finB] at h
  split at h
  · cases h
  · rename_i h1
    split at h
    · cases h
    · cases h
      exact ⟨rfl, by omega, by omega, by omega⟩
theorem dec_inv (N : Nat) {l : List Int} {f : Fr} (hl : Bs l) (hlen : l.length ≤ 100000) (h : n31 (N + 2) l = some (f, 0)) : valid f = true ∧ (encB f = l ∨ (f.2.2.1 ≠ 0 ∧ ∃ u, B8 u ∧ l[14]? = some u ∧ encB f = l.set 14 (u % 16))) := by
  by_cases h14 : l.length < 14
  · rw [e31] at h
    simp only [↓letS, bif_if, decide_eq_true_eq] at h
    rw [if_pos (by simp only [nLen]; omega)] at h
    cases h
  · obtain ⟨a, r1, rfl⟩ := six (l := l) (by omega)
    simp only [List.length_append, show (macL a).length = 6 from rfl] at h14 hlen
    obtain ⟨b, r2, rfl⟩ := six (l := r1) (by omega)
    simp only [List.length_append, show (macL b).length = 6 from rfl] at h14 hlen
    obtain ⟨x, y, r, rfl⟩ := two (l := r2) (by omega)
    simp only [List.length_cons] at hlen
    have hx : B8 x := hl x (by simp)
    have hy : B8 y := hl y (by simp)
    have hr : Bs r := fun z hz => hl z (by simp [hz])
    rw [dec_eq N hx hy hr (by omega)] at h
    have hd := Option.some.inj h
    clear h
    have hx0 := hx.1; have hx1 := hx.2; have hy0 := hy.1; have hy1 := hy.2
    have fin : ∀ {vl w z : Int} {s : List Int}, B8 w → B8 z → 0 ≤ vl → vl ≤ 4094 → finB a b vl (w :: z :: s) = (f, 0) → valid f = true ∧ f.2.2.1 = vl ∧ encB f = macL a ++ macL b ++ ((if vl ≠ 0 then [129, 0, vl / 256, vl % 256] else []) ++ [w, z]) ++ s := by
      intro vl w z s hw hz v0 v1 hf
      obtain ⟨rfl, t0, t1, t2⟩ := finB_inv hf
      have hw0 := hw.1; have hw1 := hw.2; have hz0 := hz.1; have hz1 := hz.2
      refine ⟨?_, rfl, ?_⟩
      · simp only [↓letS, valid, decide_eq_true_eq]; omega
      · simp only [encB]
        rw [show (w * 256 + z) / 256 = w by omega, show (w * 256 + z) % 256 = z by omega]
    simp only [decR] at hd
    split at hd
    · rename_i ht
      have ex : x = 129 := by omega
      have ey : y = 0 := by omega
      subst ex; subst ey
      split at hd
      · rename_i u v s
        split at hd
        · cases hd
        · rename_i hs2
          split at hd
          · cases hd
          · rename_i hvl
            obtain ⟨w, z, s, rfl⟩ := two (l := s) (by omega)
            have hu : B8 u := hr u (by simp)
            have hv : B8 v := hr v (by simp)
            have hw : B8 w := hr w (by simp)
            have hz : B8 z := hr z (by simp)
            have hu0 := hu.1; have hu1 := hu.2; have hv0 := hv.1; have hv1 := hv.2
            obtain ⟨q1, q2, q3⟩ := fin hw hz (by omega) (by omega) hd
            refine ⟨q1, .inr ⟨by rw [q2]; omega, u, hu, rfl, ?_⟩⟩
            rw [q3, if_pos (by omega), show (u * 256 + v) % 4096 / 256 = u % 16 by omega, show (u * 256 + v) % 4096 % 256 = v by omega]
            rfl
      · cases hd
    · obtain ⟨q1, q2, q3⟩ := fin hx hy (by omega) (by omega) hd
      refine ⟨q1, .inl ?_⟩
      rw [q3]
      simp
theorem back (a0 : Mac) (a1 a2 : List Int) (a3 a4 : Int) (h0 : Mac8 a0) (h1 : Bs a1) (h2 : a2.length ≤ 9223372036854775807) : n6 20001 (a0, a1, a2, a3, a4) = some true := by
  rw [e6, e24]
  have aw : ∀ {K}, 40 ≤ K → ((n8 K ()).bind fun v => some v) = some true := fun h => by rw [awake_eq h]; rfl
  simp only [↓letS, bindS]
  by_cases hb : a1.length ≤ 600
  case neg =>
    have : decide (nLen a1 ≤ 600) = false := by rw [decide_eq_false_iff_not]; simp only [nLen]; omega
    simp only [this, Bool.not_false, condT]; exact aw (by omega)
  have : decide (nLen a1 ≤ 600) = true := by rw [decide_eq_true_eq]; simp only [nLen]; omega
  simp only [this, Bool.not_true, condF]
  rw [print_ok 19991 h0]
  simp only [↓letS, bindS]
  rw [parse_ok 19980, parse_print h0]
  simp only [↓letS, bindS, beq_self_eq_true, Bool.and_self, bne_self_eq_false, condF]
  rw [e26]
  obtain ⟨f, d', hfr, hf, _⟩ := frame_ok 19960 (d := (a2, 0)) ⟨Int.le_refl _, by omega, h2⟩
  simp only [↓letS, bindS]
  rw [hfr]
  simp only [↓letS, bindS, joinK_eq]
  rw [(valid_eq 19999 f).1]
  simp only [↓letS, bindS]
  -- what is read
  have J : ∀ (l : List Int), Bs l → l.length ≤ 10000 → ((n31 20000 l).bind fun v11 =>
      bif (v11.2 != (0 : Int)) then ((n8 20000 ()).bind fun v12 => some v12) else ((n27 20000 v11.1).bind fun v13 =>
      bif (bif (v13.2 != (0 : Int)) then true else ((nLen v13.1) != (nLen l))) then (some false) else loopN 20000 (fun (p18 : (List (Int) × (((Int × Int × Int × Int × Int × Int) × (Int × Int × Int × Int × Int × Int) × Int × Int × (List (Int))) × (List (Int) × (Int × Int))))) =>
        bif (decide (p18.2.2.2.2 < p18.2.2.2.1)) then ((nIdx p18.2.2.1 p18.2.2.2.2).bind fun v20 =>
        (nIdx p18.1 p18.2.2.2.2).bind fun v21 =>
        (bif ((!(bif (p18.2.2.2.2 != (14 : Int)) then true else (p18.2.1.2.2.1 == (0 : Int)))) && (v20 != v21)) then (nIdx p18.2.2.1 p18.2.2.2.2) else some (0 : Int)).bind fun v23 =>
        (bif ((!(bif (p18.2.2.2.2 != (14 : Int)) then true else (p18.2.1.2.2.1 == (0 : Int)))) && (v20 != v21)) then (nIdx p18.1 p18.2.2.2.2) else some (0 : Int)).bind fun v24 =>
        bif (bif (v20 != v21) then (bif (bif (p18.2.2.2.2 != (14 : Int)) then true else (p18.2.1.2.2.1 == (0 : Int))) then true else (v23 != (bits .and IntKind.u8 v24 (15 : Int)))) else false) then (leave (some false)) else (again (p18.1, p18.2.1, p18.2.2.1, p18.2.2.2.1, (IntKind.i64.wrap (p18.2.2.2.2 + (1 : Int)))))) else (leave ((n8 20000 ()).bind fun v17 => some v17))) (l, v11.1, v13.1, (nLen l), (0 : Int)))) = some true := by
    intro l hl hlen
    obtain ⟨⟨g, e⟩, hg, _⟩ := dec_both 19998 hl (by omega)
    rw [hg]
    simp only [↓letS, bindS]
    by_cases he : e = 0
    case neg =>
      have : (e != 0) = true := by simp [he]
      simp only [this, condT]; exact aw (by omega)
    subst he
    obtain ⟨hv, hor⟩ := dec_inv 19998 hl (by omega) hg
    rw [(enc_any 19998 g).1, if_pos hv]
    have hlen2 : (encB g).length = l.length := by
      rcases hor with h | ⟨_, u, _, _, h⟩
      · rw [h]
      · rw [h, List.length_set]
    have hn : nLen (encB g) = nLen l := by simp only [nLen, hlen2]
    simp only [↓letS, bindS, bne_self_eq_false, condF, hn]
    refine loopN_seq (s := fun i : Nat => (l, g, encB g, nLen l, (i : Int))) (n := l.length) (fun i hi => ?_) ?_ ?_
    · have hlt : ((i : Int) < nLen l) := by simp only [nLen]; omega
      have x1 : nIdx (encB g) (i : Int) = some ((encB g)[i]'(by omega)) := nIdx_lt (by omega)
      have x2 : nIdx l (i : Int) = some (l[i]'hi) := nIdx_lt hi
      have w : IntKind.i64.wrap ((i : Int) + 1) = ((i + 1 : Nat) : Int) := by rw [wrap_i64 (by omega) (by omega)]; omega
      simp only [↓letS, hlt, decide_true, condT, x1, x2, bindS, w]
      by_cases hc : (encB g)[i]'(by omega) = l[i]'hi
      · have hc2 : ((encB g)[i]'(by omega) != l[i]'hi) = false := by simp [hc]
        simp only [↓letS, hc2, Bool.and_false, condF, bindS]
        rfl
      · have hc2 : ((encB g)[i]'(by omega) != l[i]'hi) = true := by simp [hc]
        rcases hor with h | ⟨hvl, u, hu, hu14, h⟩
        · exact absurd (by simp only [h]) hc
        · have hi14 : i = 14 := by
            by_cases h14 : i = 14
            · exact h14
            · exfalso
              apply hc
              simp only [h]
              rw [List.getElem_set_ne (by omega)]
          subst hi14
          have e1 : (encB g)[14]'(by omega) = u % 16 := by
            simp only [h]
            rw [List.getElem_set_self]
          have e2 : l[14]'hi = u := by
            have := List.getElem?_eq_getElem hi
            rw [hu14] at this
            exact (Option.some.inj this).symm
          have e3 : (g.2.2.1 == 0) = false := by simp [hvl]
          have e4 : ((14 : Nat) : Int) = 14 := rfl
          simp only [↓letS, hc2, e4, bne_self_eq_false, condF, e3, Bool.not_false, Bool.and_self, condT, bindS]
          rw [e1, e2, and15b hu]
          simp only [bne_self_eq_false, condF]
          rfl
    · have hlt : ¬ (((l.length : Nat) : Int) < nLen l) := by simp only [nLen]; omega
      simp only [↓letS, hlt, decide_false, condF]
      rw [aw (by omega)]; rfl
    · omega
  cases hv : valid f with
  | false =>
    simp only [condF]
    exact J a1 h1 (by omega)
  | true =>
    rw [(enc_any 19998 f).1, if_pos hv]
    simp only [↓letS, bindS, condT]
    rw [dec_enc 19998 hf hv]
    simp only [↓letS, bindS, bne_self_eq_false, condF, Bool.not_false, condT]
    rw [same_refl 19999]
    simp only [↓letS, bindS, Bool.not_true, condF]
    have hcl : (encB f).length ≤ 2000 := by
      have := (valid_rng hv).2.2.2.2.2
      unfold encB
      simp only [List.length_append, macL, List.length_cons, List.length_nil]
      split <;> simp only [List.length_cons, List.length_nil] <;> omega
    obtain ⟨sp, hsp, hspb, hspl⟩ := spoilt_ok 19998 (bs_enc hf) (by omega) a3 a4
    rw [hsp]
    simp only [↓letS, bindS]
    exact J sp hspb (by omega)
end Go.Proofs.Ytndaipcfahfkkaa
