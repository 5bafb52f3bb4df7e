/- Stations' texts, plainly. -/
import Derived.Test.YtndaipcfahfkkaaPF
namespace Go.Proofs.Ytndaipcfahfkkaa
open Go.VM
def hexL : List UInt8 := [48, 49, 50, 51, 52, 53, 54, 55, 56, 57, 97, 98, 99, 100, 101, 102]
def hexI (d : Int) : Int := if d < 10 then 48 + d else 87 + d
def valI (c : Int) : Int := if 48 ≤ c ∧ c ≤ 57 then c - 48 else if 97 ≤ c ∧ c ≤ 102 then c - 87 else -1
theorem nIdxB_bytes (s : List UInt8) (j : Int) : nIdxB s j = nIdx (nBytes s) j := by
  unfold nIdxB nIdx nBytes
  split
  · rw [List.getElem?_map]
  · rfl
theorem hex_fin : ∀ n : Fin 16, nIdxB hexL (n.val : Int) = some (hexI (n.val : Int)) := by decide
theorem hex_at {d : Int} (h0 : 0 ≤ d) (h1 : d < 16) : nIdxB hexL d = some (hexI d) := by
  obtain ⟨n, rfl⟩ := Int.eq_ofNat_of_zero_le h0
  exact hex_fin ⟨n, by omega⟩
theorem hexI_rng {d : Int} (h0 : 0 ≤ d) (h1 : d < 16) : B8 (hexI d) := by
  unfold hexI B8
  split <;> omega
theorem valI_hexI {d : Int} (h0 : 0 ≤ d) (h1 : d < 16) : valI (hexI d) = d := by
  unfold hexI valI
  split
  · rw [if_pos (by omega)]; omega
  · rw [if_neg (by omega), if_pos (by omega)]; omega
theorem hexI_valI {c : Int} (h : 0 ≤ valI c) : hexI (valI c) = c ∧ valI c < 16 := by
  unfold valI at *
  unfold hexI
  split at h
  · rename_i h1; rw [if_pos h1, if_pos (by omega)]; omega
  · rename_i h1
    split at h
    · rename_i h2; rw [if_neg h1, if_pos h2, if_neg (by omega)]; omega
    · omega
theorem ib_fin : ∀ n : Fin 256, Lib.indexByte hexL ((n.val : Int).toNat.toUInt8) = valI (n.val : Int) := by decide +kernel
theorem ib_at {c : Int} (h : B8 c) : Lib.indexByte hexL c.toNat.toUInt8 = valI c := by
  obtain ⟨h0, h1⟩ := h
  obtain ⟨n, rfl⟩ := Int.eq_ofNat_of_zero_le h0
  exact ib_fin ⟨n, by omega⟩
theorem dig_eq (N : Nat) {c : Int} (h : B8 c) : n36 (N + 1) c = some (valI c) := by
  obtain ⟨h0, h1⟩ := h
  rw [e36]
  have b1 : (bif decide (c ≥ 48) then decide (c ≤ 57) else false) = decide (48 ≤ c ∧ c ≤ 57) := by
    rw [Bool.eq_iff_iff, decide_eq_true_eq]
    by_cases h : c ≥ 48 <;> simp [h] <;> omega
  have b2 : (bif decide (c ≥ 97) then decide (c ≤ 102) else false) = decide (97 ≤ c ∧ c ≤ 102) := by
    rw [Bool.eq_iff_iff, decide_eq_true_eq]
    by_cases h : c ≥ 97 <;> simp [h] <;> omega
  simp only [↓letS, b1, b2, bif_if, decide_eq_true_eq]
  unfold valI
  split
  · rw [wrap_u8, wrap_i64 (by omega) (by omega)]
    congr 1; omega
  · split
    · have : IntKind.i64.wrap (IntKind.u8.wrap (c - 97)) = c - 97 := by
        rw [wrap_u8, wrap_i64 (by omega) (by omega)]; omega
      rw [this, wrap_i64 (by omega) (by omega)]
      congr 1; omega
    · rfl
/- texts -/
def hx2 (b : Int) : List Int := [hexI (b / 16), hexI (b % 16)]
def printI (m : Mac) : List Int := hx2 m.1 ++ 58 :: (hx2 m.2.1 ++ 58 :: (hx2 m.2.2.1 ++ 58 :: (hx2 m.2.2.2.1 ++ 58 :: (hx2 m.2.2.2.2.1 ++ 58 :: hx2 m.2.2.2.2.2))))
theorem macL_B8 {m : Mac} (h : Mac8 m) : Bs (macL m) := by
  obtain ⟨a1, a2, a3, a4, a5, a6⟩ := h
  intro x hx
  simp only [macL, List.mem_cons, List.not_mem_nil, or_false] at hx
  rcases hx with rfl | rfl | rfl | rfl | rfl | rfl <;> assumption
theorem printI_rng {m : Mac} (h : Mac8 m) : Bs (printI m) := by
  obtain ⟨a1, a2, a3, a4, a5, a6⟩ := h
  have h2 : ∀ b, B8 b → Bs (hx2 b) := fun b hb x hx => by
    have := hb.1; have := hb.2
    simp only [hx2, List.mem_cons, List.not_mem_nil, or_false] at hx
    rcases hx with rfl | rfl <;> exact hexI_rng (by omega) (by omega)
  intro x hx
  simp only [printI, List.mem_append, List.mem_cons] at hx
  have c58 : B8 58 := ⟨by omega, by omega⟩
  rcases hx with hx | rfl | hx | rfl | hx | rfl | hx | rfl | hx | rfl | hx <;> first | exact c58 | exact h2 _ (by assumption) x hx
theorem shr4 {b : Int} (h : B8 b) : nShr .u8 b 4 = b / 16 := by
  rw [nShr_div _ _ _ (by decide), Int.fdiv_eq_ediv_of_nonneg _ (by decide)]
  rfl
theorem and15b {b : Int} (h : B8 b) : bits .and .u8 b 15 = b % 16 := and15 h.1 (by have := h.2; simp [IntKind.bits]; omega)
theorem mac_get {m : Mac} {i : Nat} (hi : i < 6) : (macL m)[i]? = some ((macL m)[i]'hi) := List.getElem?_eq_getElem hi
theorem print_ok (N : Nat) {m : Mac} (hm : Mac8 m) : n10 (N + 9) m = some (nStr (printI m)) := by
  rw [e10]
  simp only [joinK_eq]
  refine loopN_seq (s := fun i : Nat => (((macL m).take i).map fun b => nStr (hx2 b), m, (i : Int))) (n := 6) (fun i hi => ?_) ?_ (by omega)
  · have hb : B8 ((macL m)[i]'hi) := macL_B8 hm _ (List.getElem_mem hi)
    have hx : nIdx [m.1, m.2.1, m.2.2.1, m.2.2.2.1, m.2.2.2.2.1, m.2.2.2.2.2] (i : Int) = some ((macL m)[i]'hi) := nIdx_lt (l := macL m) hi
    have ht : (macL m).take (i + 1) = (macL m).take i ++ [(macL m)[i]'hi] := List.take_succ_eq_append_getElem hi
    generalize (macL m)[i]'hi = b at hb hx ht
    have hlt : ((i : Int) < 6) := by omega
    simp only [↓letS, hx, hlt, decide_true, condT, bindS]
    rw [shr4 hb, and15b hb]
    have h0 := hb.1
    have h1 := hb.2
    have q1 : nIdxB [48, 49, 50, 51, 52, 53, 54, 55, 56, 57, 97, 98, 99, 100, 101, 102] (b / 16) = some (hexI (b / 16)) := hex_at (by omega) (by omega)
    have q2 : nIdxB [48, 49, 50, 51, 52, 53, 54, 55, 56, 57, 97, 98, 99, 100, 101, 102] (b % 16) = some (hexI (b % 16)) := hex_at (by omega) (by omega)
    rw [q1, q2]
    simp only [↓letS, bindS]
    have hl : (((macL m).take i).map fun b => nStr (hx2 b)).length ≤ 6 := by rw [List.length_map, List.length_take]; omega
    rw [nApp_ok (by simp only [List.length_singleton]; omega) (by simp only [List.length_singleton]; omega), wrap_i64 (by omega) (by omega), ht, List.map_append]
    rfl
  · have hlt : ¬ (((6 : Nat) : Int) < 6) := by omega
    simp only [↓letS, hlt, decide_false, condF]
    have : (n34 (N + 8) (((macL m).take 6).map (fun b => nStr (hx2 b)), [58])) = some (nStr (printI m)) := by
      rw [e34]
      have hj : Lib.join (((macL m).take 6).map fun b => nStr (hx2 b)) [58] = nStr (printI m) := rfl
      unfold qJoin
      rw [if_pos ⟨by simp [macL], by rw [hj, nStr_length]; simp [printI, hx2]⟩, hj]
    rw [this]; rfl
theorem print2_ok (N : Nat) {m : Mac} (hm : Mac8 m) : n11 (N + 8) m = some (nStr (printI m)) := by
  rw [e11]
  simp only [joinK_eq]
  refine loopN_seq (s := fun i : Nat => ((printI m).take (3 * i - 1), m, (i : Int))) (n := 6) (fun i hi => ?_) ?_ (by omega)
  · have hb : B8 ((macL m)[i]'hi) := macL_B8 hm _ (List.getElem_mem hi)
    have hx : nIdx [m.1, m.2.1, m.2.2.1, m.2.2.2.1, m.2.2.2.2.1, m.2.2.2.2.2] (i : Int) = some ((macL m)[i]'hi) := nIdx_lt (l := macL m) hi
    have hp : (printI m).take (3 * (i + 1) - 1) = (printI m).take (3 * i - 1) ++ ((if 0 < i then [58] else []) ++ hx2 ((macL m)[i]'hi)) := by
      match i, hi with
      | 0, _ => rfl
      | 1, _ => rfl
      | 2, _ => rfl
      | 3, _ => rfl
      | 4, _ => rfl
      | 5, _ => rfl
    generalize (macL m)[i]'hi = b at hb hx hp
    have hlt : ((i : Int) < 6) := by omega
    simp only [↓letS, hx, hlt, decide_true, condT, bindS, bif_if, decide_eq_true_eq]
    rw [shr4 hb, and15b hb]
    have h0 := hb.1
    have h1 := hb.2
    have q1 : nIdxB [48, 49, 50, 51, 52, 53, 54, 55, 56, 57, 97, 98, 99, 100, 101, 102] (b / 16) = some (hexI (b / 16)) := hex_at (by omega) (by omega)
    have q2 : nIdxB [48, 49, 50, 51, 52, 53, 54, 55, 56, 57, 97, 98, 99, 100, 101, 102] (b % 16) = some (hexI (b % 16)) := hex_at (by omega) (by omega)
    rw [q1, q2]
    simp only [↓letS, bindS]
    have hl : ((printI m).take (3 * i - 1)).length ≤ 17 := by rw [List.length_take]; simp [printI, hx2]; omega
    rw [wrap_i64 (by omega) (by omega), hp]
    by_cases h0 : 0 < i
    · have hi0 : (i : Int) > 0 := by omega
      rw [if_pos hi0, if_pos h0]
      rw [nApp_ok (by simp only [List.length_singleton]; omega) (by simp only [List.length_singleton]; omega)]
      simp only [↓letS, bindS]
      rw [nApp_ok (by simp only [List.length_append, List.length_singleton, List.length_cons, List.length_nil]; omega) (by simp only [List.length_append, List.length_singleton, List.length_cons, List.length_nil]; omega)]
      simp only [↓letS, bindS, again_eq, hx2, List.append_assoc]
      rfl
    · have hi0 : ¬ (i : Int) > 0 := by omega
      rw [if_neg hi0, if_neg h0]
      rw [nApp_ok (by simp only [List.length_cons, List.length_nil]; omega) (by simp only [List.length_cons, List.length_nil]; omega)]
      simp only [↓letS, bindS, again_eq, hx2, List.nil_append]
      rfl
  · have hlt : ¬ (((6 : Nat) : Int) < 6) := by omega
    simp only [↓letS, hlt, decide_false, condF]
    rfl
end Go.Proofs.Ytndaipcfahfkkaa
