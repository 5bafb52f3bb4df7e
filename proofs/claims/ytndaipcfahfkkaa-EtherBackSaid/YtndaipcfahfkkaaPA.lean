/- Chapter 04, plainly: the deck, stations, frames. -/
import Derived.Test.YtndaipcfahfkkaaNE1
import Derived.Test.YtndaipcfahfkkaaNE2
namespace Go.Proofs.Ytndaipcfahfkkaa
open Go.VM
abbrev Mac := Int × Int × Int × Int × Int × Int
abbrev Fr := Mac × Mac × Int × Int × List Int
abbrev Dk := List Int × Int
def B8 (x : Int) : Prop := 0 ≤ x ∧ x ≤ 255
def Mac8 (m : Mac) : Prop := B8 m.1 ∧ B8 m.2.1 ∧ B8 m.2.2.1 ∧ B8 m.2.2.2.1 ∧ B8 m.2.2.2.2.1 ∧ B8 m.2.2.2.2.2
def macL (m : Mac) : List Int := [m.1, m.2.1, m.2.2.1, m.2.2.2.1, m.2.2.2.2.1, m.2.2.2.2.2]
def Bs (l : List Int) : Prop := ∀ x ∈ l, B8 x
def DK (d : Dk) : Prop := 0 ≤ d.2 ∧ d.2 ≤ d.1.length ∧ d.1.length ≤ 9223372036854775807

theorem mod_eq (N : Nat) {a b : Int} (hb : 0 < b) (hb2 : b ≤ 9223372036854775807) : n9 (N + 1) (a, b) = some (a % b) := by
  rw [e9]
  have h0 : b ≠ 0 := by omega
  simp only [↓letS, h0, if_false, bindS, joinK_eq, bif_if, decide_eq_true_eq]
  have h1 := Int.mul_tdiv_add_tmod a b
  have h2 := Int.tmod_lt_of_pos a hb
  have h3 := Int.lt_tmod_of_pos a hb
  have h4 : a % b = a.tmod b % b := by
    conv => lhs; rw [← h1, Int.add_comm, Int.add_mul_emod_self_left]
  by_cases hn : a.tmod b < 0
  · rw [if_pos hn, wrap_i64 (by omega) (by omega), h4]
    rw [← Int.add_emod_right, Int.emod_eq_of_lt (by omega) (by omega)]
  · rw [if_neg hn, h4, Int.emod_eq_of_lt (by omega) (by omega)]
theorem mod_ok (N : Nat) {a b : Int} (hb : 0 < b) (hb2 : b ≤ 9223372036854775807) : ∃ r, n9 (N + 1) (a, b) = some r ∧ 0 ≤ r ∧ r < b :=
  ⟨_, mod_eq N hb hb2, Int.emod_nonneg _ (by omega), Int.emod_lt_of_pos _ hb⟩
theorem next_ok (N : Nat) {d : Dk} (hd : DK d) {b : Int} (hb : 0 < b) (hb2 : b ≤ 9223372036854775807) : ∃ v d', n37 (N + 2) (d, b) = some (v, d') ∧ 0 ≤ v ∧ v < b ∧ DK d' := by
  obtain ⟨l, i⟩ := d
  obtain ⟨h1, h2, h3⟩ := hd
  simp only at h1 h2 h3
  rw [e37]
  simp only [↓letS, bif_if, decide_eq_true_eq, nLen, ge_iff_le]
  by_cases hi : (l.length : Int) ≤ i
  · rw [if_pos hi]
    exact ⟨0, (l, i), rfl, by omega, hb, h1, h2, h3⟩
  · rw [if_neg hi, wrap_i64 (n := i + 1) (by omega) (by omega), wrap_i64 (n := i + 1 - 1) (by omega) (by omega)]
    obtain ⟨n, rfl⟩ := Int.eq_ofNat_of_zero_le h1
    rw [show (n : Int) + 1 - 1 = (n : Int) by omega, nIdx_lt (l := l) (n := n) (by omega)]
    obtain ⟨r, hr, r1, r2⟩ := mod_ok N (a := l[n]'(by omega)) hb hb2
    simp only [↓letS, bindS, hr]
    exact ⟨r, (l, (n : Int) + 1), rfl, r1, r2, by simp only [DK]; omega⟩
theorem mac_ok (N : Nat) (a : Int) : ∃ m, n23 (N + 1) a = some m ∧ Mac8 m := by
  rw [e23]
  exact ⟨_, rfl, by simp only [Mac8, B8]; exact ⟨by omega, by omega, wrap8_rng _, wrap8_rng _, wrap8_rng _, wrap8_rng _⟩⟩
theorem bytes_ok (N : Nat) {d : Dk} (hd : DK d) {b : Int} (hb : 0 ≤ b) (hb2 : b ≤ 1000000) (hN : b < N) : ∃ l d', n38 (N + 3) (d, b) = some (l, d') ∧ Bs l ∧ (l.length : Int) ≤ b ∧ DK d' := by
  rw [e38, wrap_i64 (by omega) (by omega)]
  obtain ⟨v, d1, h1, h2, h3, h4⟩ := next_ok N hd (b := b + 1) (by omega) (by omega)
  simp only [↓letS, h1, bindS, joinK_eq]
  obtain ⟨r, h5, h6⟩ := loopN_run (body := fun (p4 : List Int × Int × List Int × Int) =>
    let v5 := (decide (p4.2.1 > (0 : Int)));
    bif v5 then ((n37 (N + 2) (p4.2.2, (256 : Int))).bind fun v6 =>
      let v7 := ([(IntKind.u8.wrap v6.1)] : List (Int));
      (nApp 1 p4.1 v7).bind fun v8 =>
      let v9 := (IntKind.i64.wrap (p4.2.1 - (1 : Int)));
      again (v8, v9, v6.2)) else (leave (some (p4.1, p4.2.2)))) (fun k p => p.2.1 = k ∧ Bs p.1 ∧ (p.1.length : Int) + k ≤ b ∧ DK p.2.2) (fun r => Bs r.1 ∧ (r.1.length : Int) ≤ b ∧ DK r.2) (fun k p ⟨q1, q2, q3, q4⟩ => by
      obtain ⟨l, j, d⟩ := p
      simp only at q1 q2 q3 q4
      subst q1
      by_cases hk : k = 0
      · subst hk
        exact .inr ⟨(l, d), rfl, q2, show (l.length : Int) ≤ b by omega, q4⟩
      · obtain ⟨v6, d', k1, k2, k3, k4⟩ := next_ok N q4 (b := 256) (by omega) (by omega)
        have hp : (k : Int) > 0 := by omega
        refine .inl ⟨(l ++ [IntKind.u8.wrap v6], (k : Int) - 1, d'), ?_, k - 1, by omega, by simp only; omega, ?_, by simp only [List.length_append, List.length_singleton]; omega, k4⟩
        · simp only [↓letS, hp, decide_true, condT, k1, bindS]
          rw [nApp_ok (by simp only [List.length_singleton]; omega) (by simp only [List.length_singleton]; omega), wrap_i64 (by omega) (by omega)]
          rfl
        · intro x hx
          rcases List.mem_append.1 hx with hx | hx
          · exact q2 x hx
          · rw [List.mem_singleton.1 hx]; exact wrap8_rng _) (N + 2) v.toNat ([], v, d1) ⟨show v = _ by omega, (fun x hx => by cases hx), (by simp only [List.length_nil]; omega), h4⟩ (by omega)
  exact ⟨r.1, r.2, h5, h6⟩

/-- A frame. -/
def FR (f : Fr) : Prop := Mac8 f.1 ∧ Mac8 f.2.1 ∧ 0 ≤ f.2.2.1 ∧ f.2.2.1 ≤ 4095 ∧ 0 ≤ f.2.2.2.1 ∧ f.2.2.2.1 ≤ 65535 ∧ Bs f.2.2.2.2 ∧ f.2.2.2.2.length ≤ 1501
theorem idx_mem {l : List Int} {v : Int} (h : 0 ≤ v) (h2 : v < (l.length : Int)) : ∃ x ∈ l, nIdx l v = some x := by
  obtain ⟨n, rfl⟩ := Int.eq_ofNat_of_zero_le h
  exact ⟨l[n]'(by omega), List.getElem_mem _, nIdx_lt (by omega)⟩
theorem frame_ok (N : Nat) {d : Dk} (hd : DK d) : ∃ f d', n25 (N + 40) d = some (f, d') ∧ FR f ∧ DK d' := by
  rw [e25]
  obtain ⟨v0, d0, h0, a0, b0, g0⟩ := next_ok (N + 37) hd (b := 300) (by omega) (by omega)
  obtain ⟨m1, hm1, k1⟩ := mac_ok (N + 38) v0
  obtain ⟨v2, d2, h2, a2, b2, g2⟩ := next_ok (N + 37) g0 (b := 300) (by omega) (by omega)
  obtain ⟨m3, hm3, k3⟩ := mac_ok (N + 38) v2
  obtain ⟨v5, d5, h5, a5, b5, g5⟩ := next_ok (N + 37) g2 (b := 6) (by omega) (by omega)
  obtain ⟨v6, q6, h6⟩ := idx_mem (l := [2048, 1536, 65535, 2054, 1535, 33024]) a5 b5
  obtain ⟨v7, d7, h7, a7, b7, g7⟩ := bytes_ok (N + 36) g5 (b := 30) (by omega) (by omega) (by omega)
  obtain ⟨v8, d8, h8, a8, b8, g8⟩ := next_ok (N + 37) g7 (b := 2) (by omega) (by omega)
  have h6r : 0 ≤ v6 ∧ v6 ≤ 65535 := by
    simp only [List.mem_cons, List.not_mem_nil, or_false] at q6
    omega
  simp only [↓letS, h0, hm1, h2, hm3, h5, h6, h7, h8, bindS, joinK_eq]
  -- the rest
  have rest : ∀ (vl : Int) (d : Dk), 0 ≤ vl → vl ≤ 4095 → DK d → ∃ f d', ((n37 (N + 39) (d, 12)).bind fun v11 => bif v11.1 == 11 then ((n37 (N + 39) (v11.2, 2)).bind fun v14 =>
      let v15 := IntKind.i64.wrap (1500 + v14.1)
      (nMake 1 (0 : Int) v15 v15).bind fun v16 => some (((m1, m3, vl, v6, v16) : Fr), v14.2)) else some ((m1, m3, vl, v6, v7), v11.2)) = some (f, d') ∧ FR f ∧ DK d' := by
    intro vl d hv1 hv2 hd
    obtain ⟨v11, d11, h11, a11, b11, g11⟩ := next_ok (N + 37) hd (b := 12) (by omega) (by omega)
    obtain ⟨v14, d14, h14, a14, b14, g14⟩ := next_ok (N + 37) g11 (b := 2) (by omega) (by omega)
    simp only [↓letS, h11, bindS, bif_if]
    split
    · simp only [↓letS, h14, bindS]
      rw [wrap_i64 (n := 1500 + v14) (by omega) (by omega)]
      unfold nMake
      rw [if_pos (by refine ⟨?_, ?_, ?_, ?_⟩ <;> omega)]
      refine ⟨_, _, rfl, ⟨k1, k3, hv1, hv2, h6r.1, h6r.2, fun x hx => ?_, ?_⟩, g14⟩
      · rw [(List.mem_replicate.1 hx).2]; simp only [B8]; omega
      · simp only [List.length_replicate]; omega
    · exact ⟨_, _, rfl, ⟨k1, k3, hv1, hv2, h6r.1, h6r.2, a7, show v7.length ≤ 1501 by omega⟩, g11⟩
  rw [bif_if]
  split
  · obtain ⟨v18, d18, h18, a18, b18, g18⟩ := next_ok (N + 37) g8 (b := 4) (by omega) (by omega)
    obtain ⟨v19, q19, h19⟩ := idx_mem (l := [1, 4094, 4095, 100]) a18 b18
    simp only [↓letS, h18, h19, bindS]
    exact rest v19 d18 (by simp only [List.mem_cons, List.not_mem_nil, or_false] at q19; omega) (by simp only [List.mem_cons, List.not_mem_nil, or_false] at q19; omega) g18
  · exact rest 0 d8 (by omega) (by omega) g8

/- bytes of frames -/
def valid (f : Fr) : Bool := decide (0 ≤ f.2.2.1 ∧ f.2.2.1 ≤ 4094 ∧ 1536 ≤ f.2.2.2.1 ∧ f.2.2.2.1 ≤ 65535 ∧ f.2.2.2.1 ≠ 33024 ∧ f.2.2.2.2.length ≤ 1500)
theorem valid_eq (N : Nat) (f : Fr) : n29 (N + 1) f = some (valid f) ∧ n30 (N + 1) f = some (valid f) := by
  have key : ∀ b : Bool, b = valid f → some b = some (valid f) := fun b h => by rw [h]
  rw [e29, e30]
  have h : ∀ (a b c d e g : Bool), (bif (bif (bif (bif (bif a then b else false) then c else false) then d else false) then e else false) then g else false) = (a && (b && (c && (d && (e && g))))) := by decide
  constructor
  all_goals
    apply key
    simp only [↓letS, h, valid, ge_iff_le]
    rw [Bool.eq_iff_iff]
    simp only [↓letS, Bool.and_eq_true, decide_eq_true_eq, bne_iff_ne, ne_eq]
    simp only [nLen]
    omega
theorem put_eq (N : Nat) {l : List Int} {a : Int} (hl : l.length ≤ 100000) (h0 : 0 ≤ a) (h1 : a ≤ 65535) : n39 (N + 1) (l, a) = some (l ++ [a / 256, a % 256]) := by
  rw [e39]
  simp only [↓letS]
  rw [nApp_ok (by simp only [List.length_cons, List.length_nil]; omega) (by simp only [List.length_cons, List.length_nil]; omega)]
  simp only [↓letS, bindS]
  rw [nShr_div _ _ _ (by decide), wrap_u8, wrap_u8, Int.fdiv_eq_ediv_of_nonneg _ (by decide)]
  have : a / 2 ^ 8 % 256 = a / 256 := by omega
  rw [this]
def encB (f : Fr) : List Int := macL f.1 ++ macL f.2.1 ++ ((if f.2.2.1 ≠ 0 then [129, 0, f.2.2.1 / 256, f.2.2.1 % 256] else []) ++ [f.2.2.2.1 / 256, f.2.2.2.1 % 256]) ++ f.2.2.2.2
theorem hi_byte {a : Int} (h0 : 0 ≤ a) (h1 : a ≤ 65535) : IntKind.u8.wrap (nShr .i64 a 8) = a / 256 := by
  rw [nShr_div _ _ _ (by decide), wrap_u8, Int.fdiv_eq_ediv_of_nonneg _ (by decide)]
  omega
theorem enc_eq (N : Nat) {f : Fr} (hv0 : 0 ≤ f.2.2.1) (hv1 : f.2.2.1 ≤ 4095) (ht0 : 0 ≤ f.2.2.2.1) (ht1 : f.2.2.2.1 ≤ 65535) (hlen : f.2.2.2.2.length ≤ 100000) :
    n27 (N + 2) f = some (if valid f then (encB f, 0) else ([], 1)) ∧ n28 (N + 2) f = some (if valid f then (encB f, 0) else ([], 1)) := by
  rw [e27, e28, (valid_eq N f).1, (valid_eq N f).2]
  simp only [↓letS, bindS, bif_if, Bool.not_eq_true', joinK_eq, bne_iff_ne, ne_eq, decide_eq_true_eq]
  cases hv : valid f with
  | false => exact ⟨rfl, rfl⟩
  | true =>
    simp only [Bool.true_eq_false, if_false, if_true]
    rw [nApp_ok (by simp) (by simp)]
    simp only [↓letS, List.nil_append, bindS]
    rw [nApp_ok (by simp) (by simp)]
    simp only [↓letS, bindS]
    have l1 : (macL f.1 ++ macL f.2.1).length = 12 := rfl
    have hw1 : IntKind.u8.wrap f.2.2.1 = f.2.2.1 % 256 := rfl
    have hw2 : IntKind.u8.wrap f.2.2.2.1 = f.2.2.2.1 % 256 := rfl
    change (if ¬f.2.2.1 = 0 then ((n39 (N + 1) (macL f.1 ++ macL f.2.1, 33024)).bind fun v9 => (n39 (N + 1) (v9, f.2.2.1)).bind fun v10 => (n39 (N + 1) (v10, f.2.2.2.1)).bind fun v7 => (nApp 1 v7 f.2.2.2.2).bind fun v8 => some (v8, (0 : Int))) else
      ((n39 (N + 1) (macL f.1 ++ macL f.2.1, f.2.2.2.1)).bind fun v7 => (nApp 1 v7 f.2.2.2.2).bind fun v8 => some (v8, (0 : Int)))) = _ ∧
      (if f.2.2.1 > 0 then ((nApp 1 (macL f.1 ++ macL f.2.1) [129, 0, IntKind.u8.wrap (nShr .i64 f.2.2.1 8), IntKind.u8.wrap f.2.2.1]).bind fun v15 => (nApp 1 v15 [IntKind.u8.wrap (nShr .i64 f.2.2.2.1 8), IntKind.u8.wrap f.2.2.2.1]).bind fun v11 => (nApp 1 v11 f.2.2.2.2).bind fun v12 => some (v12, (0 : Int))) else
        ((nApp 1 (macL f.1 ++ macL f.2.1) [IntKind.u8.wrap (nShr .i64 f.2.2.2.1 8), IntKind.u8.wrap f.2.2.2.1]).bind fun v11 => (nApp 1 v11 f.2.2.2.2).bind fun v12 => some (v12, (0 : Int)))) = _
    rw [hi_byte hv0 (by omega), hi_byte ht0 ht1, hw1, hw2]
    unfold encB
    by_cases h0 : f.2.2.1 = 0
    · rw [if_neg (by omega), if_neg (by omega), if_neg (by omega)]
      rw [put_eq N (by omega) ht0 ht1, nApp_ok (by simp only [List.length_append, l1, List.length_cons, List.length_nil]; omega) (by simp only [List.length_append, l1, List.length_cons, List.length_nil]; omega)]
      simp only [↓letS, bindS]
      rw [nApp_ok (by simp only [List.length_append, List.length_cons, List.length_nil, macL]; omega) (by simp only [List.length_append, List.length_cons, List.length_nil, macL]; omega)]
      simp only [↓letS, bindS, List.nil_append, and_self]
    · rw [if_pos (by omega), if_pos (by omega), if_pos (by omega)]
      rw [put_eq N (by omega) (by omega) (by omega), nApp_ok (by simp only [List.length_append, l1, List.length_cons, List.length_nil]; omega) (by simp only [List.length_append, l1, List.length_cons, List.length_nil]; omega)]
      simp only [↓letS, bindS]
      rw [put_eq N (by simp only [List.length_append, List.length_cons, List.length_nil, macL]; omega) (by omega) (by omega), nApp_ok (by simp only [List.length_append, List.length_cons, List.length_nil, macL]; omega) (by simp only [List.length_append, List.length_cons, List.length_nil, macL]; omega)]
      simp only [↓letS, bindS]
      rw [put_eq N (by simp only [List.length_append, List.length_cons, List.length_nil, macL]; omega) ht0 ht1, nApp_ok (by simp only [List.length_append, List.length_cons, List.length_nil, macL]; omega) (by simp only [List.length_append, List.length_cons, List.length_nil, macL]; omega)]
      simp only [↓letS, bindS]
      rw [nApp_ok (by simp only [List.length_append, List.length_cons, List.length_nil, macL]; omega) (by simp only [List.length_append, List.length_cons, List.length_nil, macL]; omega)]
      simp [List.append_assoc]

/- bytes read -/
theorem six {l : List Int} (h : 6 ≤ l.length) : ∃ m : Mac, ∃ r, l = macL m ++ r := by
  obtain ⟨a, l, rfl⟩ := List.exists_cons_of_length_pos (l := l) (by omega)
  simp only [List.length_cons] at h
  obtain ⟨b, l, rfl⟩ := List.exists_cons_of_length_pos (l := l) (by omega)
  simp only [List.length_cons] at h
  obtain ⟨c, l, rfl⟩ := List.exists_cons_of_length_pos (l := l) (by omega)
  simp only [List.length_cons] at h
  obtain ⟨d, l, rfl⟩ := List.exists_cons_of_length_pos (l := l) (by omega)
  simp only [List.length_cons] at h
  obtain ⟨e, l, rfl⟩ := List.exists_cons_of_length_pos (l := l) (by omega)
  simp only [List.length_cons] at h
  obtain ⟨f, l, rfl⟩ := List.exists_cons_of_length_pos (l := l) (by omega)
  exact ⟨(a, b, c, d, e, f), l, rfl⟩
theorem two {l : List Int} (h : 2 ≤ l.length) : ∃ a b r, l = a :: b :: r := by
  obtain ⟨a, l, rfl⟩ := List.exists_cons_of_length_pos (l := l) (by omega)
  simp only [List.length_cons] at h
  obtain ⟨b, l, rfl⟩ := List.exists_cons_of_length_pos (l := l) (by omega)
  exact ⟨a, b, l, rfl⟩
def zF : Fr := ((0, 0, 0, 0, 0, 0), (0, 0, 0, 0, 0, 0), 0, 0, [])
/-- What follows the stations (and the tag). -/
def finB (a b : Mac) (vl : Int) : List Int → Fr × Int
  | x :: y :: r => if x * 256 + y < 1536 ∨ x * 256 + y = 33024 then (zF, 5) else if r.length > 1500 then (zF, 3) else ((a, b, vl, x * 256 + y, r), 0)
  | _ => (zF, 0)
def decR (a b : Mac) : List Int → Fr × Int
  | x :: y :: r => if x * 256 + y = 33024 then (match r with
      | u :: v :: s => if s.length < 2 then (zF, 4) else if (u * 256 + v) % 4096 = 0 ∨ (u * 256 + v) % 4096 > 4094 then (zF, 5) else finB a b ((u * 256 + v) % 4096) s
      | _ => (zF, 4)) else finB a b 0 (x :: y :: r)
  | _ => (zF, 0)
theorem get_eq (N : Nat) {x y : Int} {r : List Int} (hx : B8 x) (hy : B8 y) : n40 (N + 1) (x :: y :: r) = some (x * 256 + y) := by
  obtain ⟨x0, x1⟩ := hx
  obtain ⟨y0, y1⟩ := hy
  have h := or_bytes0 x0 x1 y0 y1
  refine (e40 N _).trans ?_
  refine Eq.trans ?_ (congrArg some h)
  rfl
theorem arr6 (m : Mac) : (if 6 ≤ (macL m).length then some ((((macL m).take 6).take 1).headD (0 : Int), ((((macL m).take 6).drop 1).take 1).headD (0 : Int), (((((macL m).take 6).drop 1).drop 1).take 1).headD (0 : Int), ((((((macL m).take 6).drop 1).drop 1).drop 1).take 1).headD (0 : Int), (((((((macL m).take 6).drop 1).drop 1).drop 1).drop 1).take 1).headD (0 : Int), (((((((macL m).take 6).drop 1).drop 1).drop 1).drop 1).drop 1).headD (0 : Int)) else none) = some m := rfl
theorem and4095 {a : Int} (h0 : 0 ≤ a) (h : a ≤ 65535) : bits .and .i64 a 4095 = a % 4096 := by
  have h2 := bits_and_mask (j := 12) (k := .i64) (a := a) (by decide) h0 (by simp [IntKind.bits]; omega)
  rw [show ((2 : Int) ^ 12 - 1) = 4095 by decide, show ((2 : Int) ^ 12) = 4096 by decide] at h2
  exact h2
theorem dec_eq (N : Nat) {a b : Mac} {x y : Int} {r : List Int} (hx : B8 x) (hy : B8 y) (hr : Bs r) (hlen : r.length ≤ 100000) :
    n31 (N + 2) (macL a ++ (macL b ++ x :: y :: r)) = some (decR a b (x :: y :: r)) := by
  have hL : (macL a ++ (macL b ++ x :: y :: r)).length = 14 + r.length := by simp [macL]; omega
  rw [e31]
  simp only [↓letS, bif_if, decide_eq_true_eq]
  simp only [nLen, hL]
  rw [if_neg (by omega)]
  rw [show nTake (macL a ++ (macL b ++ x :: y :: r)) 6 = some (macL a) by
      rw [show (6 : Int) = ((6 : Nat) : Int) from rfl, nTake_ok (by omega)]; rfl]
  simp only [↓letS, bindS]
  rw [arr6]
  simp only [↓letS, bindS]
  rw [show nCut (macL a ++ (macL b ++ x :: y :: r)) 6 12 = some (macL b) by
      rw [show (6 : Int) = ((6 : Nat) : Int) from rfl, show (12 : Int) = ((12 : Nat) : Int) from rfl, nCut_ok (by omega) (by omega)]; rfl]
  simp only [↓letS, bindS]
  rw [arr6]
  simp only [↓letS, bindS]
  rw [show nDrop (macL a ++ (macL b ++ x :: y :: r)) 12 = some (x :: y :: r) by
      rw [show (12 : Int) = ((12 : Nat) : Int) from rfl, nDrop_ok (by omega)]; rfl]
  simp only [↓letS, bindS, get_eq N hx hy, joinK_eq]
  have fin : ∀ (vl : Int) (x y : Int) (r : List Int), B8 x → B8 y → r.length ≤ 100000 → ((n40 (N + 1) (x :: y :: r)).bind fun v9 =>
      if (bif decide (v9 < 1536) then true else v9 == 33024) = true then some (zF, (5 : Int)) else
        if IntKind.i64.wrap (((x :: y :: r).length : Int) - 2) > 1500 then some (zF, (3 : Int)) else (nDrop (x :: y :: r) 2).bind fun v13 => (nApp 1 ([] : List Int) v13).bind fun v14 => some ((a, b, vl, v9, v14), (0 : Int))) = some (finB a b vl (x :: y :: r)) := by
    intro vl x y r hx hy hr
    rw [get_eq N hx hy]
    have e1 : ((bif decide (x * 256 + y < 1536) then true else x * 256 + y == 33024) = true) = (x * 256 + y < 1536 ∨ x * 256 + y = 33024) := by
      rw [eq_iff_iff]
      by_cases h : x * 256 + y < 1536
      · simp [h]
      · simp [h]
    have e2 : IntKind.i64.wrap (((x :: y :: r).length : Int) - 2) = r.length := by
      simp only [List.length_cons]
      rw [wrap_i64 (by omega) (by omega)]; omega
    have e3 : nDrop (x :: y :: r) 2 = some r := by
      rw [show (2 : Int) = ((2 : Nat) : Int) from rfl, nDrop_ok (by simp)]; rfl
    simp only [↓letS, bindS, e1, e2, e3]
    rw [nApp_ok (by simp only [List.length_nil]; omega) (by simp only [List.length_nil]; omega)]
    simp only [↓letS, finB, bindS, List.nil_append]
    by_cases h1 : x * 256 + y < 1536 ∨ x * 256 + y = 33024
    · rw [if_pos h1, if_pos h1]
    · rw [if_neg h1, if_neg h1]
      by_cases h2 : r.length > 1500
      · rw [if_pos (by omega), if_pos h2]
      · rw [if_neg (by omega), if_neg h2]
  have fin2 := fun vl x y r h1 h2 h3 => fin vl x y r h1 h2 h3
  simp only [↓letS, bif_if, decide_eq_true_eq, nLen] at fin2
  simp only [beq_iff_eq]
  unfold decR
  by_cases ht : x * 256 + y = 33024
  · rw [if_pos ht]
    simp only [if_pos ht]
    match r, hr, hlen with
    | [], _, _ => rw [if_pos (by simp)]; rfl
    | [u], _, _ => rw [if_pos (by simp)]; rfl
    | [u, v], _, _ => rw [if_pos (by simp)]; rfl
    | [u, v, w], _, _ => rw [if_pos (by simp)]; rfl
    | u :: v :: w :: z :: s, hr, hlen =>
      simp only [List.length_cons] at hlen
      rw [if_neg (by simp only [List.length_cons]; omega)]
      have hu := hr u (by simp)
      have hv := hr v (by simp)
      have hw := hr w (by simp)
      have hz := hr z (by simp)
      have d2 : nDrop (x :: y :: u :: v :: w :: z :: s) 2 = some (u :: v :: w :: z :: s) := by
        rw [show (2 : Int) = ((2 : Nat) : Int) from rfl, nDrop_ok (by simp)]; rfl
      have d4 : nDrop (x :: y :: u :: v :: w :: z :: s) 4 = some (w :: z :: s) := by
        rw [show (4 : Int) = ((4 : Nat) : Int) from rfl, nDrop_ok (by simp)]; rfl
      simp only [↓letS, d2, d4, bindS, get_eq N hu hv]
      rw [and4095 (by have := hu.1; have := hv.1; omega) (by have := hu.2; have := hv.2; omega)]
      rw [if_neg (by simp : ¬ (w :: z :: s).length < 2)]
      generalize (u * 256 + v) % 4096 = vl
      by_cases h0 : vl = 0 ∨ vl > 4094
      · rw [if_pos h0]
        rw [if_pos (by rcases h0 with h0 | h0 <;> simp [h0])]
        rfl
      · rw [if_neg h0]
        rw [if_neg (by simp only [not_or] at h0; simp [h0.1]; omega)]
        exact fin2 vl w z s hw hz (by omega)
  · rw [if_neg ht]
    simp only [if_neg ht]
    have f3 := fin2 0 x y r hx hy hlen
    rw [get_eq N hx hy] at f3
    simp only [↓letS, bindS] at f3
    exact f3
end Go.Proofs.Ytndaipcfahfkkaa
