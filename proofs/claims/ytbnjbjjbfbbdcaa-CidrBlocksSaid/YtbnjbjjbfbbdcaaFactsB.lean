/- Plain facts on the blocks of a range of ports: what cidr.Blocks makes, block by block. No condition of its own. -/
import Derived.Test.YtbnjbjjbfbbdcaaBits
import Derived.Test.YtbnjbjjbfbbdcaaPAllx33
import Derived.Test.YtbnjbjjbfbbdcaaPAllx34
import Derived.Test.YtbnjbjjbfbbdcaaPAllx35
namespace Go.Proofs.Ytbnjbjjbfbbdcaa.Facts
open Go Go.RowKit Go.Proofs.Ytbnjbjjbfbbdcaa.PAll Go.Proofs.YtbnjbjjbfbbdcaaW.PrintWords Go.Proofs.YtbnjbjjbfbbdcaaW.PrintLast Go.Proofs.YtbnjbjjbfbbdcaaW.PrintMore Go.Proofs.Ytbnjbjjbfbbdcaa.Bits

/-- A block of twice the size fits still. -/
def Wide (low high : Int) (j : Nat) : Prop := low % 2 ^ (j + 1) = 0 ∧ low + 2 ^ (j + 1) - 1 ≤ high
/-- The blocks from a port on: each as great as may be. -/
def Tiles (high : Int) : Int → List S29 → Prop
  | low, [] => high < low
  | low, b :: l => ∃ j : Nat, j ≤ 16 ∧ b.f0 = low ∧ b.f1 = 16 - j ∧ low % 2 ^ j = 0 ∧ low + 2 ^ j - 1 ≤ high ∧ ¬ Wide low high j ∧ Tiles high (low + 2 ^ j) l

theorem pow16 {j : Nat} (h : j ≤ 16) : (2 : Int) ^ j ≤ 65536 := two_pow_le (j := 16) h

theorem blocks_l2 (j : Nat) : ∀ (k : Nat) (acc : List S29) (low high size n : Int), j ≤ 16 → n ≤ 16 → 0 ≤ n - j → acc.length < 8796093022208 →
    cidr_Blocks.l2 (k + j + 1) acc low high size n (2 ^ j) = cidr_Blocks.l0 k (acc ++ [⟨IntKind.u16.wrap low, n - j⟩]) (wrap64 (low + size)) high := by
  induction j with
  | zero =>
    intro k acc low high size n _ _ _ hacc
    rw [cidr_Blocks.l2, if_neg (by simp), if_pos hacc]
    simp
  | succ j ih =>
    intro k acc low high size n hj hn hnj hacc
    have hp := two_pow_pos j
    have hb := pow16 hj
    have e : (2 : Int) ^ (j + 1) = 2 * 2 ^ j := by rw [Int.pow_succ]; omega
    rw [show k + (j + 1) + 1 = (k + j + 1) + 1 from rfl]
    rw [cidr_Blocks.l2, if_pos (by omega), wrap64_id (n - 1) (by omega) (by omega), Int.tdiv_eq_ediv_of_nonneg (by omega), e, Int.mul_ediv_cancel_left _ (by decide), wrap64_id _ (by omega) (by omega), ih k acc low high size (n - 1) (by omega) (by omega) (by omega) hacc]
    rw [show n - 1 - (j : Int) = n - ((j + 1 : Nat) : Int) from by omega]

theorem blocks_l1 (d : Nat) : ∀ (k i : Nat) (acc : List S29) (low high : Int), 0 ≤ low → low ≤ high → high ≤ 65535 → i + d ≤ 16 → (∀ t, i ≤ t → t < i + d → Wide low high t) → ¬ Wide low high (i + d) →
    cidr_Blocks.l1 (k + d + 1) acc low high (2 ^ i) = cidr_Blocks.j2 k acc low high (2 ^ (i + d)) := by
  induction d with
  | zero =>
    intro k i acc low high h0 h1 h2 hi _ hn
    have hp := two_pow_pos i
    have hb := pow16 (show i ≤ 16 by omega)
    rw [show i + 0 = i from rfl] at hn ⊢
    show cidr_Blocks.l1 (k + 1) acc low high (2 ^ i) = _
    have e : (2 : Int) * 2 ^ i = 2 ^ (i + 1) := by rw [Int.pow_succ]; omega
    have hp2 := two_pow_pos (i + 1)
    rw [cidr_Blocks.l1, e, wrap64_id ((2 : Int) ^ (i + 1)) (by omega) (by omega), if_neg (by omega), Int.tmod_eq_emod_of_nonneg h0]
    by_cases c : low % 2 ^ (i + 1) = 0
    · rw [if_pos c, wrap64_id (low + _) (by omega) (by omega), wrap64_id _ (by omega) (by omega), if_neg (fun h => hn ⟨c, h⟩)]
    · rw [if_neg c]
  | succ d ih =>
    intro k i acc low high h0 h1 h2 hi hw hn
    have hp := two_pow_pos i
    have hb := pow16 (show i + 1 ≤ 16 by omega)
    have e : (2 : Int) * 2 ^ i = 2 ^ (i + 1) := by rw [Int.pow_succ]; omega
    have hp2 := two_pow_pos (i + 1)
    obtain ⟨w1, w2⟩ := hw i (Nat.le_refl _) (by omega)
    rw [show k + (d + 1) + 1 = (k + d + 1) + 1 from rfl]
    rw [cidr_Blocks.l1, e, wrap64_id ((2 : Int) ^ (i + 1)) (by omega) (by omega), if_neg (by omega), Int.tmod_eq_emod_of_nonneg h0, if_pos w1, wrap64_id (low + _) (by omega) (by omega), wrap64_id (low + _ - 1) (by omega) (by omega), if_pos w2, Int.mul_comm (2 ^ i) 2, e, wrap64_id _ (by omega) (by omega)]
    rw [show i + (d + 1) = (i + 1) + d from by omega] at hn ⊢
    exact ih k (i + 1) acc low high h0 h1 h2 (by omega) (fun t h3 h4 => hw t (by omega) (by omega)) hn

theorem wide_down {low high : Int} {j : Nat} (h : Wide low high (j + 1)) : Wide low high j := by
  obtain ⟨h1, h2⟩ := h
  have e : (2 : Int) ^ (j + 1 + 1) = 2 ^ (j + 1) * 2 := Int.pow_succ ..
  have hp := two_pow_pos (j + 1)
  refine ⟨?_, by omega⟩
  rw [e] at h1
  have := Int.emod_emod_of_dvd low (⟨2, rfl⟩ : (2 : Int) ^ (j + 1) ∣ 2 ^ (j + 1) * 2)
  rw [h1] at this
  rw [← this]
  exact Int.zero_emod _
instance (low high : Int) (j : Nat) : Decidable (Wide low high j) := inferInstanceAs (Decidable (_ ∧ _))
theorem first_not (low high : Int) (n : Nat) : ¬ Wide low high n → ∃ j, j ≤ n ∧ ¬ Wide low high j ∧ ∀ t, t < j → Wide low high t := by
  induction n with
  | zero => exact fun h => ⟨0, Nat.le_refl _, h, fun t ht => absurd ht (Nat.not_lt_zero t)⟩
  | succ n ih =>
    intro h
    by_cases c : Wide low high n
    · refine ⟨n + 1, Nat.le_refl _, h, fun t ht => ?_⟩
      have : ∀ d, d ≤ n → Wide low high (n - d) := by
        intro d
        induction d with
        | zero => exact fun _ => c
        | succ d ihd =>
          intro hd
          have := ihd (by omega)
          rw [show n - d = (n - (d + 1)) + 1 from by omega] at this
          exact wide_down this
      have h2 := this (n - t) (by omega)
      rwa [show n - (n - t) = t from by omega] at h2
    · obtain ⟨j, h1, h2, h3⟩ := ih c
      exact ⟨j, by omega, h2, h3⟩
theorem greatest {low high : Int} (h0 : 0 ≤ low) (h1 : low ≤ high) (h2 : high ≤ 65535) : ∃ j, j ≤ 16 ∧ ¬ Wide low high j ∧ (∀ t, t < j → Wide low high t) ∧ low % 2 ^ j = 0 ∧ low + 2 ^ j - 1 ≤ high := by
  obtain ⟨j, hj, hn, hw⟩ := first_not low high 16 (fun h => by have := h.2; have e : (2 : Int) ^ (16 + 1) = 131072 := rfl; omega)
  refine ⟨j, hj, hn, hw, ?_⟩
  cases j with
  | zero => exact ⟨by rw [Int.pow_zero]; omega, by rw [Int.pow_zero]; omega⟩
  | succ j => exact hw j (by omega)

theorem blocks_l0 (r : Nat) : ∀ (low high : Int), 0 ≤ low → high ≤ 65535 → high + 1 - low ≤ r → ∃ l, Tiles high low l ∧ l.length ≤ r ∧
    ∀ (k : Nat) (acc : List S29), acc.length + r ≤ 70000 → 40 * r + 1 ≤ k → cidr_Blocks.l0 k acc low high = some (acc ++ l) := by
  induction r with
  | zero =>
    intro low high h0 h2 hr
    refine ⟨[], ?_, Nat.le_refl _, fun k acc _ hk => ?_⟩
    · show high < low
      omega
    · obtain ⟨k, rfl⟩ : ∃ m, k = m + 1 := ⟨k - 1, by omega⟩
      simp only [cidr_Blocks.l0]
      rw [if_neg (by omega), List.append_nil]
  | succ r ih =>
    intro low high h0 h2 hr
    by_cases c : low ≤ high
    · obtain ⟨j, hj, hn, hw, hm, hb⟩ := greatest h0 c h2
      have hp := two_pow_pos j
      have hp16 := pow16 hj
      obtain ⟨l, hl, hlen, hk⟩ := ih (low + 2 ^ j) high (by omega) h2 (by omega)
      refine ⟨⟨low, 16 - j⟩ :: l, ⟨j, hj, rfl, rfl, hm, hb, hn, hl⟩, by simp only [List.length_cons]; omega, fun k acc ha hk1 => ?_⟩
      obtain ⟨m, rfl⟩ : ∃ m, k = ((((m + j + 1) + 1) + j + 1) + 1) := ⟨k - 2 * j - 4, by omega⟩
      have e1 := blocks_l1 j (m + j + 1 + 1) 0 acc low high h0 c h2 (by omega) (fun t _ ht => hw t (by omega)) (by rwa [Nat.zero_add])
      rw [Int.pow_zero, Nat.zero_add] at e1
      rw [cidr_Blocks.l0, if_pos c, e1, cidr_Blocks.j2, blocks_l2 j m acc low high (2 ^ j) 16 hj (by omega) (by omega) (by omega), wrap64_id _ (by omega) (by omega), wrap_u16, Int.emod_eq_of_lt h0 (by omega)]
      rw [hk m _ (by simp only [List.length_append, List.length_cons, List.length_nil]; omega) (by omega), List.append_assoc]
      rfl
    · refine ⟨[], ?_, Nat.zero_le _, fun k acc _ hk => ?_⟩
      · show high < low
        omega
      · obtain ⟨k, rfl⟩ : ∃ m, k = m + 1 := ⟨k - 1, by omega⟩
        rw [cidr_Blocks.l0, if_neg c, List.append_nil]

/-- What Blocks makes of a range. -/
theorem blocks_eq {low high : Int} (h0 : 0 ≤ low) (h1 : low ≤ 65535) (h2 : 0 ≤ high) (h3 : high ≤ 65535) : ∃ l, Tiles high low l ∧ ∀ k, 3000000 ≤ k → cidr_Blocks.f k low high = some l := by
  obtain ⟨l, hl, hlen, hk⟩ := blocks_l0 65536 low high h0 h3 (by omega)
  refine ⟨l, hl, fun k h => ?_⟩
  unfold cidr_Blocks.f
  rw [wrap64_id _ (by omega) (by omega), wrap64_id _ (by omega) (by omega)]
  have := hk k [] (by simp) (by omega)
  simpa using this
theorem awake03 {k : Nat} (h : 3000000 ≤ k) : crossbucklaw03_awake.f k = some true :=
  at_rounds (g := fun k => crossbucklaw03_awake.f k) (k := 100) crossbucklaw03_awake.mono (by omega) (by decide +kernel)
theorem in_eq (low high p : Int) : cidr_In.f low high p = some (decide (low ≤ p) && decide (p ≤ high)) := by
  unfold cidr_In.f
  by_cases h : p ≥ low
  · rw [if_pos h]; simp [h]
  · rw [if_neg h]; simp [h]
end Go.Proofs.Ytbnjbjjbfbbdcaa.Facts
