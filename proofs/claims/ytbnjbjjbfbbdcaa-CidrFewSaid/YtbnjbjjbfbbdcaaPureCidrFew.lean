/- crossbucklaw03.CidrFew answers true for every port and range: as numbers. No condition of its own. -/
import Derived.Test.YtbnjbjjbfbbdcaaFactsB
import Derived.Test.YtbnjbjjbfbbdcaaPAllx36
namespace Go.Proofs.Ytbnjbjjbfbbdcaa.Pure
open Go Go.RowKit Go.Proofs.Ytbnjbjjbfbbdcaa.PAll Go.Proofs.YtbnjbjjbfbbdcaaW.PrintWords Go.Proofs.YtbnjbjjbfbbdcaaW.PrintLast Go.Proofs.YtbnjbjjbfbbdcaaW.PrintMore Go.Proofs.Ytbnjbjjbfbbdcaa.Bits Go.Proofs.Ytbnjbjjbfbbdcaa.Facts

/-! ### At most 32 blocks. -/
theorem few_down (t : Nat) : ∀ (l : List S29) (high low : Int), Tiles high low l → low % 2 ^ t = 0 → high + 1 - low < 2 ^ t → l.length ≤ t := by
  induction t with
  | zero =>
    intro l high low h _ hr
    rw [Int.pow_zero] at hr
    cases l with
    | nil => exact Nat.zero_le _
    | cons b l =>
      obtain ⟨j, _, _, _, _, h5, _⟩ := h
      have := two_pow_pos j
      omega
  | succ t ih =>
    intro l high low h hm hr
    have e : (2 : Int) ^ (t + 1) = 2 ^ t * 2 := Int.pow_succ ..
    have hp := two_pow_pos t
    have hm' : low % 2 ^ t = 0 := by
      have := Int.emod_emod_of_dvd low (⟨2, e⟩ : (2 : Int) ^ t ∣ 2 ^ (t + 1))
      rw [hm] at this
      rw [← this]; exact Int.zero_emod _
    cases l with
    | nil => exact Nat.zero_le _
    | cons b l =>
      obtain ⟨j, h1, h2, h3, h4, h5, h6, h7⟩ := h
      have hj : j ≤ t := by
        rcases Nat.lt_or_ge t j with c | c
        · have := two_pow_le (i := t + 1) (j := j) c
          omega
        · exact c
      by_cases c : high + 1 - low < 2 ^ t
      · exact Nat.le_trans (ih (b :: l) high low ⟨j, h1, h2, h3, h4, h5, h6, h7⟩ hm' c) (Nat.le_succ t)
      · have hj2 : j = t := by
          rcases Nat.lt_or_ge j t with d | d
          · exfalso
            apply h6
            have := two_pow_le (i := j + 1) (j := t) d
            refine ⟨?_, by omega⟩
            have h8 := Int.emod_emod_of_dvd low (show (2 : Int) ^ (j + 1) ∣ 2 ^ t from ⟨2 ^ (t - (j + 1)), by rw [← Int.pow_add]; congr 1; omega⟩)
            rw [hm'] at h8
            rw [← h8]; exact Int.zero_emod _
          · omega
        subst hj2
        have := ih l high (low + 2 ^ j) h7 (by rw [Int.add_emod_right]; exact hm') (by omega)
        simp only [List.length_cons]
        omega
theorem few_up (u : Nat) : ∀ (t : Nat) (l : List S29) (high low : Int), t + u = 16 → Tiles high low l → low % 2 ^ t = 0 → 0 ≤ low → high ≤ 65535 → l.length ≤ u + 16 := by
  induction u with
  | zero =>
    intro t l high low ht h hm h0 h1
    obtain rfl : t = 16 := by omega
    by_cases c : high + 1 - low < 2 ^ 16
    · exact Nat.le_trans (few_down 16 l high low h hm c) (by omega)
    · have e : (2 : Int) ^ 16 = 65536 := rfl
      rw [e] at c
      obtain rfl : low = 0 := by omega
      obtain rfl : high = 65535 := by omega
      cases l with
      | nil => exact Nat.zero_le _
      | cons b l =>
        obtain ⟨j, h2, _, _, _, _, h6, h7⟩ := h
        have hj : j = 16 := by
          rcases Nat.lt_or_ge j 16 with d | d
          · exfalso
            apply h6
            have := two_pow_le (i := j + 1) (j := 16) d
            rw [e] at this
            exact ⟨Int.zero_emod _, by omega⟩
          · omega
        subst hj
        cases l with
        | nil => simp
        | cons b l =>
          obtain ⟨j, _, _, _, _, h5, _⟩ := h7
          have := two_pow_pos j
          rw [e] at h5
          omega
  | succ u ih =>
    intro t l high low ht h hm h0 h1
    by_cases c : low % 2 ^ (t + 1) = 0
    · have := ih (t + 1) l high low (by omega) h c h0 h1
      omega
    · by_cases d : high + 1 - low < 2 ^ t
      · have := few_down t l high low h hm d
        omega
      · cases l with
        | nil => exact Nat.zero_le _
        | cons b l =>
          obtain ⟨j, h2, h3, h4, h5, h6, h7, h8⟩ := h
          have hp := two_pow_pos t
          have hj : j = t := by
            rcases Nat.lt_trichotomy j t with f | f | f
            · exfalso
              apply h7
              have := two_pow_le (i := j + 1) (j := t) f
              refine ⟨?_, by omega⟩
              have h9 := Int.emod_emod_of_dvd low (show (2 : Int) ^ (j + 1) ∣ 2 ^ t from ⟨2 ^ (t - (j + 1)), by rw [← Int.pow_add]; congr 1; omega⟩)
              rw [hm] at h9
              rw [← h9]; exact Int.zero_emod _
            · exact f
            · exfalso
              apply c
              have h9 := Int.emod_emod_of_dvd low (show (2 : Int) ^ (t + 1) ∣ 2 ^ j from ⟨2 ^ (j - (t + 1)), by rw [← Int.pow_add]; congr 1; omega⟩)
              rw [h5] at h9
              rw [← h9]; exact Int.zero_emod _
          subst hj
          have e : (2 : Int) ^ (j + 1) = 2 ^ j * 2 := Int.pow_succ ..
          have hm2 : (low + 2 ^ j) % 2 ^ (j + 1) = 0 := by
            have h10 := Int.emod_emod_of_dvd low (⟨2, e⟩ : (2 : Int) ^ j ∣ 2 ^ (j + 1))
            rw [hm] at h10
            have h11 := Int.emod_nonneg low (show (2 : Int) ^ (j + 1) ≠ 0 by omega)
            have h12 := Int.emod_lt_of_pos low (show (0 : Int) < 2 ^ (j + 1) by omega)
            obtain ⟨q, hq⟩ := Int.dvd_of_emod_eq_zero h10
            have h13 : low % 2 ^ (j + 1) = 2 ^ j := by
              rw [hq] at h11 h12 c ⊢
              have : q = 1 := by
                rcases Int.lt_trichotomy q 1 with g | g | g
                · have := Int.mul_le_mul_of_nonneg_left (show q ≤ 0 by omega) (show 0 ≤ (2 : Int) ^ j by omega)
                  omega
                · exact g
                · have := Int.mul_le_mul_of_nonneg_left (show 2 ≤ q by omega) (show 0 ≤ (2 : Int) ^ j by omega)
                  omega
              rw [this, Int.mul_one]
            rw [Int.add_emod, h13, Int.emod_eq_of_lt (show 0 ≤ (2 : Int) ^ j by omega) (by omega), show (2 : Int) ^ j + 2 ^ j = 2 ^ (j + 1) by omega]
            exact Int.emod_self
          have := ih (j + 1) l high (low + 2 ^ j) (by omega) h8 hm2 (by omega) h1
          simp only [List.length_cons]
          omega
theorem few {l : List S29} {high low : Int} (h : Tiles high low l) (h0 : 0 ≤ low) (h1 : high ≤ 65535) : l.length ≤ 32 :=
  few_up 16 0 l high low rfl h (by rw [Int.pow_zero]; omega) h0 h1

/-! ### The law. -/
theorem few_at {xs l : List S29} {b : S29} {i : Nat} (h : xs.drop i = b :: l) : rd_T29 xs (i : Int) = b ∧ xs.drop (i + 1) = l ∧ i < xs.length := by
  have hi : i < xs.length := by
    rcases Nat.lt_or_ge i xs.length with c | c
    · exact c
    · rw [List.drop_eq_nil_of_le c] at h; cases h
  have e := List.drop_eq_getElem_cons hi
  rw [h] at e
  injection e with e1 e2
  refine ⟨?_, e2.symm, hi⟩
  unfold rd_T29
  rw [Int.toNat_natCast, List.getD_eq_getElem?_getD, List.getElem?_eq_getElem hi, Option.getD_some]
  exact e1.symm

theorem few_shr {x : Int} {j : Nat} (h : j ≤ 16) : shr .u16 x (j : Int) = x / 2 ^ j := by
  unfold shr
  rw [Int.toNat_natCast, Nat.min_eq_left (by have : IntKind.u16.bits = 16 := rfl; omega)]

theorem few_in {p at_ : Int} {j : Nat} (hm : at_ % 2 ^ j = 0) : p / 2 ^ j = at_ / 2 ^ j ↔ at_ ≤ p ∧ p < at_ + 2 ^ j := by
  have hp := two_pow_pos j
  have e1 := Int.ediv_mul_add_emod at_ (2 ^ j)
  have e2 := Int.ediv_mul_add_emod p (2 ^ j)
  have e3 := Int.emod_nonneg p (show (2 : Int) ^ j ≠ 0 by omega)
  have e4 := Int.emod_lt_of_pos p hp
  constructor
  · intro h
    rw [h] at e2
    omega
  · rintro ⟨h1, h2⟩
    have h3 : at_ / 2 ^ j ≤ p / 2 ^ j := Int.ediv_le_ediv hp h1
    have h4 : p / 2 ^ j < at_ / 2 ^ j + 1 := by
      rw [Int.ediv_lt_iff_lt_mul hp, Int.add_mul, Int.one_mul]
      omega
    omega

theorem few_loop (p low high : Int) (hp0 : 0 ≤ p) (hp1 : p ≤ 65535) (h0 : 0 ≤ low) (h1 : high ≤ 65535) (full : List S29) (hf : full.length ≤ 32) : ∀ (l : List S29) (k i : Nat) (n at_ : Int), full.drop i = l → Tiles high at_ l → low ≤ at_ → (at_ ≤ high + 1 ∨ at_ = low) →
    n = (if low ≤ p ∧ p < at_ then 1 else 0) → l.length + 3000002 ≤ k → crossbucklaw03_CidrFew.l0 k p full n full (full.length : Int) (i : Int) low high = some true := by
  intro l
  induction l with
  | nil =>
    intro k i n at_ hd ht hl ha hn hk
    obtain ⟨k, rfl⟩ : ∃ m, k = m + 1 := ⟨k - 1, by omega⟩
    have hi : full.length ≤ i := List.drop_eq_nil_iff.1 hd
    have ht' : high < at_ := ht
    rw [crossbucklaw03_CidrFew.l0, if_neg (by omega), awake03 (by omega)]
    simp only [Option.bind_some]
    rw [if_pos trivial, if_pos (by omega), in_eq]
    simp only [Option.bind_some]
    have e : (n == 1) = (decide (low ≤ p) && decide (p ≤ high)) := by
      rw [Bool.eq_iff_iff, beq_iff_eq, Bool.and_eq_true, decide_eq_true_iff, decide_eq_true_iff, hn]
      split <;> omega
    rw [e, if_pos (by simp), hn]
    split <;> rfl
  | cons b l ih =>
    intro k i n at_ hd ht hl ha hn hk
    obtain ⟨k, rfl⟩ : ∃ m, k = m + 1 := ⟨k - 1, by omega⟩
    obtain ⟨e1, e2, hi⟩ := few_at hd
    obtain ⟨j, g1, g2, g3, g4, g5, g6, g7⟩ := ht
    have hp := two_pow_pos j
    have hlen : l.length + 3000002 ≤ k := by simp only [List.length_cons] at hk; omega
    rw [crossbucklaw03_CidrFew.l0, if_pos (by omega), if_pos (by omega), if_pos (by omega), e1]
    have hj : wrap64 (16 - b.f1) = (j : Int) := by rw [g3]; rw [wrap64_id _ (by omega) (by omega)]; omega
    rw [hj]
    clear hj
    rw [if_pos (by omega), few_shr g1, few_shr g1, g2]
    have hnx : wrap64 ((i : Int) + 1) = ((i + 1 : Nat) : Int) := by rw [wrap64_id _ (by omega) (by omega)]; rfl
    rw [hnx]
    clear hnx
    have hn2 : 0 ≤ n ∧ n ≤ 1 := by rw [hn]; split <;> omega
    by_cases c : p / 2 ^ j = at_ / 2 ^ j
    · have hin := (few_in g4).1 c
      rw [if_pos c]
      exact ih k (i + 1) _ (at_ + 2 ^ j) e2 g7 (by omega) (.inl (by omega)) (by rw [wrap64_id _ (by omega) (by omega), hn, if_neg (by omega), if_pos (by omega)]; rfl) hlen
    · have hin : ¬ (at_ ≤ p ∧ p < at_ + 2 ^ j) := fun h => c ((few_in g4).2 h)
      have hb : ¬ b.f1 = 0 := by
        intro z
        obtain rfl : j = 16 := by omega
        have e : (2 : Int) ^ 16 = 65536 := rfl
        rw [e] at g4 g5 hin
        omega
      rw [if_neg c, if_neg hb]
      exact ih k (i + 1) _ (at_ + 2 ^ j) e2 g7 (by omega) (.inl (by omega)) (by
        rw [hn]
        by_cases d : low ≤ p ∧ p < at_
        · rw [if_pos d, if_pos (by omega)]
        · rw [if_neg d, if_neg (by omega)]) hlen

theorem few_one {p : Int} {l : List S29} (h : Tiles p p l) : l = [⟨p, 16⟩] := by
  cases l with
  | nil => exact absurd h (by show ¬ p < p; omega)
  | cons b l =>
    obtain ⟨j, g1, g2, g3, g4, g5, g6, g7⟩ := h
    have hj : j = 0 := by
      cases j with
      | zero => rfl
      | succ j =>
        have e : (2 : Int) ^ (j + 1) = 2 ^ j * 2 := Int.pow_succ ..
        have := two_pow_pos j
        omega
    subst hj
    cases l with
    | nil =>
      obtain ⟨x, y⟩ := b
      simp only at g2 g3
      subst g2
      rw [g3]; rfl
    | cons b l =>
      obtain ⟨j, _, _, _, _, h5, _⟩ := g7
      have := two_pow_pos j
      rw [Int.pow_zero] at h5
      omega
theorem few_all {l : List S29} (h : Tiles 65535 0 l) : l = [⟨0, 0⟩] := by
  have e : (2 : Int) ^ 16 = 65536 := rfl
  cases l with
  | nil => exact absurd h (by show ¬ (65535 : Int) < 0; omega)
  | cons b l =>
    obtain ⟨j, g1, g2, g3, g4, g5, g6, g7⟩ := h
    have hj : j = 16 := by
      rcases Nat.lt_or_ge j 16 with d | d
      · exfalso
        apply g6
        have := two_pow_le (i := j + 1) (j := 16) d
        rw [e] at this
        exact ⟨Int.zero_emod _, by omega⟩
      · omega
    subst hj
    cases l with
    | nil =>
      obtain ⟨x, y⟩ := b
      simp only at g2 g3
      subst g2
      rw [g3]; rfl
    | cons b l =>
      obtain ⟨j, _, _, _, _, h5, _⟩ := g7
      have := two_pow_pos j
      rw [e] at h5
      omega

theorem few_core {p low high : Int} (hp0 : 0 ≤ p) (hp1 : p ≤ 65535) (h0 : 0 ≤ low) (h1 : low ≤ 65535) (h2 : 0 ≤ high) (h3 : high ≤ 65535) : ∃ k, crossbucklaw03_CidrFew.f k p low high = some true := by
  obtain ⟨l1, t1, e1⟩ := blocks_eq hp0 hp1 hp0 hp1
  obtain ⟨l2, t2, e2⟩ := blocks_eq (low := 0) (high := 65535) (by omega) (by omega) (by omega) (by omega)
  obtain ⟨l, t, e⟩ := blocks_eq h0 h1 h2 h3
  obtain rfl := few_one t1
  obtain rfl := few_all t2
  have key : ∀ K, 3000100 ≤ K → crossbucklaw03_CidrFew.f (K + 1) p low high = some true := by
    intro K hK
    unfold crossbucklaw03_CidrFew.f
    rw [e1 _ (by omega), e2 _ (by omega)]
    simp only [Option.bind_some]
    rw [if_pos (by simp), if_pos (by simp), if_neg (by simp [rd_T29]), if_pos (by simp), if_pos (by simp), crossbucklaw03_CidrFew.j0, if_neg (by simp [rd_T29]), e _ (by omega)]
    simp only [Option.bind_some]
    have hf := few t h0 h3
    exact few_loop p low high hp0 hp1 h0 h3 l hf l K 0 0 low rfl t (by omega) (.inr rfl) (by rw [if_neg (by omega)]) (by omega)
  exact ⟨_, key 3000100 (Nat.le_refl _)⟩

theorem few_u16 {a : Int} (h : (Lit.int .u16 a).wf = true) : 0 ≤ a ∧ a ≤ 65535 := by
  simp [Lit.wf, IntKind.min, IntKind.max, IntKind.signed, IntKind.bits] at h
  exact ⟨by omega, by omega⟩
theorem CidrFew (p low high : Int) (w0 : (Lit.int .u16 p).wf = true) (w1 : (Lit.int .u16 low).wf = true) (w2 : (Lit.int .u16 high).wf = true) : ∃ k, crossbucklaw03_CidrFew.f k p low high = some true :=
  few_core (few_u16 w0).1 (few_u16 w0).2 (few_u16 w1).1 (few_u16 w1).2 (few_u16 w2).1 (few_u16 w2).2
end Go.Proofs.Ytbnjbjjbfbbdcaa.Pure
