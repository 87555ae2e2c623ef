/- crossbucklaw03.CidrBlocks answers true for every range and port: as numbers. No condition of its own. -/
import Derived.Test.YtbnjbjjbfbbdcaaFactsB
import Derived.Test.YtbnjbjjbfbbdcaaPAllx37
namespace Go.Proofs.Ytbnjbjjbfbbdcaa.Pure
open Go Go.RowKit Go.Proofs.Ytbnjbjjbfbbdcaa.PAll Go.Proofs.YtbnjbjjbfbbdcaaW.PrintWords Go.Proofs.YtbnjbjjbfbbdcaaW.PrintLast Go.Proofs.YtbnjbjjbfbbdcaaW.PrintMore Go.Proofs.Ytbnjbjjbfbbdcaa.Bits Go.Proofs.Ytbnjbjjbfbbdcaa.Facts

theorem blk_at {xs l : List S29} {b : S29} {i : Nat} (h : xs.drop i = b :: l) : rd_T29 xs (i : Int) = b ∧ xs.drop (i + 1) = l ∧ i < xs.length := by
  have hi : i < xs.length := by
    rcases Nat.lt_or_ge i xs.length with c | c
    · exact c
    · rw [List.drop_eq_nil_of_le c] at h; cases h
  have e := List.drop_eq_getElem_cons hi
  rw [h] at e
  injection e with e1 e2
  refine ⟨?_, e2.symm, hi⟩
  unfold rd_T29
  rw [Int.toNat_natCast, List.getD_eq_getElem?_getD, List.getElem?_eq_getElem hi, Option.getD_some]
  exact e1.symm

theorem blk_shl {j : Nat} (h : j ≤ 16) : shl .i64 1 (j : Int) = 2 ^ j := by
  have hp := two_pow_pos j
  have hb := pow16 h
  unfold shl
  rw [Int.toNat_natCast, Nat.min_eq_left (by have : IntKind.i64.bits = 64 := rfl; omega), Int.one_mul, IntKind.wrap_i64]
  omega

/-- What stands ahead of block i. -/
def Ahead (xs : List S29) (high : Int) (i : Nat) (at_ : Int) : Prop :=
  0 < i → ∃ j : Nat, j ≤ 16 ∧ (rd_T29 xs ((i - 1 : Nat) : Int)).f1 = 16 - j ∧ 0 ≤ (rd_T29 xs ((i - 1 : Nat) : Int)).f0 ∧ (rd_T29 xs ((i - 1 : Nat) : Int)).f0 + 2 ^ j = at_ ∧ ¬ Wide (rd_T29 xs ((i - 1 : Nat) : Int)).f0 high j

theorem blk_loop (low high : Int) (h1 : high ≤ 65535) (full : List S29) (hf : full.length ≤ 65536) : ∀ (l : List S29) (k i : Nat) (at_ : Int), full.drop i = l → Tiles high at_ l → 0 ≤ at_ → at_ ≤ 65536 →
    (low ≤ high → at_ ≤ high + 1) → Ahead full high i at_ → 2 * l.length + 3000002 ≤ k → 0 ≤ high → crossbucklaw03_CidrBlocks.l0 k full at_ full (full.length : Int) (i : Int) low high = some true := by
  intro l
  induction l with
  | nil =>
    intro k i at_ hd ht hl hl2 ha _ hk hh
    obtain ⟨k, rfl⟩ : ∃ m, k = m + 1 := ⟨k - 1, by omega⟩
    have hi : full.length ≤ i := List.drop_eq_nil_iff.1 hd
    have ht' : high < at_ := ht
    rw [crossbucklaw03_CidrBlocks.l0, if_neg (by omega), awake03 (by omega)]
    simp only [Option.bind_some]
    rw [if_pos trivial]
    by_cases c : low > high
    · rw [if_pos c]
    · rw [if_neg c, wrap64_id high (by omega) (by omega), wrap64_id _ (by omega) (by omega)]
      have : at_ = high + 1 := by omega
      simp [this]
  | cons b l ih =>
    intro k i at_ hd ht hl hl2 ha hah hk hh
    obtain ⟨k, rfl⟩ : ∃ m, k = m + 2 := ⟨k - 2, by omega⟩
    obtain ⟨e1, e2, hi⟩ := blk_at hd
    obtain ⟨j, g1, g2, g3, g4, g5, g6, g7⟩ := ht
    have hp := two_pow_pos j
    have hp16 := pow16 g1
    have hlen : 2 * l.length + 3000002 ≤ k := by simp only [List.length_cons] at hk; omega
    have hnext : crossbucklaw03_CidrBlocks.l0 k full (wrap64 (at_ + 2 ^ j)) full (full.length : Int) (wrap64 ((i : Int) + 1)) low high = some true := by
      rw [wrap64_id (at_ + _) (by omega) (by omega), wrap64_id _ (by omega) (by omega)]
      exact ih k (i + 1) (at_ + 2 ^ j) e2 g7 (by omega) (by omega) (fun _ => by omega) (fun _ => ⟨j, g1, by rw [show i + 1 - 1 = i from rfl, e1]; exact g3, by rw [show i + 1 - 1 = i from rfl, e1, g2]; exact hl, by rw [show i + 1 - 1 = i from rfl, e1, g2], by rw [show i + 1 - 1 = i from rfl, e1, g2]; exact g6⟩) hlen hh
    rw [crossbucklaw03_CidrBlocks.l0, if_pos (by omega), if_pos (by omega), if_pos (by omega), e1, if_neg (by omega), show decide (b.f1 > 16) = false from decide_eq_false (by omega), crossbucklaw03_CidrBlocks.j2, if_neg (by decide)]
    have hj : wrap64 (16 - b.f1) = (j : Int) := by rw [g3]; rw [wrap64_id _ (by omega) (by omega)]; omega
    rw [hj]
    clear hj
    rw [if_pos (by omega), g2, wrap64_id at_ (by omega) (by omega), if_pos rfl, blk_shl g1, if_neg (by omega), Int.tmod_eq_emod_of_nonneg hl, if_pos g4]
    by_cases c : (i : Int) > 0
    · obtain ⟨j', a1, a2, a3, a4, a5⟩ := hah (by omega)
      have hw : wrap64 ((i : Int) - 1) = ((i - 1 : Nat) : Int) := by rw [wrap64_id _ (by omega) (by omega)]; omega
      rw [if_pos c, hw]
      clear hw
      rw [if_pos (by omega), if_pos (by omega)]
      by_cases d : (rd_T29 full ((i - 1 : Nat) : Int)).f1 = b.f1
      · obtain rfl : j' = j := by omega
        rw [if_pos d]
        have e : (2 : Int) * 2 ^ j' = 2 ^ (j' + 1) := by rw [Int.pow_succ]; omega
        rw [e, wrap64_id ((2 : Int) ^ (j' + 1)) (by omega) (by omega), if_neg (by omega), wrap64_id (rd_T29 full ((i - 1 : Nat) : Int)).f0 (by omega) (by omega), Int.tmod_eq_emod_of_nonneg a3, if_neg (fun h => a5 ⟨h, by omega⟩)]
        exact hnext
      · rw [if_neg d]; exact hnext
    · rw [if_neg c]; exact hnext

theorem tiles_len {l : List S29} : ∀ {high low : Int}, Tiles high low l → low ≤ high + 1 → (l.length : Int) ≤ high + 1 - low := by
  induction l with
  | nil => intro high low _ h; simp; omega
  | cons b l ih =>
    intro high low ht _
    obtain ⟨j, g1, g2, g3, g4, g5, g6, g7⟩ := ht
    have hp := two_pow_pos j
    have := ih g7 (by omega)
    simp only [List.length_cons]
    omega
theorem tiles_nil {l : List S29} {high low : Int} (h : Tiles high low l) (hc : high < low) : l = [] := by
  cases l with
  | nil => rfl
  | cons b l =>
    obtain ⟨j, g1, g2, g3, g4, g5, g6, g7⟩ := h
    have hp := two_pow_pos j
    omega

theorem blk_core {low high p : Int} (h0 : 0 ≤ low) (h1 : low ≤ 65535) (h2 : 0 ≤ high) (h3 : high ≤ 65535) : ∃ k, crossbucklaw03_CidrBlocks.f k low high p = some true := by
  obtain ⟨l, t, e⟩ := blocks_eq h0 h1 h2 h3
  have hlen : l.length ≤ 65536 := by
    by_cases c : low ≤ high + 1
    · have := tiles_len t c; omega
    · rw [tiles_nil t (by omega)]; simp
  have hemp : low > high → ((l.length : Int) != 0) = false := by
    intro c
    rw [tiles_nil t (by omega)]; rfl
  have key : ∀ K, 3200000 ≤ K → crossbucklaw03_CidrBlocks.f (K + 1) low high p = some true := by
    intro K hK
    have hj : crossbucklaw03_CidrBlocks.j0 (K + 1) l false low high = some true := by
      rw [crossbucklaw03_CidrBlocks.j0, if_neg (by decide), wrap64_id _ (by omega) (by omega)]
      exact blk_loop low high h3 l hlen l K 0 low rfl t h0 (by omega) (fun h => by omega) (fun h => absurd h (Nat.lt_irrefl 0)) (by omega) h2
    unfold crossbucklaw03_CidrBlocks.f
    rw [e _ (by omega), in_eq]
    simp only [Option.bind_some]
    by_cases c : p ≥ low
    · rw [if_pos c, if_neg (by have : low ≤ p := c; simp [this])]
      by_cases d : low > high
      · rw [if_pos d, hemp d]; exact hj
      · rw [if_neg d]; exact hj
    · rw [if_neg c, if_neg (by have : ¬ low ≤ p := c; simp [this])]
      by_cases d : low > high
      · rw [if_pos d, hemp d]; exact hj
      · rw [if_neg d]; exact hj
  exact ⟨_, key 3200000 (Nat.le_refl _)⟩

theorem blk_u16 {a : Int} (h : (Lit.int .u16 a).wf = true) : 0 ≤ a ∧ a ≤ 65535 := by
  simp [Lit.wf, IntKind.min, IntKind.max, IntKind.signed, IntKind.bits] at h
  exact ⟨by omega, by omega⟩
theorem CidrBlocks (low high p : Int) (w0 : (Lit.int .u16 low).wf = true) (w1 : (Lit.int .u16 high).wf = true) (_ : (Lit.int .u16 p).wf = true) : ∃ k, crossbucklaw03_CidrBlocks.f k low high p = some true :=
  blk_core (blk_u16 w0).1 (blk_u16 w0).2 (blk_u16 w1).1 (blk_u16 w1).2
end Go.Proofs.Ytbnjbjjbfbbdcaa.Pure
