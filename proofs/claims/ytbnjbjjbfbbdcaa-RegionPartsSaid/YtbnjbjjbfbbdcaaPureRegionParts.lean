/- crossbucklaw16.RegionParts answers true for every shift, address and place: as numbers. No condition of its own. -/
import Derived.Test.YtbnjbjjbfbbdcaaFactsR
import Derived.Test.YtbnjbjjbfbbdcaaPAllx17
namespace Go.Proofs.Ytbnjbjjbfbbdcaa.Pure
open Go.RowKit Go.Proofs.Ytbnjbjjbfbbdcaa.PAll Go.Proofs.YtbnjbjjbfbbdcaaW.PrintWords Go.Proofs.YtbnjbjjbfbbdcaaW.PrintLast Go.Proofs.YtbnjbjjbfbbdcaaW.PrintMore Go.Proofs.Ytbnjbjjbfbbdcaa.Bits Go.Proofs.Ytbnjbjjbfbbdcaa.Facts

theorem u32_bd {a : Int} (h : (Lit.int .u32 a).wf = true) : 0 ≤ a ∧ a < 4294967296 := by
  simp [Lit.wf, IntKind.min, IntKind.max, IntKind.signed, IntKind.bits] at h
  exact ⟨by omega, by omega⟩

theorem parts_end (s a i : Int) (k : Nat) : crossbucklaw16_RegionParts.l0 (k + 1) s a i (cnt s) (cnt s) (cnt s) = some true := by
  simp only [crossbucklaw16_RegionParts.l0]
  rw [if_neg (by omega), awake16]
  simp only [Option.bind_some]
  rw [if_pos trivial]
  by_cases h0 : i ≥ 0
  · rw [if_pos h0]
    by_cases h1 : i < cnt s
    · rw [if_pos h1]
    · rw [if_neg h1, prefix_out (by omega)]; rfl
  · rw [if_neg h0, prefix_out (by omega)]; rfl

theorem parts_loop (s a i : Int) (h : okS s) (h0 : 0 ≤ a) (h1 : a < 4294967296) (d : Nat) : ∀ (k : Nat) (x : Int), 0 ≤ x → x + d = cnt s → d + 40 < k →
    crossbucklaw16_RegionParts.l0 k s a i (cnt s) (cnt s) x = some true := by
  induction d with
  | zero =>
    intro k x _ hx hk
    obtain ⟨k, rfl⟩ : ∃ m, k = m + 1 := ⟨k - 1, by omega⟩
    obtain rfl : x = cnt s := by omega
    exact parts_end s a i k
  | succ d ih =>
    intro k x hx0 hx hk
    obtain ⟨k, rfl⟩ : ∃ m, k = m + 1 := ⟨k - 1, by omega⟩
    have hl := cnt_le s
    have hm := cnt_sz h
    have hs := sz_pos s
    have hb : x * sz s < 4294967296 := by
      have := Int.mul_lt_mul_of_pos_right (show x < cnt s by omega) hs
      omega
    have hb0 : 0 ≤ x * sz s := Int.mul_nonneg hx0 (by omega)
    have hr : rightB (x * sz s) s = true := rightB_iff.2 ⟨h.1, by have := h.2; omega, Int.mul_emod_left ..⟩
    simp only [crossbucklaw16_RegionParts.l0]
    rw [if_pos (by omega), prefix_in hx0 (by omega)]
    simp only [Option.bind_some]
    rw [refRight_eq (by omega) hb0 hb]
    simp only [Option.bind_some]
    rw [if_pos hr, refHas_eq (by omega) h.1 (by have := h.2; omega) hb0 hb h0 h1]
    simp only [Option.bind_some]
    rw [index_eq h0 h1]
    simp only [Option.bind_some]
    rw [has_idx, idx_ok h, if_neg (by simp), wrap64_id _ (by omega) (by omega)]
    exact ih k (x + 1) (by omega) (by omega) (by omega)

theorem RegionParts : crossbucklaw16_RegionParts.Pure := by
  intro s a i _ wa _
  obtain ⟨h0, h1⟩ := u32_bd wa
  refine ⟨100, ?_⟩
  have hl := cnt_le s
  have hloop : crossbucklaw16_RegionParts.l0 99 s a i (cnt s) (cnt s) 0 = some true := by
    by_cases h : okS s
    · exact parts_loop s a i h h0 h1 (cnt s).toNat 99 0 (by omega) (by omega) (by omega)
    · have := parts_end s a i 98
      rw [cnt_zero h] at this ⊢
      exact this
  unfold crossbucklaw16_RegionParts.f
  rw [ref16Count_eq, count_eq]
  simp only [Option.bind_some]
  rw [if_pos trivial, right16_eq]
  simp only [Option.bind_some]
  have e : (decide (okS s) != decide (cnt s > 0)) = false := by
    by_cases h : okS s
    · have := cnt_pos h
      simp [h, this]
    · simp [h, cnt_zero h]
  rw [e, if_neg (by simp), index_eq h0 h1, ref16Index_eq h0 h1]
  simp only [Option.bind_some, crossbucklaw16_RegionParts.j0]
  rw [if_neg (by simp)]
  exact hloop
end Go.Proofs.Ytbnjbjjbfbbdcaa.Pure
