/- crossbucklaw16.RegionNests answers true for every shift and address: as numbers. No condition of its own. -/
import Derived.Test.YtbnjbjjbfbbdcaaFactsR
import Derived.Test.YtbnjbjjbfbbdcaaPAllx18
namespace Go.Proofs.Ytbnjbjjbfbbdcaa.Pure
open Go.RowKit Go.Proofs.Ytbnjbjjbfbbdcaa.PAll Go.Proofs.YtbnjbjjbfbbdcaaW.PrintWords Go.Proofs.YtbnjbjjbfbbdcaaW.PrintLast Go.Proofs.YtbnjbjjbfbbdcaaW.PrintMore Go.Proofs.Ytbnjbjjbfbbdcaa.Bits Go.Proofs.Ytbnjbjjbfbbdcaa.Facts

theorem nests_bd {a : Int} (h : (Lit.int .u32 a).wf = true) : 0 ≤ a ∧ a < 4294967296 := by
  simp [Lit.wf, IntKind.min, IntKind.max, IntKind.signed, IntKind.bits] at h
  exact ⟨by omega, by omega⟩
theorem nests_bd8 {a : Int} (h : (Lit.int .u8 a).wf = true) : 0 ≤ a ∧ a < 256 := by
  simp [Lit.wf, IntKind.min, IntKind.max, IntKind.signed, IntKind.bits] at h
  exact ⟨by omega, by omega⟩

theorem half_idx {s : Int} (h : okS s) (hp : 0 < s) (a : Int) : a / sz (s - 1) = a / sz s / 2 := by
  have e := sz_up (n := s - 1) (by have := h.2; omega)
  rw [show s - 1 + 1 = s from by omega] at e
  rw [e, Int.mul_comm, ← Int.ediv_ediv_of_nonneg (by have := sz_pos s; omega)]

theorem nests_end {s a : Int} (h : okS s) (h0 : 0 ≤ a) (h1 : a < 4294967296) (k : Nat) : crossbucklaw16_RegionNests.l0 (k + 1) a s (cnt s * sz s) (cnt s) (cnt s) = some true := by
  simp only [crossbucklaw16_RegionNests.l0]
  rw [if_neg (by omega), awake16]
  simp only [Option.bind_some]
  rw [if_pos trivial, if_pos (cnt_sz h)]
  by_cases z : s = 0
  · rw [if_pos z]
  · have h2 : okS (s - 1) := ⟨by have := h.1; omega, by have := h.2; omega⟩
    have hd := idx_bd h h0 h1
    have hl := cnt_le s
    rw [if_neg z, wrap64_id (s - 1) (by have := h.1; omega) (by have := h.2; omega), index_eq h0 h1, index_eq h0 h1]
    simp only [Option.bind_some]
    rw [idx_ok h, idx_ok h2, half_idx h (by have := h.1; omega), tdiv_nonneg' hd.1, wrap64_id _ (by omega) (by omega)]
    simp

theorem nests_loop {s a : Int} (h : okS s) (h0 : 0 ≤ a) (h1 : a < 4294967296) (d : Nat) : ∀ (k : Nat) (x : Int), 0 ≤ x → x + d = cnt s → 2 * d + 40 < k →
    crossbucklaw16_RegionNests.l0 k a s (x * sz s) (cnt s) x = some true := by
  induction d with
  | zero =>
    intro k x _ hx hk
    obtain ⟨k, rfl⟩ : ∃ m, k = m + 1 := ⟨k - 1, by omega⟩
    obtain rfl : x = cnt s := by omega
    exact nests_end h h0 h1 k
  | succ d ih =>
    intro k x hx0 hx hk
    obtain ⟨k, rfl⟩ : ∃ m, k = m + 2 := ⟨k - 2, by omega⟩
    have hl := cnt_le s
    have hm := cnt_sz h
    have hs := sz_pos s
    obtain ⟨g0, g1⟩ := id h
    have hsl := sz_le g0
    have hb : x * sz s + sz s ≤ 4294967296 := by
      have := Int.mul_le_mul_of_nonneg_right (show x + 1 ≤ cnt s by omega) (show 0 ≤ sz s by omega)
      rw [Int.add_mul] at this
      omega
    have hb0 : 0 ≤ x * sz s := Int.mul_nonneg hx0 (by omega)
    have hnext : crossbucklaw16_RegionNests.l0 k a s (IntKind.u64.wrap (x * sz s + shl .u64 1 (wrap64 (32 - s)))) (cnt s) (wrap64 (x + 1)) = some true := by
      have e : shl .u64 1 (wrap64 (32 - s)) = sz s := by
        rw [wrap64_id _ (by omega) (by omega)]
        unfold shl
        have e3 : min (32 - s).toNat IntKind.u64.bits = (32 - s).toNat := by
          have : IntKind.u64.bits = 64 := rfl
          omega
        rw [e3, Int.one_mul]
        exact wrap_u64_id _ (by unfold sz at hs; omega) (by unfold sz at hsl; omega)
      rw [e, wrap_u64_id _ (by omega) (by omega), wrap64_id _ (by omega) (by omega)]
      have e4 : x * sz s + sz s = (x + 1) * sz s := by rw [Int.add_mul, Int.one_mul]
      rw [e4]
      exact ih k (x + 1) (by omega) (by omega) (by omega)
    simp only [crossbucklaw16_RegionNests.l0]
    rw [if_pos (by omega), prefix_in hx0 (by omega)]
    simp only [Option.bind_some]
    rw [wrap_u64_id _ hb0 (by omega), if_pos rfl]
    simp only [crossbucklaw16_RegionNests.j1]
    rw [if_neg (by simp), if_pos (by rw [wrap64_id _ (by omega) (by omega)]; omega)]
    by_cases z : s > 0
    · have h2 : okS (s - 1) := ⟨by omega, by omega⟩
      rw [if_pos z, wrap64_id (s - 1) (by omega) (by omega), index_eq hb0 (by omega)]
      simp only [Option.bind_some]
      rw [idx_ok h2, half_idx h z, Int.mul_ediv_cancel _ (by omega), tdiv_nonneg' hx0, if_pos (wrap64_id _ (by omega) (by omega)).symm]
      exact hnext
    · rw [if_neg z]
      exact hnext

theorem RegionNests : crossbucklaw16_RegionNests.Pure := by
  intro b a wb wa
  obtain ⟨h0, h1⟩ := nests_bd wa
  obtain ⟨g0, g1⟩ := nests_bd8 wb
  refine ⟨100, ?_⟩
  have e : wrap64 (Int.tmod b 4) = b % 4 := by rw [tmod_nonneg' g0]; exact wrap64_id _ (by omega) (by omega)
  have h : okS (b % 4) := ⟨by omega, by omega⟩
  have hl := cnt_le (b % 4)
  unfold crossbucklaw16_RegionNests.f
  rw [e, count_eq]
  simp only [Option.bind_some]
  have := nests_loop h h0 h1 (cnt (b % 4)).toNat 100 0 (by omega) (by omega) (by omega)
  rw [Int.zero_mul] at this
  exact this
end Go.Proofs.Ytbnjbjjbfbbdcaa.Pure
