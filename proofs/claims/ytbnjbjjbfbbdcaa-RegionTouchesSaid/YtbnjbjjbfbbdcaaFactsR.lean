/- Plain facts on regions: how many there are, of which one an address is, a region's prefix, in numbers. No condition of its own. -/
import Derived.Test.YtbnjbjjbfbbdcaaFactsA
import Derived.Test.YtbnjbjjbfbbdcaaPAllx12
import Derived.Test.YtbnjbjjbfbbdcaaPAllx16
import Derived.Test.YtbnjbjjbfbbdcaaPAllx4
import Derived.Test.YtbnjbjjbfbbdcaaPAllx5
import Derived.Test.YtbnjbjjbfbbdcaaPAllx6
import Derived.Test.YtbnjbjjbfbbdcaaPAllx7
import Derived.Test.YtbnjbjjbfbbdcaaPAllx9
namespace Go.Proofs.Ytbnjbjjbfbbdcaa.Facts
open Go Go.RowKit Go.Proofs.Ytbnjbjjbfbbdcaa.PAll Go.Proofs.YtbnjbjjbfbbdcaaW.PrintWords Go.Proofs.YtbnjbjjbfbbdcaaW.PrintLast Go.Proofs.YtbnjbjjbfbbdcaaW.PrintMore Go.Proofs.Ytbnjbjjbfbbdcaa.Bits

def okS (s : Int) : Prop := 0 ≤ s ∧ s ≤ 3
instance (s : Int) : Decidable (okS s) := inferInstanceAs (Decidable (0 ≤ s ∧ s ≤ 3))
/-- How many regions there are. -/
def cnt (s : Int) : Int := if s = 0 then 1 else if s = 1 then 2 else if s = 2 then 4 else if s = 3 then 8 else 0
theorem cnt_pos {s : Int} (h : okS s) : 0 < cnt s := by
  obtain ⟨h0, h1⟩ := h
  unfold cnt; repeat' split <;> try omega
theorem cnt_zero {s : Int} (h : ¬ okS s) : cnt s = 0 := by
  unfold okS at h
  unfold cnt; repeat' split <;> try omega
theorem cnt_le (s : Int) : 0 ≤ cnt s ∧ cnt s ≤ 8 := by unfold cnt; repeat' split <;> try omega
theorem cnt_sz {s : Int} (h : okS s) : cnt s * sz s = 4294967296 := by
  obtain ⟨h0, h1⟩ := h
  have : s = 0 ∨ s = 1 ∨ s = 2 ∨ s = 3 := by omega
  rcases this with rfl | rfl | rfl | rfl <;> decide

theorem ref16Count_eq (s : Int) : crossbuckref16_Count.f s = some (cnt s) := by unfold crossbuckref16_Count.f cnt; (repeat' split) <;> rfl
theorem right16_eq (s : Int) : region_Right.f s = some (decide (okS s)) := by
  unfold region_Right.f okS
  by_cases h : s ≥ 0
  · rw [if_pos h]; simp [h]
  · rw [if_neg h]; simp [h]
theorem count_eq (s : Int) : region_Count.f s = some (cnt s) := by
  unfold region_Count.f
  rw [right16_eq]
  simp only [Option.bind_some]
  by_cases h : okS s
  · obtain ⟨h0, h1⟩ := h
    have : s = 0 ∨ s = 1 ∨ s = 2 ∨ s = 3 := by omega
    rcases this with rfl | rfl | rfl | rfl <;> rfl
  · rw [if_neg (by simpa using h), cnt_zero h]
/-- The region of an address. -/
def idx (s a : Int) : Int := if 0 ≤ s ∧ s ≤ 3 then a / sz s else 0
theorem idx_ok {s : Int} (h : okS s) (a : Int) : idx s a = a / sz s := if_pos h
theorem idx_bd {s a : Int} (h : okS s) (h0 : 0 ≤ a) (h1 : a < 4294967296) : 0 ≤ a / sz s ∧ a / sz s < cnt s := by
  have hs := sz_pos s
  have hc := cnt_sz h
  exact ⟨Int.ediv_nonneg h0 (by omega), Int.ediv_lt_of_lt_mul hs (by omega)⟩
theorem index_eq {s a : Int} (h0 : 0 ≤ a) (h1 : a < 4294967296) : region_Index.f s a = some (idx s a) := by
  unfold region_Index.f
  rw [right16_eq]
  simp only [Option.bind_some]
  by_cases h : okS s
  · have h' := h
    obtain ⟨g0, g1⟩ := h'
    have hs := sz_pos s
    have hd := div_bd h0 hs
    have e : wrap64 (32 - s) = 32 - s := wrap64_id _ (by omega) (by omega)
    have e3 : min (32 - s).toNat IntKind.u64.bits = (32 - s).toNat := by
      have : IntKind.u64.bits = 64 := rfl
      omega
    rw [if_pos (by simpa using h), e, if_pos (by omega), idx_ok h]
    unfold shr
    rw [e3, wrap_u64_id _ h0 (by omega)]
    unfold sz at hd ⊢
    rw [wrap64_id _ (by omega) (by omega)]
  · rw [if_neg (by simpa using h)]; unfold idx; unfold okS at h; rw [if_neg h]
theorem ref16Index_eq {s a : Int} (h0 : 0 ≤ a) (h1 : a < 4294967296) : crossbuckref16_Index.f s a = some (idx s a) := by
  unfold crossbuckref16_Index.f crossbuckref16_Size.f
  rw [ref16Count_eq]
  simp only [Option.bind_some]
  by_cases h : okS s
  · have hc := cnt_pos h
    have hl := cnt_le s
    have hm := cnt_sz h
    have hs := sz_pos s
    have hd := div_bd h0 hs
    have e : (4294967296 : Int) / cnt s = sz s := by rw [← hm]; exact Int.mul_ediv_cancel_left _ (by omega)
    have hsl := sz_le h.1
    rw [if_neg (by omega), wrap_u64_id (cnt s) (by omega) (by omega), if_neg (by omega)]
    simp only [Option.bind_some]
    rw [e, wrap_u64_id (sz s) (by omega) (by omega), if_neg (by omega), wrap_u64_id a h0 (by omega), tdiv_nonneg' h0, wrap_u64_id _ (by omega) (by omega), wrap64_id _ (by omega) (by omega), idx_ok h]
  · rw [cnt_zero h, if_pos rfl]; unfold idx; unfold okS at h; rw [if_neg h]

theorem prefix_out {s i : Int} (h : i < 0 ∨ cnt s ≤ i) : region_Prefix.f s i = some (0, 0) := by
  unfold region_Prefix.f
  by_cases c : i < 0
  · rw [if_pos c]
  · rw [if_neg c, count_eq]
    simp only [Option.bind_some]
    rw [if_pos (by omega)]
theorem prefix_in {s i : Int} (h0 : 0 ≤ i) (h1 : i < cnt s) : region_Prefix.f s i = some (i * sz s, s) := by
  have h : okS s := by
    by_cases c : okS s
    · exact c
    · rw [cnt_zero c] at h1; omega
  unfold region_Prefix.f
  rw [if_neg (by omega), count_eq]
  simp only [Option.bind_some]
  have h' := h
  obtain ⟨g0, g1⟩ := h'
  have hs := sz_pos s
  have hm := cnt_sz h
  have hb : i * sz s < 4294967296 := by
    have := Int.mul_lt_mul_of_pos_right h1 hs
    omega
  have hb0 : 0 ≤ i * sz s := Int.mul_nonneg h0 (by omega)
  have hl := cnt_le s
  have e : wrap64 (32 - s) = 32 - s := wrap64_id _ (by omega) (by omega)
  have e3 : min (32 - s).toNat IntKind.u64.bits = (32 - s).toNat := by
    have : IntKind.u64.bits = 64 := rfl
    omega
  rw [if_neg (by omega), e, if_pos (by omega)]
  unfold shl
  rw [e3, wrap_u64_id i h0 (by omega)]
  have e4 : i * 2 ^ (32 - s).toNat = i * sz s := rfl
  rw [e4, wrap_u64_id _ hb0 (by omega), Int.emod_eq_of_lt hb0 hb, of_eq s hb0 hb]
  simp only [Option.bind_some]
  rw [clamp_id (by omega) (by omega), Int.mul_ediv_cancel _ (by omega)]
theorem awake16 : crossbucklaw16_awake.f = some true := by
  unfold crossbucklaw16_awake.f
  rw [prefix_in (s := 1) (i := 0) (by decide) (by decide)]
  simp only [Option.bind_some]
  rw [if_pos (by decide), prefix_in (s := 1) (i := 1) (by decide) (by decide)]
  simp only [Option.bind_some]
  rw [if_pos (by decide), count_eq]
  decide
/-- An address is of a region's prefix just if the region is its own. -/
theorem has_idx (s i a : Int) : hasB (i * sz s) s a = (i == a / sz s) := by
  unfold hasB
  rw [Int.mul_ediv_cancel _ (by have := sz_pos s; omega), Bool.eq_iff_iff, beq_iff_eq, beq_iff_eq]
  exact eq_comm
end Go.Proofs.Ytbnjbjjbfbbdcaa.Facts
