/- Headers as rows of 104 bits: to the row and back, and the order off the row. No condition of its own. -/
import Derived.Test.YtloclimoffhbhaaDoorHdr
import Derived.Test.YtloclimoffhbhaaDoorPAllx102
import Derived.Test.YtloclimoffhbhaaDoorPAllx112
namespace Go.Proofs.YtloclimoffhbhaaDoor.Hdr
open Go Go.RowKit Go.Proofs.YtloclimoffhbhaaDoor.PAll Go.Proofs.YtloclimoffhbhaaDoorW.PrintWords Go.Proofs.YtloclimoffhbhaaDoorW.PrintLast Go.Proofs.YtloclimoffhbhaaDoorW.PrintMore Go.Proofs.YtloclimoffhbhaaDoor.Bits
set_option linter.unusedVariables false

/-- The bits of a field, the greatest ahead. -/
def bs (x : Int) : Nat → List Bool
  | 0 => []
  | n + 1 => fb x n :: bs x n
theorem bs_length (x : Int) : ∀ w, (bs x w).length = w
  | 0 => rfl
  | n + 1 => by rw [bs, List.length_cons, bs_length x n]
theorem bs_get (x : Int) : ∀ (w t : Nat), t < w → (bs x w)[t]? = some (fb x ((w - 1 - t : Nat) : Int))
  | 0, t, h => by omega
  | n + 1, 0, h => by rw [bs]; rfl
  | n + 1, t + 1, h => by
    rw [bs, List.getElem?_cons_succ, bs_get x n t (by omega), show n + 1 - 1 - (t + 1) = n - 1 - t by omega]
theorem fb_mod (x : Int) (h0 : 0 ≤ x) (n : Nat) (hn : n < 32) : (Int.tmod (shr .u32 x n) 2 == 1) = fb x n := by
  unfold shr fb
  obtain ⟨a, rfl⟩ := Int.eq_ofNat_of_zero_le h0
  have e : (32 : Nat) = IntKind.bits .u32 := rfl
  rw [Int.toNat_natCast, ← e, Nat.min_eq_left (by omega), Int.toNat_natCast, Nat.testBit_eq_decide_div_mod_eq]
  have e2 : ((a : Int) / 2 ^ n) = ((a / 2 ^ n : Nat) : Int) := by simp
  rw [e2, Int.tmod_eq_emod_of_nonneg (Int.natCast_nonneg _), Bool.eq_iff_iff, beq_iff_eq, decide_eq_true_eq]
  omega
theorem add_go (x : Int) (h0 : 0 ≤ x) (k : Nat) : ∀ (w : Nat) (l : List Bool), w ≤ 32 → l.length + w < 1000 → crossbuckref02_add.l0 (k + w + 1) l x ((w : Int) - 1) = some (l ++ bs x w)
  | 0, l, h, hl => by rw [crossbuckref02_add.l0, if_neg (by omega), bs, List.append_nil]
  | n + 1, l, h, hl => by
    have e : (((n + 1 : Nat) : Int) - 1) = (n : Int) := by omega
    rw [e, show k + (n + 1) + 1 = (k + n + 1) + 1 from rfl, crossbuckref02_add.l0, if_pos (by omega), if_pos (by omega), if_pos (by omega), fb_mod x h0 n (by omega), wrap64_id _ (by omega) (by omega),
      add_go x h0 k n (l ++ [fb x n]) (by omega) (by simp; omega), List.append_assoc]
    rfl
theorem add_eq (x : Int) (h0 : 0 ≤ x) (k w : Nat) (l : List Bool) (h : w ≤ 32) (hl : l.length + w < 1000) : crossbuckref02_add.f (k + w + 1) l x w = some (l ++ bs x w) := by
  unfold crossbuckref02_add.f
  rw [wrap64_id _ (by omega) (by omega)]
  exact add_go x h0 k w l h hl
def bl (x0 x1 x2 x3 x4 : Int) : List Bool := [] ++ bs x0 32 ++ bs x1 32 ++ bs x2 8 ++ bs x3 16 ++ bs x4 16
theorem bl_length (x0 x1 x2 x3 x4 : Int) : (bl x0 x1 x2 x3 x4).length = 104 := by simp [bl, bs_length]
theorem bits_eq (k : Nat) {x0 x1 x2 x3 x4 : Int} (v : V x0 x1 x2 x3 x4) : crossbuckref02_Bits.f (k + 33) x0 x1 x2 x3 x4 = some (bl x0 x1 x2 x3 x4) := by
  obtain ⟨a0, b0, a1, b1, a2, b2, a3, b3, a4, b4⟩ := v
  have e8 : (2 : Int) ^ 8 = 256 := rfl
  have e16 : (2 : Int) ^ 16 = 65536 := rfl
  rw [e8] at b2
  rw [e16] at b3 b4
  unfold crossbuckref02_Bits.f bl
  rw [Int.emod_eq_of_lt a2 (by omega), Int.emod_eq_of_lt a3 (by omega), Int.emod_eq_of_lt a4 (by omega)]
  have p0 := add_eq x0 a0 k 32 [] (by decide) (by decide)
  have p1 := add_eq x1 a1 k 32 ([] ++ bs x0 32) (by decide) (by simp [bs_length])
  have p2 := add_eq x2 a2 (k + 24) 8 ([] ++ bs x0 32 ++ bs x1 32) (by decide) (by simp [bs_length])
  have p3 := add_eq x3 a3 (k + 16) 16 ([] ++ bs x0 32 ++ bs x1 32 ++ bs x2 8) (by decide) (by simp [bs_length])
  have p4 := add_eq x4 a4 (k + 16) 16 ([] ++ bs x0 32 ++ bs x1 32 ++ bs x2 8 ++ bs x3 16) (by decide) (by simp [bs_length])
  simp only [Nat.add_assoc, Nat.reduceAdd] at p0 p1 p2 p3 p4
  erw [p0, Option.bind_some, p1, Option.bind_some, p2, Option.bind_some, p3, Option.bind_some, p4, Option.bind_some]
theorem bl_get (x0 x1 x2 x3 x4 : Int) (j : Nat) (h : j < 104) : (bl x0 x1 x2 x3 x4)[j]? = some (bitAt x0 x1 x2 x3 x4 j) := by
  unfold bl bitAt
  rw [if_neg (by omega), if_neg (by omega)]
  by_cases c4 : j < 88
  · rw [List.getElem?_append_left (by simp [bs_length]; omega)]
    by_cases c3 : j < 72
    · rw [List.getElem?_append_left (by simp [bs_length]; omega)]
      by_cases c2 : j < 64
      · rw [List.getElem?_append_left (by simp [bs_length]; omega)]
        by_cases c1 : j < 32
        · rw [List.getElem?_append_left (by simp [bs_length]; omega), List.nil_append, bs_get x0 32 j c1, if_pos (by omega)]
          congr 2; omega
        · rw [List.getElem?_append_right (by simp [bs_length]; omega), if_neg (by omega), if_pos (by omega), bs_get x1 32 _ (by simp [bs_length]; omega)]
          congr 2; simp [bs_length]; omega
      · rw [List.getElem?_append_right (by simp [bs_length]; omega), if_neg (by omega), if_neg (by omega), if_pos (by omega), bs_get x2 8 _ (by simp [bs_length]; omega)]
        congr 2; simp [bs_length]; omega
    · rw [List.getElem?_append_right (by simp [bs_length]; omega), if_neg (by omega), if_neg (by omega), if_neg (by omega), if_pos (by omega), bs_get x3 16 _ (by simp [bs_length]; omega)]
      congr 2; simp [bs_length]; omega
  · rw [List.getElem?_append_right (by simp [bs_length]; omega), if_neg (by omega), if_neg (by omega), if_neg (by omega), if_neg (by omega), bs_get x4 16 _ (by simp [bs_length]; omega)]
    congr 2; simp [bs_length]; omega

/-! ### And back -/
theorem half (x d : Nat) : x / 2 ^ d = x / 2 ^ (d + 1) * 2 + (if x.testBit d then 1 else 0) := by
  rw [Nat.testBit_eq_decide_div_mod_eq, Nat.pow_succ, ← Nat.div_div_eq_div_mul]
  generalize x / 2 ^ d = y
  by_cases h : y % 2 = 1
  · simp [h]; omega
  · simp [h]; omega
theorem number_go (x w s : Nat) (hw : w ≤ 32) (hs : s ≤ 200) (hx : x < 2 ^ w) (L : List Bool) (k : Nat) (hL : ∀ t, t < w → L[s + t]? = some (fb (x : Int) ((w - 1 - t : Nat) : Int))) :
    ∀ (d t : Nat), t + d = w → crossbuckref02_number.l0 (k + d + 1) L s w ((x / 2 ^ d : Nat) : Int) t = some (x : Int) := by
  intro d
  induction d with
  | zero =>
    intro t h
    rw [crossbuckref02_number.l0, if_neg (by omega), Nat.pow_zero, Nat.div_one]
  | succ d ih =>
    intro t h
    have hg := hL t (by omega)
    have hlt : s + t < L.length := by
      rcases Nat.lt_or_ge (s + t) L.length with g | g
      · exact g
      · rw [List.getElem?_eq_none g] at hg; cases hg
    rw [show w - 1 - t = d by omega] at hg
    have hr : rdOf false L (((s + t : Nat)) : Int) = x.testBit d := by
      unfold rdOf
      have : fb (x : Int) (d : Int) = x.testBit d := by unfold fb; simp
      rw [← this, Int.toNat_natCast]
      simp only [List.getD, hg]
      rfl
    have hx2 : x / 2 ^ d < 4294967296 := Nat.lt_of_le_of_lt (Nat.div_le_self _ _) (Nat.lt_of_lt_of_le hx (by have := Nat.pow_le_pow_right (n := 2) (by decide) hw; have e : (2 : Nat) ^ 32 = 4294967296 := rfl; omega))
    have hh := half x d
    have ih' := ih (t + 1) (by omega)
    have ew : wrap64 ((s : Int) + (t : Int)) = ((s + t : Nat) : Int) := by rw [wrap64_id _ (by omega) (by omega)]; simp
    have ew2 : wrap64 ((t : Int) + 1) = ((t + 1 : Nat) : Int) := by rw [wrap64_id _ (by omega) (by omega)]; simp
    rw [show k + (d + 1) + 1 = (k + d + 1) + 1 from rfl, crossbuckref02_number.l0, if_pos (by clear ew ew2; omega), ew, if_pos (by clear ew ew2; omega), if_pos (by clear ew ew2; omega), hr, ew2]
    generalize x / 2 ^ (d + 1) = y at hh ⊢
    clear ew ew2
    by_cases hb : x.testBit d
    · rw [if_pos hb]
      rw [if_pos hb] at hh
      rw [Int.emod_eq_of_lt (by omega) (by omega), show (y : Int) * 2 + 1 = ((x / 2 ^ d : Nat) : Int) by omega]
      exact ih'
    · rw [if_neg hb]
      rw [if_neg hb] at hh
      rw [Int.emod_eq_of_lt (by omega) (by omega), show (y : Int) * 2 = ((x / 2 ^ d : Nat) : Int) by omega]
      exact ih'
theorem number_eq (x : Int) (w s : Nat) (hw : w ≤ 32) (hs : s ≤ 200) (h0 : 0 ≤ x) (hx : x < 2 ^ w) (L : List Bool) (k : Nat) (hL : ∀ t, t < w → L[s + t]? = some (fb x ((w - 1 - t : Nat) : Int))) :
    crossbuckref02_number.f (k + w + 1) L s w = some x := by
  obtain ⟨n, rfl⟩ := Int.eq_ofNat_of_zero_le h0
  have hn : n < 2 ^ w := by exact_mod_cast hx
  unfold crossbuckref02_number.f
  have := number_go n w s hw hs hn L k hL w 0 (by omega)
  rw [Nat.div_eq_of_lt hn] at this
  exact this
theorem back_eq (k : Nat) {x0 x1 x2 x3 x4 : Int} (v : V x0 x1 x2 x3 x4) (L : List Bool) (hL : ∀ j : Nat, j < 104 → L[j]? = some (bitAt x0 x1 x2 x3 x4 j)) : crossbuckref02_Back.f (k + 33) L = some (x0, x1, x2, x3, x4) := by
  have p0 := number_eq x0 32 0 (by decide) (by decide) v.a0 v.b0 L k (fun t ht => by
    rw [hL _ (by omega)]; unfold bitAt; rw [if_neg (by omega), if_neg (by omega), if_pos (by omega)]; congr 2; omega)
  have p1 := number_eq x1 32 32 (by decide) (by decide) v.a1 v.b1 L k (fun t ht => by
    rw [hL _ (by omega)]; unfold bitAt; rw [if_neg (by omega), if_neg (by omega), if_neg (by omega), if_pos (by omega)]; congr 2; omega)
  have p2 := number_eq x2 8 64 (by decide) (by decide) v.a2 v.b2 L (k + 24) (fun t ht => by
    rw [hL _ (by omega)]; unfold bitAt; rw [if_neg (by omega), if_neg (by omega), if_neg (by omega), if_neg (by omega), if_pos (by omega)]; congr 2; omega)
  have p3 := number_eq x3 16 72 (by decide) (by decide) v.a3 v.b3 L (k + 16) (fun t ht => by
    rw [hL _ (by omega)]; unfold bitAt; rw [if_neg (by omega), if_neg (by omega), if_neg (by omega), if_neg (by omega), if_neg (by omega), if_pos (by omega)]; congr 2; omega)
  have p4 := number_eq x4 16 88 (by decide) (by decide) v.a4 v.b4 L (k + 16) (fun t ht => by
    rw [hL _ (by omega)]; unfold bitAt; rw [if_neg (by omega), if_neg (by omega), if_neg (by omega), if_neg (by omega), if_neg (by omega), if_neg (by omega)]; congr 2; omega)
  simp only [Nat.add_assoc, Nat.reduceAdd] at p0 p1 p2 p3 p4
  have e8 : (2 : Int) ^ 8 = 256 := rfl
  have e16 : (2 : Int) ^ 16 = 65536 := rfl
  have b2 := v.b2
  have b3 := v.b3
  have b4 := v.b4
  have a2 := v.a2
  have a3 := v.a3
  have a4 := v.a4
  rw [e8] at b2
  rw [e16] at b3 b4
  unfold crossbuckref02_Back.f
  erw [p0, Option.bind_some, p1, Option.bind_some, p2, Option.bind_some, p3, Option.bind_some, p4, Option.bind_some, wrap_u16, wrap_u16, Int.emod_eq_of_lt a2 b2, Int.emod_eq_of_lt a3 b3, Int.emod_eq_of_lt a4 b4]

/-! ### The bits of the whole -/
theorem num_nat {x0 x1 x2 x3 x4 : Int} (v : V x0 x1 x2 x3 x4) : ∃ N : Nat, num x0 x1 x2 x3 x4 = N ∧ N < 2 ^ 104 ∧ ∀ j : Nat, j < 104 → bitAt x0 x1 x2 x3 x4 j = N.testBit (103 - j) := by
  obtain ⟨a0, b0, a1, b1, a2, b2, a3, b3, a4, b4⟩ := v
  obtain ⟨n0, rfl⟩ := Int.eq_ofNat_of_zero_le a0
  obtain ⟨n1, rfl⟩ := Int.eq_ofNat_of_zero_le a1
  obtain ⟨n2, rfl⟩ := Int.eq_ofNat_of_zero_le a2
  obtain ⟨n3, rfl⟩ := Int.eq_ofNat_of_zero_le a3
  obtain ⟨n4, rfl⟩ := Int.eq_ofNat_of_zero_le a4
  have c0 : n0 < 2 ^ 32 := by exact_mod_cast b0
  have c1 : n1 < 2 ^ 32 := by exact_mod_cast b1
  have c2 : n2 < 2 ^ 8 := by exact_mod_cast b2
  have c3 : n3 < 2 ^ 16 := by exact_mod_cast b3
  have c4 : n4 < 2 ^ 16 := by exact_mod_cast b4
  refine ⟨2 ^ 16 * (2 ^ 16 * (2 ^ 8 * (2 ^ 32 * n0 + n1) + n2) + n3) + n4, ?_, ?_, ?_⟩
  · unfold num
    omega
  · omega
  · intro j hj
    unfold bitAt fb
    rw [if_neg (by omega), if_neg (by omega)]
    simp only [Int.toNat_natCast]
    by_cases d4 : 88 ≤ j
    · rw [if_neg (by omega), if_neg (by omega), if_neg (by omega), if_neg (by omega), Nat.testBit_two_pow_mul_add _ c4, if_pos (by omega)]
      congr 1; omega
    rw [Nat.testBit_two_pow_mul_add _ c4]
    by_cases d3 : 72 ≤ j
    · rw [if_neg (by omega), if_neg (by omega), if_neg (by omega), if_pos (by omega), if_neg (by omega), Nat.testBit_two_pow_mul_add _ c3, if_pos (by omega)]
      congr 1; omega
    by_cases d2 : 64 ≤ j
    · rw [if_neg (by omega), if_neg (by omega), if_pos (by omega), if_neg (by omega), Nat.testBit_two_pow_mul_add _ c3, if_neg (by omega), Nat.testBit_two_pow_mul_add _ c2, if_pos (by omega)]
      congr 1; omega
    by_cases d1 : 32 ≤ j
    · rw [if_neg (by omega), if_pos (by omega), if_neg (by omega), Nat.testBit_two_pow_mul_add _ c3, if_neg (by omega), Nat.testBit_two_pow_mul_add _ c2, if_neg (by omega), Nat.testBit_two_pow_mul_add _ c1, if_pos (by omega)]
      congr 1; omega
    rw [if_pos (by omega), if_neg (by omega), Nat.testBit_two_pow_mul_add _ c3, if_neg (by omega), Nat.testBit_two_pow_mul_add _ c2, if_neg (by omega), Nat.testBit_two_pow_mul_add _ c1, if_neg (by omega)]
    congr 1; omega
end Go.Proofs.YtloclimoffhbhaaDoor.Hdr
