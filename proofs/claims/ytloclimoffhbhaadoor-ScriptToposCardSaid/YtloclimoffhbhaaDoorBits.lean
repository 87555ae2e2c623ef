/- Plain arithmetic of masks, for later proofs: 32-bit words, all but the last bits. No condition of its own. -/
import Derived.Laws.BitsLemmas
import Derived.RowKit
namespace Go.Proofs.YtloclimoffhbhaaDoor.Bits
open Go Go.RowKit

theorem wraps_u32 (n : Int) (h₀ : 0 ≤ n) (h₁ : n < 2 ^ 32) : IntKind.u32.wrap n = n := by rw [IntKind.wrap_u32]; omega
theorem wrap_u64 (n : Int) : IntKind.u64.wrap n = n % 18446744073709551616 := by simp [IntKind.wrap, IntKind.bits, IntKind.signed]
theorem wrap_u64_id (n : Int) (h₀ : 0 ≤ n) (h₁ : n < 18446744073709551616) : IntKind.u64.wrap n = n := by rw [wrap_u64]; omega
theorem wrap_u16 (n : Int) : IntKind.u16.wrap n = n % 65536 := by simp [IntKind.wrap, IntKind.bits, IntKind.signed]
theorem wrap64_id (n : Int) (h₀ : -9223372036854775808 ≤ n) (h₁ : n < 9223372036854775808) : wrap64 n = n := by unfold wrap64; omega

/-- Two to the power, as a whole number: from 0 to 32 places. -/
theorem two_pow_pos (j : Nat) : (0 : Int) < 2 ^ j := by exact_mod_cast Nat.two_pow_pos j
theorem two_pow_le {i j : Nat} (h : i ≤ j) : (2 : Int) ^ i ≤ 2 ^ j := by exact_mod_cast Nat.pow_le_pow_right (by decide : 0 < 2) h
theorem two_pow_32 {j : Nat} (h : j ≤ 32) : (2 : Int) ^ j ≤ 4294967296 := two_pow_le (j := 32) h

theorem cast_mask {j n : Nat} (hj : j ≤ n) : ((2 : Int) ^ n - 2 ^ j) = ((2 ^ n - 2 ^ j : Nat) : Int) := by
  rw [Int.natCast_sub (Nat.pow_le_pow_right (by decide) hj)]; simp

theorem cast_mask32 {j : Nat} (hj : j ≤ 32) : ((4294967296 : Int) - 2 ^ j) = ((2 ^ 32 - 2 ^ j : Nat) : Int) := cast_mask hj

theorem lt32 {a : Nat} (h : (a : Int) < 4294967296) : a < 2 ^ 32 := by
  have h2 : a < 4294967296 := by omega
  exact h2
theorem of32 {a : Nat} (h : a < 2 ^ 32) : (a : Int) < 4294967296 := by
  have h2 : a < 4294967296 := h
  omega
theorem wrap_nat32 {a : Nat} (h : a < 2 ^ 32) : IntKind.u32.wrap (a : Int) = a := by
  have := of32 h
  rw [IntKind.wrap_u32]; omega

theorem nat_andNot (a b : Nat) (ha : a < 2 ^ 32) (hb : b < 2 ^ 32) : bits .andNot .u32 a b = ((a &&& (2 ^ 32 - 1 - b) : Nat) : Int) := by
  have ha' : a % 2 ^ 32 = a := Nat.mod_eq_of_lt ha
  have hb' : b % 2 ^ 32 = b := Nat.mod_eq_of_lt hb
  show IntKind.u32.wrap ((BitVec.ofInt 32 (a : Int) &&& ~~~BitVec.ofInt 32 (b : Int)).toNat : Int) = _
  rw [BitVec.ofInt_natCast, BitVec.ofInt_natCast, BitVec.toNat_and, BitVec.toNat_not, BitVec.toNat_ofNat, BitVec.toNat_ofNat, ha', hb']
  exact wrap_nat32 (Nat.lt_of_le_of_lt (m := a) Nat.and_le_left ha)

/-- Nothing stands in the last j bits. -/
theorem andNot_hi (a : Int) (j : Nat) (h0 : 0 ≤ a) (h1 : a < 4294967296) (hj : j ≤ 32) : bits .andNot .u32 a (4294967296 - 2 ^ j) = a % 2 ^ j := by
  obtain ⟨a, rfl⟩ := Int.eq_ofNat_of_zero_le h0
  have ha : a < 2 ^ 32 := lt32 h1
  have hp := Nat.two_pow_pos j
  have hp2 : 2 ^ j ≤ 2 ^ 32 := Nat.pow_le_pow_right (by decide) hj
  rw [cast_mask32 hj, nat_andNot a _ ha (Nat.sub_lt (by decide) hp)]
  have e : 2 ^ 32 - 1 - (2 ^ 32 - 2 ^ j) = 2 ^ j - 1 := by omega
  rw [e, Nat.and_two_pow_sub_one_eq_mod]
  simp

end Go.Proofs.YtloclimoffhbhaaDoor.Bits
