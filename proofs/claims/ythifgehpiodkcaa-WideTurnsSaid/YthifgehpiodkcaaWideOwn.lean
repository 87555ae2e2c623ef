/- Counts of two words as whole numbers: sums, differences, shifts, order: the program's, the document's. No condition of its own. -/
import Derived.Test.YthifgehpiodkcaaBits
import Derived.Test.YthifgehpiodkcaaPWTx10
import Derived.Test.YthifgehpiodkcaaPWTx11
import Derived.Test.YthifgehpiodkcaaPWTx14
import Derived.Test.YthifgehpiodkcaaPWTx16
import Derived.Test.YthifgehpiodkcaaPWTx20
import Derived.Test.YthifgehpiodkcaaPWTx3
import Derived.Test.YthifgehpiodkcaaPWTx9
namespace Go.Proofs.Ythifgehpiodkcaa.Wide
open Go Go.RowKit Go.Proofs.Ythifgehpiodkcaa.PWT Go.Proofs.YthifgehpiodkcaaW.PrintWords Go.Proofs.YthifgehpiodkcaaW.PrintLast Go.Proofs.YthifgehpiodkcaaW.PrintMore Go.Proofs.Ythifgehpiodkcaa.Bits
set_option linter.unusedVariables false

/-- The words of a number, modulo two to the 128th. -/
def hiW (n : Nat) : Nat := n / 18446744073709551616 % 18446744073709551616
def loW (n : Nat) : Nat := n % 18446744073709551616
/-- The number of two words. -/
def vl (a b : Nat) : Nat := a * 18446744073709551616 + b
theorem words {a b : Nat} (ha : a < 18446744073709551616) (hb : b < 18446744073709551616) : hiW (vl a b) = a ∧ loW (vl a b) = b := by unfold hiW loW vl; omega
theorem hi_lt (n : Nat) : hiW n < 18446744073709551616 := Nat.mod_lt _ (by decide)
theorem lo_lt (n : Nat) : loW n < 18446744073709551616 := Nat.mod_lt _ (by decide)
theorem vl_words (n : Nat) : vl (hiW n) (loW n) = n % 340282366920938463463374607431768211456 := by unfold hiW loW vl; omega
theorem vl_lt {a b : Nat} (ha : a < 18446744073709551616) (hb : b < 18446744073709551616) : vl a b < 340282366920938463463374607431768211456 := by unfold vl; omega
theorem uw (n : Int) : IntKind.u64.wrap n = n % 18446744073709551616 := wrap_u64 n

theorem addS_eq (x y c : Nat) : Hand.addS (x : Int) (y : Int) (c : Int) = (((x + y + c) % 18446744073709551616 : Nat) : Int) := by unfold Hand.addS; simp
theorem addC_eq (x y c : Nat) : Hand.addC (x : Int) (y : Int) (c : Int) = (((x + y + c) / 18446744073709551616 : Nat) : Int) := by unfold Hand.addC; simp
theorem subS_eq (x y c : Nat) : Hand.subS (x : Int) (y : Int) (c : Int) = (((x + 18446744073709551616 - y - c) % 18446744073709551616 : Nat) : Int) := by unfold Hand.subS; simp
theorem subC_eq (x y c : Nat) : Hand.subC (x : Int) (y : Int) (c : Int) = ((if x < y + c then 1 else 0 : Nat) : Int) := by unfold Hand.subC; simp
/-- A number's words as the program holds them. -/
def wd (n : Nat) : Int × Int := (((hiW n : Nat) : Int), ((loW n : Nat) : Int))
theorem pair_eq {a b n : Nat} (h : a = hiW n) (g : b = loW n) : (some (((a : Nat) : Int), ((b : Nat) : Int)) : Option (Int × Int)) = some (wd n) := by rw [h, g]; rfl

theorem add_eq {a b c d : Nat} (ha : a < 18446744073709551616) (hb : b < 18446744073709551616) (hc : c < 18446744073709551616) (hd : d < 18446744073709551616) :
    wide_Count_Add.f a b c d = some (wd (vl a b + vl c d)) := by
  unfold wide_Count_Add.f
  rw [show (0 : Int) = ((0 : Nat) : Int) from rfl, addC_eq, addS_eq, addS_eq, if_pos (by omega)]
  refine pair_eq ?_ ?_
  · unfold hiW vl; omega
  · unfold loW vl; omega
theorem sub_eq {a b c d : Nat} (ha : a < 18446744073709551616) (hb : b < 18446744073709551616) (hc : c < 18446744073709551616) (hd : d < 18446744073709551616) :
    wide_Count_Sub.f a b c d = some (wd (vl a b + 340282366920938463463374607431768211456 - vl c d)) := by
  unfold wide_Count_Sub.f
  rw [show (0 : Int) = ((0 : Nat) : Int) from rfl, subC_eq, subS_eq, subS_eq]
  refine pair_eq ?_ ?_
  · unfold hiW vl
    split <;> omega
  · unfold loW vl
    omega

/-! ### Order -/
def cmpV (x y : Nat) : Int := if x < y then -1 else if y < x then 1 else 0
theorem cmp64_eq (a b : Nat) : cmp_Compare_uint64.f a b = some (cmpV a b) := by
  unfold cmp_Compare_uint64.f cmp_isNaN_uint64.f cmpV
  simp only [Option.bind_some]
  by_cases g : (a : Int) < (b : Int)
  · simp [g, show a < b by omega]
  · by_cases e : (a : Int) > (b : Int)
    · simp [g, e, show ¬ a < b by omega, show b < a by omega]
    · simp [g, e, show ¬ a < b by omega, show ¬ b < a by omega]
theorem or_two (k : Nat) (x y : Int) : cmp_Or_int.f (k + 3) [x, y] = some (if x = 0 then y else x) := by
  unfold cmp_Or_int.f
  have w1 : wrap64 ((0 : Int) + 1) = 1 := wrap64_id _ (by decide) (by decide)
  have w2 : wrap64 ((1 : Int) + 1) = 2 := wrap64_id _ (by decide) (by decide)
  rw [show (([x, y] : List Int).length : Int) = 2 from rfl, cmp_Or_int.l0, if_pos (by decide), if_pos (by decide), if_pos (by simp), w1]
  by_cases c : x = 0
  · rw [if_pos (show rd [x, y] 0 = 0 from c), if_pos c, cmp_Or_int.l0, if_pos (by decide), if_pos (by decide), if_pos (by simp), w2]
    by_cases d : y = 0
    · rw [if_pos (show rd [x, y] 1 = 0 from d), cmp_Or_int.l0, if_neg (by decide), d]
    · rw [if_neg (show ¬ rd [x, y] 1 = 0 from d)]
      rfl
  · rw [if_neg (show ¬ rd [x, y] 0 = 0 from c), if_neg c]
    rfl
theorem compare_eq (k : Nat) {a b c d : Nat} (ha : a < 18446744073709551616) (hb : b < 18446744073709551616) (hc : c < 18446744073709551616) (hd : d < 18446744073709551616) :
    wide_Count_Compare.f (k + 3) a b c d = some (cmpV (vl a b) (vl c d)) := by
  unfold wide_Count_Compare.f
  rw [cmp64_eq, cmp64_eq, Option.bind_some, Option.bind_some, or_two, Option.bind_some]
  congr 1
  unfold cmpV vl
  repeat' split
  all_goals first | rfl | omega

/-! ### Up -/
theorem shape (a b p q : Nat) : (a * q + b) * (p * q) = a * p * (q * q) + b * p * q := by
  rw [Nat.add_mul]
  congr 1 <;> ac_rfl
theorem two_mul_pow (m : Nat) (h : m < 64) : (2 : Nat) ^ m * 2 ^ (64 - m) = 18446744073709551616 := by
  rw [← Nat.pow_add, show m + (64 - m) = 64 by omega]
theorem shl_eq (x m : Nat) (h : m < 64) : shl .u64 (x : Int) (m : Int) = ((x * 2 ^ m % 18446744073709551616 : Nat) : Int) := by
  unfold shl
  rw [show IntKind.bits .u64 = 64 from rfl, Int.toNat_natCast, Nat.min_eq_left (by omega), uw]
  simp
theorem shr_eq (x m : Nat) (h : m < 64) : shr .u64 (x : Int) (m : Int) = ((x / 2 ^ m : Nat) : Int) := by
  unfold shr
  rw [show IntKind.bits .u64 = 64 from rfl, Int.toNat_natCast, Nat.min_eq_left (by omega)]
  simp
theorem or_eq {x y i : Nat} (hx : x % 2 ^ i = 0) (hx1 : x < 18446744073709551616) (hy : y < 2 ^ i) (hy1 : y < 18446744073709551616) : Go.bits .or .u64 (x : Int) (y : Int) = ((x + y : Nat) : Int) := by
  have e : (2 : Int) ^ 64 = 18446744073709551616 := rfl
  have := bits_join .u64 64 (by decide) (fun n h0 h1 => wrap_u64_id n h0 (by rw [e] at h1; exact h1)) i (x : Int) (y : Int) (Int.natCast_nonneg _) (by exact_mod_cast hx) (by rw [e]; omega) (Int.natCast_nonneg _) (by exact_mod_cast hy) (by rw [e]; omega)
  rw [this]
  simp
theorem up_eq (k : Nat) {a b : Nat} (ha : a < 18446744073709551616) (hb : b < 18446744073709551616) {n : Int} (h0 : 0 ≤ n) (h1 : n < 128) :
    wide_Count_Up.f (k + 1) a b n = some (wd (vl a b * 2 ^ n.toNat)) := by
  obtain ⟨m, rfl⟩ := Int.eq_ofNat_of_zero_le h0
  rw [Int.toNat_natCast]
  unfold wide_Count_Up.f
  rw [if_neg (by omega), decide_eq_false (by omega), wide_Count_Up.j0, if_neg (by decide)]
  by_cases c : (m : Int) ≥ 64
  · have w : wrap64 ((m : Int) - 64) = ((m - 64 : Nat) : Int) := by rw [wrap64_id _ (by omega) (by omega)]; omega
    obtain ⟨j, rfl⟩ : ∃ j, m = j + 64 := ⟨m - 64, by omega⟩
    rw [if_pos c, w, if_pos (by omega), show j + 64 - 64 = j by omega, shl_eq b j (by omega)]
    have e : vl a b * 2 ^ (j + 64) = a * 2 ^ j * 340282366920938463463374607431768211456 + b * 2 ^ j * 18446744073709551616 := by
      unfold vl
      rw [Nat.pow_add]
      exact shape a b (2 ^ j) 18446744073709551616
    rw [e]
    generalize a * 2 ^ j = A
    generalize b * 2 ^ j = C
    show some (_, ((0 : Nat) : Int)) = _
    refine pair_eq ?_ ?_
    · unfold hiW; omega
    · unfold loW; omega
  · rw [if_neg c]
    by_cases z : (m : Int) = 0
    · have : m = 0 := by omega
      subst this
      rw [if_pos z, Nat.pow_zero, Nat.mul_one]
      exact pair_eq (words ha hb).1.symm (words ha hb).2.symm
    · have w : wrap64 (64 - (m : Int)) = ((64 - m : Nat) : Int) := by rw [wrap64_id _ (by omega) (by omega)]; omega
      rw [if_neg z, if_pos (by omega), w, if_pos (by omega), shl_eq a m (by omega), shl_eq b m (by omega), shr_eq b (64 - m) (by omega)]
      have hpq := two_mul_pow m (by omega)
      have e : vl a b * 2 ^ m = a * 2 ^ m * 18446744073709551616 + b * 2 ^ m := by
        unfold vl
        rw [Nat.add_mul, Nat.mul_right_comm]
      have hd : b * 2 ^ m / 18446744073709551616 = b / 2 ^ (64 - m) := by
        rw [← hpq, Nat.mul_comm b, Nat.mul_div_mul_left _ _ (Nat.two_pow_pos m)]
      have hr : b / 2 ^ (64 - m) < 2 ^ m := by
        rw [Nat.div_lt_iff_lt_mul (Nat.two_pow_pos _), hpq]
        exact hb
      have hm : (a * 2 ^ m % 18446744073709551616) % 2 ^ m = 0 := by
        rw [← hpq, Nat.mul_comm a, Nat.mul_mod_mul_left]
        exact Nat.mul_mod_right _ _
      have hle : (2 : Nat) ^ m ≤ 18446744073709551616 := by rw [← hpq]; exact Nat.le_mul_of_pos_right _ (Nat.two_pow_pos _)
      have hsum : a * 2 ^ m % 18446744073709551616 + b / 2 ^ (64 - m) < 18446744073709551616 := by
        have h3 : (18446744073709551616 : Nat) % 2 ^ m = 0 := by rw [← hpq]; exact Nat.mul_mod_right _ _
        have h4 : a * 2 ^ m % 18446744073709551616 < 18446744073709551616 := Nat.mod_lt _ (by decide)
        obtain ⟨u, hu⟩ := Nat.dvd_of_mod_eq_zero hm
        obtain ⟨v, hv⟩ := Nat.dvd_of_mod_eq_zero h3
        rw [hu] at h4 ⊢
        rw [hv] at h4 ⊢
        have : u < v := Nat.lt_of_mul_lt_mul_left h4
        calc 2 ^ m * u + b / 2 ^ (64 - m) < 2 ^ m * u + 2 ^ m := by omega
          _ = 2 ^ m * (u + 1) := by rw [Nat.mul_add, Nat.mul_one]
          _ ≤ 2 ^ m * v := Nat.mul_le_mul_left _ this
      rw [or_eq hm (Nat.mod_lt _ (by decide)) hr (Nat.lt_of_lt_of_le hr hle), e, ← hd]
      rw [← hd] at hsum
      generalize a * 2 ^ m = A at *
      generalize b * 2 ^ m = C at *
      refine pair_eq ?_ ?_
      · unfold hiW; omega
      · unfold loW; omega
theorem up_out (k : Nat) (a b : Int) {n : Int} (h : n < 0 ∨ 128 ≤ n) : wide_Count_Up.f (k + 1) a b n = some (0, 0) := by
  unfold wide_Count_Up.f
  by_cases c : n < 0
  · rw [if_pos c, wide_Count_Up.j0, if_pos rfl]
  · rw [if_neg c, decide_eq_true (by omega), wide_Count_Up.j0, if_pos rfl]
theorem pow_eq (k : Nat) {n : Int} (h0 : 0 ≤ n) (h1 : n < 128) : wide_Pow.f (k + 1) n = some (wd (2 ^ n.toNat)) := by
  unfold wide_Pow.f wide_Of.f
  have := up_eq k (a := 0) (b := 1) (by decide) (by decide) h0 h1
  rw [show vl 0 1 = 1 from rfl, Nat.one_mul] at this
  rw [Option.bind_some]
  show (wide_Count_Up.f (k + 1) 0 1 n).bind _ = _
  rw [show (0 : Int) = ((0 : Nat) : Int) from rfl, show (1 : Int) = ((1 : Nat) : Int) from rfl, this, Option.bind_some]
theorem pow_out (k : Nat) {n : Int} (h : n < 0 ∨ 128 ≤ n) : wide_Pow.f (k + 1) n = some (0, 0) := by
  unfold wide_Pow.f wide_Of.f
  rw [Option.bind_some, up_out k _ _ h, Option.bind_some]
end Go.Proofs.Ythifgehpiodkcaa.Wide
