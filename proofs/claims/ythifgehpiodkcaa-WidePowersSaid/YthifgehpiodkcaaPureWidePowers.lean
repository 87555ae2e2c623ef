/- crossbucklaw01.WidePowers answers true for every number: as numbers. No condition of its own. -/
import Derived.Test.YthifgehpiodkcaaWideRead
import Derived.Test.YthifgehpiodkcaaAwake01
import Derived.Test.YthifgehpiodkcaaPAllx34
namespace Go.Proofs.Ythifgehpiodkcaa.Pure
open Go Go.RowKit Go.Proofs.Ythifgehpiodkcaa.PAll Go.Proofs.YthifgehpiodkcaaW.PrintWords Go.Proofs.YthifgehpiodkcaaW.PrintLast Go.Proofs.YthifgehpiodkcaaW.PrintMore Go.Proofs.Ythifgehpiodkcaa.Bits Go.Proofs.Ythifgehpiodkcaa.Wide
set_option linter.unusedVariables false

theorem pow_nat (k i : Nat) (h : i < 128) : wide_Pow.f (k + 1) (i : Int) = some (wd (2 ^ i)) := by
  have := pow_eq k (n := (i : Int)) (Int.natCast_nonneg _) (by omega)
  rw [Int.toNat_natCast] at this
  exact this
theorem pow_lt {i : Nat} (h : i < 128) : 2 ^ i < 340282366920938463463374607431768211456 := by
  have := Nat.pow_lt_pow_right (a := 2) (by decide) h
  exact Nat.lt_of_lt_of_le this (by decide)
theorem sub_one {p : Nat} (h : p < 340282366920938463463374607431768211456) (h1 : 1 ≤ p) : wide_Count_Sub.f (hiW p : Nat) (loW p : Nat) (hiW (p - 1) : Nat) (loW (p - 1) : Nat) = some (0, 1) := by
  have e := sub_eq (hi_lt p) (lo_lt p) (hi_lt (p - 1)) (lo_lt (p - 1))
  rw [words_of h, words_of (by omega), show p + 340282366920938463463374607431768211456 - (p - 1) = 340282366920938463463374607431768211457 by omega] at e
  rw [e]
  rfl
theorem powers_go (n : Nat) (hn : n < 128) (k : Nat) : ∀ d i : Nat, i + d = n → crossbucklaw01_WidePowers.l0 (k + 200 + 2 * d + 1) n i (hiW (2 ^ i - 1) : Nat) (loW (2 ^ i - 1) : Nat) = some true := by
  intro d
  induction d with
  | zero =>
    intro i h
    have p1 := pow_out (k + 199) (n := -1) (.inl (by decide))
    have p2 := pow_out (k + 199) (n := 128) (.inr (by decide))
    have z : wide_Count_Zero.f 0 0 = some true := rfl
    rw [Nat.mul_zero, Nat.add_zero, crossbucklaw01_WidePowers.l0, if_neg (by omega), awake01 (by omega), Option.bind_some, if_pos rfl, show k + 200 = k + 199 + 1 from rfl, p1, Option.bind_some, z, Option.bind_some, if_pos rfl, p2, Option.bind_some, z, Option.bind_some]
  | succ d ih =>
    intro i h
    have hi : i < 128 := by omega
    have hp := pow_lt hi
    have hpos : 1 ≤ 2 ^ i := Nat.two_pow_pos i
    have ew : wrap64 ((i : Int) + 1) = ((i + 1 : Nat) : Int) := by rw [wrap64_id _ (by omega) (by omega)]; omega
    have ez : wide_Count_Zero.f (hiW (2 ^ i) : Nat) (loW (2 ^ i) : Nat) = some false := by
      unfold wide_Count_Zero.f
      rw [words_zero _ hp, decide_eq_false (by omega)]
    have es := sub_one hp hpos
    have ec : wide_Count_Compare.f (k + 200 + 2 * d + 2) (hiW (2 ^ i) : Nat) (loW (2 ^ i) : Nat) (hiW (2 ^ i - 1) : Nat) (loW (2 ^ i - 1) : Nat) = some 1 := by
      have := compare_eq (k + 199 + 2 * d) (hi_lt (2 ^ i)) (lo_lt (2 ^ i)) (hi_lt (2 ^ i - 1)) (lo_lt (2 ^ i - 1))
      rw [words_of hp, words_of (by omega), show k + 199 + 2 * d + 3 = k + 200 + 2 * d + 2 by omega] at this
      rw [this]
      unfold cmpV
      rw [if_neg (by omega), if_pos (by omega)]
    have ea : wide_Count_Add.f (hiW (2 ^ i - 1) : Nat) (loW (2 ^ i - 1) : Nat) (hiW (2 ^ i) : Nat) (loW (2 ^ i) : Nat) = some (wd (2 ^ (i + 1) - 1)) := by
      have := add_eq (hi_lt (2 ^ i - 1)) (lo_lt (2 ^ i - 1)) (hi_lt (2 ^ i)) (lo_lt (2 ^ i))
      rw [words_of hp, words_of (by omega)] at this
      rw [this, Nat.pow_succ, show 2 ^ i - 1 + 2 ^ i = 2 ^ i * 2 - 1 by omega]
    have hj : crossbucklaw01_WidePowers.j1 (k + 200 + 2 * d + 2) n i false (hiW (2 ^ i - 1) : Nat) (loW (2 ^ i - 1) : Nat) (hiW (2 ^ i) : Nat) (loW (2 ^ i) : Nat) = some true := by
      have pr := print_eq (k + 156 + 2 * d) hp
      rw [show k + 156 + 2 * d + 45 = k + 200 + 2 * d + 1 by omega] at pr
      have ih' := ih (i + 1) (by clear ew; omega)
      rw [show k + 200 + 2 * d + 2 = (k + 200 + 2 * d + 1) + 1 from rfl, crossbucklaw01_WidePowers.j1, if_neg (by decide), pr, Option.bind_some, parse_dec hp, Option.bind_some, if_pos rfl, if_neg (by simp), ea, Option.bind_some, ew]
      exact ih'
    have pi := pow_nat (k + 200 + 2 * d + 1) i hi
    rw [show k + 200 + 2 * (d + 1) + 1 = (k + 200 + 2 * d + 2) + 1 by clear ew; omega, crossbucklaw01_WidePowers.l0, if_pos (by clear ew; omega), show k + 200 + 2 * d + 2 = k + 200 + 2 * d + 1 + 1 from rfl, pi, Option.bind_some]
    show (wide_Count_Zero.f ((hiW (2 ^ i) : Nat) : Int) ((loW (2 ^ i) : Nat) : Int)).bind _ = _
    rw [ez, Option.bind_some, if_neg (by decide)]
    show (wide_Count_Sub.f ((hiW (2 ^ i) : Nat) : Int) ((loW (2 ^ i) : Nat) : Int) _ _).bind _ = _
    rw [es, Option.bind_some]
    unfold wide_Of.f
    rw [Option.bind_some, if_neg (by decide)]
    show (wide_Count_Compare.f (k + 200 + 2 * d + 2) ((hiW (2 ^ i) : Nat) : Int) ((loW (2 ^ i) : Nat) : Int) _ _).bind _ = _
    rw [ec, Option.bind_some, if_pos rfl]
    by_cases z : (i : Int) > 0
    · have e1 : wrap64 ((i : Int) - 1) = ((i - 1 : Nat) : Int) := by clear ew; rw [wrap64_id _ (by omega) (by omega)]; omega
      have pj := pow_nat (k + 200 + 2 * d + 1) (i - 1) (by clear e1 ew; omega)
      have pl := pow_lt (i := i - 1) (by clear e1 ew; omega)
      have e2 : wide_Count_Add.f (hiW (2 ^ (i - 1)) : Nat) (loW (2 ^ (i - 1)) : Nat) (hiW (2 ^ (i - 1)) : Nat) (loW (2 ^ (i - 1)) : Nat) = some (wd (2 ^ i)) := by
        have := add_eq (hi_lt (2 ^ (i - 1))) (lo_lt (2 ^ (i - 1))) (hi_lt (2 ^ (i - 1))) (lo_lt (2 ^ (i - 1)))
        rw [words_of pl] at this
        rw [this, show 2 ^ i = 2 ^ (i - 1) + 2 ^ (i - 1) by
          have : i = (i - 1) + 1 := by clear e1 ew; omega
          conv => lhs; rw [this, Nat.pow_succ]
          omega]
      rw [if_pos z, e1, pj, Option.bind_some, Option.bind_some]
      show (wide_Count_Add.f ((hiW (2 ^ (i - 1)) : Nat) : Int) ((loW (2 ^ (i - 1)) : Nat) : Int) ((hiW (2 ^ (i - 1)) : Nat) : Int) ((loW (2 ^ (i - 1)) : Nat) : Int)).bind _ = _
      rw [e2, Option.bind_some]
      simp only [beq_self_eq_true, Bool.not_true, Bool.or_self]
      exact hj
    · rw [if_neg z]
      exact hj
theorem WidePowers : crossbucklaw01_WidePowers.Pure := by
  intro a h
  have h8 : 0 ≤ a ∧ a < 256 := by
    simp [Lit.wf, IntKind.min, IntKind.max, IntKind.signed, IntKind.bits] at h
    exact ⟨by omega, by omega⟩
  obtain ⟨m, rfl⟩ := Int.eq_ofNat_of_zero_le h8.1
  have e : wrap64 (Int.tmod (m : Int) 128) = ((m % 128 : Nat) : Int) := by
    rw [Int.tmod_eq_emod_of_nonneg (Int.natCast_nonneg _), wrap64_id _ (by omega) (by omega)]
    omega
  refine ⟨0 + 200 + 2 * (m % 128) + 1, ?_⟩
  have := powers_go (m % 128) (Nat.mod_lt _ (by decide)) 0 (m % 128) 0 (by omega)
  unfold crossbucklaw01_WidePowers.f
  rw [e]
  exact this
end Go.Proofs.Ythifgehpiodkcaa.Pure
