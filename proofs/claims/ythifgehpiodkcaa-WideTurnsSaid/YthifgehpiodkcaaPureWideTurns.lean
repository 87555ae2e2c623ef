/- crossbucklaw01.WideTurns answers true for every three counts: as numbers. No condition of its own. -/
import Derived.Test.YthifgehpiodkcaaWideOwn
import Derived.Test.YthifgehpiodkcaaAwake01
import Derived.Test.YthifgehpiodkcaaPWTx21
namespace Go.Proofs.Ythifgehpiodkcaa.Pure
open Go Go.RowKit Go.Proofs.Ythifgehpiodkcaa.PWT Go.Proofs.YthifgehpiodkcaaW.PrintWords Go.Proofs.YthifgehpiodkcaaW.PrintLast Go.Proofs.YthifgehpiodkcaaW.PrintMore Go.Proofs.Ythifgehpiodkcaa.Bits Go.Proofs.Ythifgehpiodkcaa.Wide
set_option linter.unusedVariables false

theorem wf_u64 {a : Int} (h : (Lit.int .u64 a).wf = true) : 0 ≤ a ∧ a < 18446744073709551616 := by
  simp [Lit.wf, IntKind.min, IntKind.max, IntKind.signed, IntKind.bits] at h
  exact ⟨by omega, by omega⟩
theorem wd_congr {x y : Nat} (h : x % 340282366920938463463374607431768211456 = y % 340282366920938463463374607431768211456) : wd x = wd y := by
  unfold wd hiW loW
  rw [show x / 18446744073709551616 % 18446744073709551616 = y / 18446744073709551616 % 18446744073709551616 by omega, show x % 18446744073709551616 = y % 18446744073709551616 by omega]
theorem addW (x y : Nat) : wide_Count_Add.f (wd x).1 (wd x).2 (wd y).1 (wd y).2 = some (wd (x + y)) := by
  have h := add_eq (hi_lt x) (lo_lt x) (hi_lt y) (lo_lt y)
  rw [vl_words, vl_words] at h
  refine h.trans (congrArg some (wd_congr ?_))
  omega
theorem subW (x y : Nat) : wide_Count_Sub.f (wd (x + y)).1 (wd (x + y)).2 (wd y).1 (wd y).2 = some (wd x) := by
  have h := sub_eq (hi_lt (x + y)) (lo_lt (x + y)) (hi_lt y) (lo_lt y)
  rw [vl_words, vl_words] at h
  refine h.trans (congrArg some (wd_congr ?_))
  omega
theorem upW {k : Nat} (hk : 1 ≤ k) (x : Nat) {n : Int} (h0 : 0 ≤ n) (h1 : n < 128) (p : Nat) (hp : 2 ^ n.toNat = p) : wide_Count_Up.f k (wd x).1 (wd x).2 n = some (wd (x * p)) := by
  obtain ⟨k, rfl⟩ : ∃ j, k = j + 1 := ⟨k - 1, by omega⟩
  have h := up_eq k (hi_lt x) (lo_lt x) h0 h1
  rw [vl_words, hp] at h
  refine h.trans (congrArg some (wd_congr ?_))
  rw [Nat.mod_mul_mod]
theorem cmpW {k : Nat} (hk : 3 ≤ k) (x y : Nat) : wide_Count_Compare.f k (wd x).1 (wd x).2 (wd y).1 (wd y).2 = some (cmpV (x % 340282366920938463463374607431768211456) (y % 340282366920938463463374607431768211456)) := by
  obtain ⟨k, rfl⟩ : ∃ j, k = j + 3 := ⟨k - 3, by omega⟩
  have h := compare_eq k (hi_lt x) (lo_lt x) (hi_lt y) (lo_lt y)
  rw [vl_words, vl_words] at h
  exact h
theorem cmp_turn (x y : Nat) : (cmpV x y == wrap64 (-cmpV y x)) = true := by
  rw [beq_iff_eq]
  unfold cmpV
  by_cases a : x < y
  · rw [if_pos a, if_neg (by omega), if_pos a]
    exact (wrap64_id _ (by decide) (by decide)).symm
  · by_cases b : y < x
    · rw [if_neg a, if_pos b, if_pos b]
      exact (wrap64_id _ (by decide) (by decide)).symm
    · rw [if_neg a, if_neg b, if_neg b, if_neg a]
      exact (wrap64_id _ (by decide) (by decide)).symm
theorem cmps {k : Nat} (hk : 3 ≤ k) (x y : Nat) : ∃ u v, wide_Count_Compare.f k (wd x).1 (wd x).2 (wd y).1 (wd y).2 = some u ∧ wide_Count_Compare.f k (wd y).1 (wd y).2 (wd x).1 (wd x).2 = some v ∧ (u == wrap64 (-v)) = true :=
  ⟨_, _, cmpW hk x y, cmpW hk y x, cmp_turn _ _⟩
theorem sameIf {α : Type} (p : Int × Int) (x y : Option α) : (if (p.1 == p.1 && (p.2 == p.2)) = true then x else y) = x := by
  rw [beq_self_eq_true, beq_self_eq_true, Bool.and_self, if_pos rfl]
theorem turns (X Y Z : Nat) : crossbucklaw01_WideTurns.f 200 (wd X).1 (wd X).2 (wd Y).1 (wd Y).2 (wd Z).1 (wd Z).2 = some true := by
  have w := awake01 (k := 200) (by omega)
  have u1 := upW (k := 200) (by decide) X (n := 1) (by decide) (by decide) 2 (by decide)
  have u3 := upW (k := 200) (by decide) X (n := 3) (by decide) (by decide) 8 (by decide)
  have u4 := upW (k := 200) (by decide) (X * 8) (n := 4) (by decide) (by decide) 16 (by decide)
  have u7 := upW (k := 200) (by decide) X (n := 7) (by decide) (by decide) 128 (by decide)
  rw [← show X + X = X * 2 by omega] at u1
  rw [show X * 8 * 16 = X * 128 by omega] at u4
  obtain ⟨u, v, c1, c2, c3⟩ := cmps (k := 200) (by decide) X Y
  have ac := addW Y X
  rw [Nat.add_comm Y X] at ac
  have asc := addW (X + Y) Z
  rw [Nat.add_assoc] at asc
  unfold crossbucklaw01_WideTurns.f crossbucklaw01_to.f
  simp only [Option.bind_some]
  rw [w, Option.bind_some, if_pos rfl, addW X Y, Option.bind_some, ac, Option.bind_some, sameIf (wd (X + Y)), Option.bind_some, asc, Option.bind_some, addW Y Z, Option.bind_some, addW X (Y + Z), Option.bind_some, sameIf (wd (X + (Y + Z))), Option.bind_some, subW X Y, Option.bind_some, sameIf (wd X),
    addW X X, Option.bind_some, u1, Option.bind_some, sameIf (wd (X + X)), u3, Option.bind_some, u4, Option.bind_some, u7, Option.bind_some, sameIf (wd (X * 128)), c1, Option.bind_some, c2, Option.bind_some, c3]
theorem WideTurns (a0 a1 b0 b1 c0 c1 : Int) (w0 : (Lit.int .u64 a0).wf = true) (w1 : (Lit.int .u64 a1).wf = true) (w2 : (Lit.int .u64 b0).wf = true) (w3 : (Lit.int .u64 b1).wf = true) (w4 : (Lit.int .u64 c0).wf = true) (w5 : (Lit.int .u64 c1).wf = true) :
    ∃ k, crossbucklaw01_WideTurns.f k a0 a1 b0 b1 c0 c1 = some true := by
  have key : ∀ {x y : Int}, (Lit.int .u64 x).wf = true → (Lit.int .u64 y).wf = true → ∃ n, x = (wd n).1 ∧ y = (wd n).2 := by
    intro x y hx hy
    have h0 := wf_u64 hx
    have h1 := wf_u64 hy
    obtain ⟨a, rfl⟩ := Int.eq_ofNat_of_zero_le h0.1
    obtain ⟨b, rfl⟩ := Int.eq_ofNat_of_zero_le h1.1
    have e := words (a := a) (b := b) (by omega) (by omega)
    exact ⟨vl a b, by unfold wd; rw [e.1], by unfold wd; rw [e.2]⟩
  obtain ⟨X, rfl, rfl⟩ := key w0 w1
  obtain ⟨Y, rfl, rfl⟩ := key w2 w3
  obtain ⟨Z, rfl, rfl⟩ := key w4 w5
  exact ⟨200, turns X Y Z⟩
end Go.Proofs.Ythifgehpiodkcaa.Pure
