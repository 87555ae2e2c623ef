/- crossbucklaw01.WideSums answers true for every two counts and number: as numbers. No condition of its own. -/
import Derived.Test.YthifgehpiodkcaaWide
import Derived.Test.YthifgehpiodkcaaAwake01
import Derived.Test.YthifgehpiodkcaaPAllx26
namespace Go.Proofs.Ythifgehpiodkcaa.Pure
open Go Go.RowKit Go.Proofs.Ythifgehpiodkcaa.PAll Go.Proofs.YthifgehpiodkcaaW.PrintWords Go.Proofs.YthifgehpiodkcaaW.PrintLast Go.Proofs.YthifgehpiodkcaaW.PrintMore Go.Proofs.Ythifgehpiodkcaa.Bits Go.Proofs.Ythifgehpiodkcaa.Wide
set_option linter.unusedVariables false

theorem wf_u64 {a : Int} (h : (Lit.int .u64 a).wf = true) : 0 ≤ a ∧ a < 18446744073709551616 := by
  simp [Lit.wf, IntKind.min, IntKind.max, IntKind.signed, IntKind.bits] at h
  exact ⟨by omega, by omega⟩
theorem up_same {a b : Nat} (ha : a < 18446744073709551616) (hb : b < 18446744073709551616) (n : Int) (k j : Nat) : ∃ r, wide_Count_Up.f (k + 1) a b n = some r ∧ crossbuckref01_Up.f (j + 130) a b n = some r := by
  by_cases g : 0 ≤ n ∧ n < 128
  · exact ⟨_, up_eq _ ha hb g.1 g.2, rup_eq _ ha hb g.1 g.2⟩
  · have g' : n < 0 ∨ 128 ≤ n := by omega
    exact ⟨_, up_out _ _ _ g', rup_out (j + 129) _ _ g'⟩
theorem pow_same (n : Int) (k j : Nat) : ∃ r, wide_Pow.f (k + 1) n = some r ∧ crossbuckref01_Up.f (j + 130) 0 1 n = some r := by
  obtain ⟨r, h1, h2⟩ := up_same (a := 0) (b := 1) (by decide) (by decide) n k j
  refine ⟨r, ?_, h2⟩
  unfold wide_Pow.f wide_Of.f
  rw [Option.bind_some]
  show (wide_Count_Up.f (k + 1) ((0 : Nat) : Int) ((1 : Nat) : Int) n).bind _ = _
  rw [h1]
  rfl
theorem add_same {a b c d : Nat} (ha : a < 18446744073709551616) (hb : b < 18446744073709551616) (hc : c < 18446744073709551616) (hd : d < 18446744073709551616) : ∃ r, wide_Count_Add.f a b c d = some r ∧ crossbuckref01_Add.f a b c d = some r := ⟨_, add_eq ha hb hc hd, radd_eq ha hb hc hd⟩
theorem sub_same {a b c d : Nat} (ha : a < 18446744073709551616) (hb : b < 18446744073709551616) (hc : c < 18446744073709551616) (hd : d < 18446744073709551616) : ∃ r, wide_Count_Sub.f a b c d = some r ∧ crossbuckref01_Sub.f a b c d = some r := ⟨_, sub_eq ha hb hc hd, rsub_eq ha hb hc hd⟩
theorem sums_tail {a b c d : Nat} (ha : a < 18446744073709551616) (hb : b < 18446744073709551616) (hc : c < 18446744073709551616) (hd : d < 18446744073709551616) (n : Int) (k j : Nat) (x : Int) (hx : wide_Count_Compare.f (k + 1) a b c d = some x) (hk : k + 1 = j + 130) :
    crossbucklaw01_WideSums.j0 (k + 1 + 1) n x a b c d a b c d = some true := by
  obtain ⟨r1, p1, p2⟩ := pow_same n k j
  obtain ⟨r2, p3, p4⟩ := up_same ha hb n k j
  rw [← hk] at p2 p4
  obtain ⟨u, u1, u2⟩ := add_same ha hb hc hd
  obtain ⟨v, v1, v2⟩ := sub_same ha hb hc hd
  rw [crossbucklaw01_WideSums.j0, awake01 (by omega), Option.bind_some, if_pos rfl, u1, Option.bind_some, u2, Option.bind_some]
  unfold crossbucklaw01_to.f
  simp only [Option.bind_some, beq_self_eq_true, Bool.and_self]
  rw [if_pos trivial, v1, Option.bind_some, v2, Option.bind_some]
  simp only [beq_self_eq_true, Bool.and_self]
  rw [if_pos trivial, p3, Option.bind_some, p4, Option.bind_some]
  simp only [beq_self_eq_true, Bool.and_self]
  rw [if_pos trivial, p1, Option.bind_some, p2, Option.bind_some]
  simp only [beq_self_eq_true, Bool.and_self]
  rw [if_pos trivial, hx, Option.bind_some, if_pos rfl]
  unfold wide_Count_Zero.f wide_Of.f
  simp only [Option.bind_some, beq_self_eq_true, Bool.and_self, if_true]
theorem WideSums (a0 a1 b0 b1 n : Int) (w0 : (Lit.int .u64 a0).wf = true) (w1 : (Lit.int .u64 a1).wf = true) (w2 : (Lit.int .u64 b0).wf = true) (w3 : (Lit.int .u64 b1).wf = true) (w4 : (Lit.int .i64 n).wf = true) :
    ∃ k, crossbucklaw01_WideSums.f k a0 a1 b0 b1 n = some true := by
  have h0 := wf_u64 w0
  have h1 := wf_u64 w1
  have h2 := wf_u64 w2
  have h3 := wf_u64 w3
  obtain ⟨a, rfl⟩ := Int.eq_ofNat_of_zero_le h0.1
  obtain ⟨b, rfl⟩ := Int.eq_ofNat_of_zero_le h1.1
  obtain ⟨c, rfl⟩ := Int.eq_ofNat_of_zero_le h2.1
  obtain ⟨d, rfl⟩ := Int.eq_ofNat_of_zero_le h3.1
  have ha : a < 18446744073709551616 := by omega
  have hb : b < 18446744073709551616 := by omega
  have hc : c < 18446744073709551616 := by omega
  have hd : d < 18446744073709551616 := by omega
  refine ⟨198 + 1 + 1, ?_⟩
  have ht := sums_tail ha hb hc hd n 198 69 _ (compare_eq 196 ha hb hc hd) rfl
  unfold crossbucklaw01_WideSums.f crossbucklaw01_to.f
  simp only [Option.bind_some]
  rw [less_eq ha hb hc hd, Option.bind_some]
  unfold cmpV at ht
  by_cases g : vl a b < vl c d
  · rw [if_pos g] at ht
    rw [decide_eq_true g, if_pos rfl]
    exact ht
  · rw [if_neg g] at ht
    rw [decide_eq_false g, if_neg (by decide), less_eq hc hd ha hb, Option.bind_some]
    by_cases e : vl c d < vl a b
    · rw [if_pos e] at ht
      rw [decide_eq_true e, if_pos rfl]
      exact ht
    · rw [if_neg e] at ht
      rw [decide_eq_false e, if_neg (by decide)]
      exact ht
end Go.Proofs.Ythifgehpiodkcaa.Pure
