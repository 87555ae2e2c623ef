/- crossbucklaw03.CidrHalves answers true for every two prefixes and address: as numbers. No condition of its own. -/
import Derived.Test.YtbnjbjjbfbbdcaaFactsCh
import Derived.Test.YtbnjbjjbfbbdcaaPCHx12
import Derived.Test.YtbnjbjjbfbbdcaaPCHx8
namespace Go.Proofs.Ytbnjbjjbfbbdcaa.Pure
open Go Go.RowKit Go.Proofs.Ytbnjbjjbfbbdcaa.PCH Go.Proofs.YtbnjbjjbfbbdcaaW.PrintWords Go.Proofs.YtbnjbjjbfbbdcaaW.PrintLast Go.Proofs.YtbnjbjjbfbbdcaaW.PrintMore Go.Proofs.Ytbnjbjjbfbbdcaa.Bits Go.Proofs.Ytbnjbjjbfbbdcaa.Facts
set_option linter.unusedVariables false

theorem awake03p (k : Nat) : crossbucklaw03_awake.f (k + 100) = some true := by
  induction k with
  | zero => decide +kernel
  | succ k ih => rw [show k + 1 + 100 = (k + 100) + 1 by omega]; exact crossbucklaw03_awake.mono _ _ ih
theorem ones_fin : ∀ j : Fin 33, bits .xor .u32 4294967295 (4294967296 - 2 ^ j.val) = 2 ^ j.val - 1 := by decide +kernel
theorem last_top {a b : Int} (h0 : 0 ≤ a) (h1 : a < 4294967296) (hr : rightB a b = true) : a + sz b ≤ 4294967296 := by
  obtain ⟨b0, b1, hz⟩ := rightB_iff.1 hr
  obtain ⟨m, hm, e⟩ := sz_split (b := b) (b' := 0) b0 b1
  have e0 : sz 0 = 4294967296 := by decide
  rw [e0] at e
  have hp := sz_pos b
  have ha := Int.mul_ediv_add_emod a (sz b)
  rw [hz, Int.add_zero] at ha
  by_cases c : a / sz b < m
  · have := Int.mul_le_mul_of_nonneg_left (show a / sz b + 1 ≤ m by omega) (by omega : 0 ≤ sz b)
    rw [Int.mul_add, Int.mul_one] at this
    omega
  · have := Int.mul_le_mul_of_nonneg_left (show m ≤ a / sz b by omega) (by omega : 0 ≤ sz b)
    omega
theorem last_eq {a b : Int} (h0 : 0 ≤ a) (h1 : a < 4294967296) (hr : rightB a b = true) : cidr_Last.f a b = some (a + sz b - 1) := by
  obtain ⟨b0, b1, hz⟩ := rightB_iff.1 hr
  unfold cidr_Last.f
  rw [mask_eq b0 b1, Option.bind_some]
  unfold sz at hz ⊢
  have hj : (32 - b).toNat < 33 := by omega
  have h := ones_fin ⟨(32 - b).toNat, hj⟩
  simp only at h
  rw [h, or_lo a _ h0 h1 (by omega) hz]
theorem div_at {n r s : Int} (hs : 0 < s) (h0 : 0 ≤ r) (h1 : r < s) : (n * s + r) / s = n := by
  rw [Int.add_comm, Int.add_mul_ediv_right _ _ (by omega), Int.ediv_eq_zero_of_lt h0 h1, Int.zero_add]
/-- A prefix and its halves. -/
structure Halves (a b q : Int) : Prop where
  a0 : 0 ≤ a
  a1 : a < 4294967296
  b0 : 0 ≤ b
  b1 : b < 32
  e : a = 2 * q * sz (b + 1)
  r : rightB a b = true
theorem halves_of {a b : Int} (a0 : 0 ≤ a) (a1 : a < 4294967296) (hr : rightB a b = true) (h : ¬ b = 32) : Halves a b (a / sz b) := by
  obtain ⟨b0, b1, hz⟩ := rightB_iff.1 hr
  refine ⟨a0, a1, b0, by omega, ?_, hr⟩
  have e := Int.mul_ediv_add_emod a (sz b)
  rw [hz, Int.add_zero] at e
  generalize a / sz b = q at e ⊢
  rw [sz_up (n := b) (by omega)] at e
  exact e.symm.trans (by rw [Int.mul_assoc, Int.mul_comm (sz (b + 1)), ← Int.mul_assoc])
section
variable {a b q : Int} (o : Halves a b q)
include o
theorem sz2 : sz b = sz (b + 1) * 2 := by rw [sz_up o.b1, Int.mul_comm]
theorem at_low : a / sz (b + 1) = 2 * q := by
  have := div_at (n := 2 * q) (r := 0) (sz_pos (b + 1)) (Int.le_refl _) (sz_pos _)
  rw [Int.add_zero, ← o.e] at this
  exact this
theorem at_high : (a + sz (b + 1)) / sz (b + 1) = 2 * q + 1 := by
  have := sz_pos (b + 1)
  have h := Int.add_mul_ediv_right a 1 (show sz (b + 1) ≠ 0 by omega)
  rw [Int.one_mul, at_low o] at h
  exact h
theorem at_top : (a + sz b - 1) / sz (b + 1) = 2 * q + 1 := by
  have hp := sz_pos (b + 1)
  have h := div_at (n := 2 * q + 1) (r := sz (b + 1) - 1) hp (by omega) (by omega)
  have e : (2 * q + 1) * sz (b + 1) + (sz (b + 1) - 1) = a + sz b - 1 := by
    rw [sz2 o, Int.add_mul, Int.one_mul, ← o.e]
    omega
  rw [e] at h
  exact h
theorem p_div (x : Int) : x / sz b = x / sz (b + 1) / 2 := by
  have := sz_pos (b + 1)
  rw [sz2 o, Int.ediv_ediv_of_nonneg (by omega)]
theorem has_p (x : Int) : hasB a b x = decide (x / sz (b + 1) / 2 = q) := by
  rw [Bool.eq_iff_iff, hasB_iff, decide_eq_true_iff, p_div o, p_div o, at_low o]
  omega
theorem has_l (x : Int) : hasB a (b + 1) x = decide (x / sz (b + 1) = 2 * q) := by
  rw [Bool.eq_iff_iff, hasB_iff, decide_eq_true_iff, at_low o]
theorem has_h (x : Int) : hasB (a + sz (b + 1)) (b + 1) x = decide (x / sz (b + 1) = 2 * q + 1) := by
  rw [Bool.eq_iff_iff, hasB_iff, decide_eq_true_iff, at_high o]
theorem top_lt : a + sz b ≤ 4294967296 := last_top o.a0 o.a1 o.r
theorem high_bd : 0 ≤ a + sz (b + 1) ∧ a + sz (b + 1) < 4294967296 := by
  have := sz_pos (b + 1)
  have := top_lt o
  have := sz2 o
  have := o.a0
  omega
theorem right_l : rightB a (b + 1) = true := rightB_iff.2 ⟨by have := o.b0; omega, by have := o.b1; omega, by rw [o.e]; exact Int.mul_emod_left ..⟩
theorem right_h : rightB (a + sz (b + 1)) (b + 1) = true := rightB_iff.2 ⟨by have := o.b0; omega, by have := o.b1; omega, by rw [o.e, show 2 * q * sz (b + 1) + sz (b + 1) = (2 * q + 1) * sz (b + 1) by rw [Int.add_mul, Int.one_mul]]; exact Int.mul_emod_left ..⟩
theorem of_low : cidr_Of.f a (wrap64 (b + 1)) = some (a, b + 1) := by
  have := o.b0
  have := o.b1
  rw [wrap64_id _ (by omega) (by omega), of_eq _ o.a0 o.a1, clamp_id (by omega) (by omega), at_low o, ← o.e]
theorem of_high : cidr_Of.f (a + sz b - 1) (wrap64 (b + 1)) = some (a + sz (b + 1), b + 1) := by
  have h0 := o.b0
  have h1 := o.b1
  have h2 := o.a0
  have h3 := top_lt o
  have h4 := sz_pos b
  rw [wrap64_id _ (by omega) (by omega), of_eq _ (by omega) (by omega), clamp_id (by omega) (by omega), at_top o, Int.add_mul, Int.one_mul, ← o.e]
theorem meet_not : meetB a (b + 1) (a + sz (b + 1)) (b + 1) = false := by
  rw [Bool.eq_false_iff]
  intro h
  rcases meetB_iff.1 h with ⟨_, h⟩ | ⟨_, h⟩
  · rw [has_h o, at_low o, decide_eq_true_iff] at h
    omega
  · rw [has_l o, at_high o, decide_eq_true_iff] at h
    omega
omit o in
theorem low_in : hasB a b a = true := hasB_self _ _
theorem high_in : hasB a b (a + sz (b + 1)) = true := by
  rw [has_p o, at_high o, decide_eq_true_iff]
  omega
theorem meet_split {c d : Int} (d0 : 0 ≤ d) (d1 : d ≤ 32) : meetB a b c d = (meetB a (b + 1) c d || meetB (a + sz (b + 1)) (b + 1) c d) := by
  have h0 := o.b0
  have h1 := o.b1
  rw [Bool.eq_iff_iff, Bool.or_eq_true]
  constructor
  · intro h
    rcases meetB_iff.1 h with ⟨h2, h3⟩ | ⟨h2, h3⟩
    · exact .inl (meetB_iff.2 (.inl ⟨by omega, h3⟩))
    · by_cases e : d = b
      · subst e
        exact .inl (meetB_iff.2 (.inl ⟨by omega, hasB_iff.2 (hasB_iff.1 h3).symm⟩))
      · rw [has_p o, decide_eq_true_iff] at h3
        by_cases g : c / sz (b + 1) = 2 * q
        · exact .inl (meetB_iff.2 (.inr ⟨by omega, by rw [has_l o, decide_eq_true_iff]; exact g⟩))
        · exact .inr (meetB_iff.2 (.inr ⟨by omega, by rw [has_h o, decide_eq_true_iff]; omega⟩))
  · have key : ∀ y, hasB a b y = true → (∀ x, hasB y (b + 1) x = true → hasB a b x = true) → meetB y (b + 1) c d = true → meetB a b c d = true := by
      intro y hy hall h
      rcases meetB_iff.1 h with ⟨_, h3⟩ | ⟨_, h3⟩
      · exact meet_common (x := y) (by omega) d1 hy h3
      · exact meet_common (x := c) (by omega) d1 (hall c h3) (hasB_self c d)
    rintro (h | h)
    · refine key a (low_in (a := a) (b := b)) (fun x hx => ?_) h
      rw [has_l o, decide_eq_true_iff] at hx
      rw [has_p o, decide_eq_true_iff]
      omega
    · refine key _ (high_in o) (fun x hx => ?_) h
      rw [has_h o, decide_eq_true_iff] at hx
      rw [has_p o, decide_eq_true_iff]
      omega
theorem halves_2 (k : Nat) {c d : Int} (c0 : 0 ≤ c) (c1 : c < 4294967296) (rq : rightB c d = true) :
    crossbucklaw03_CidrHalves.j2 (k + 100 + 1) false a b c d a (b + 1) (a + sz (b + 1)) (b + 1) = some true := by
  obtain ⟨d0, d1, _⟩ := rightB_iff.1 rq
  have h0 := o.b0
  have h1 := o.b1
  obtain ⟨g0, g1⟩ := high_bd o
  have m1 := meet_eq (a := a) (b := b) (a' := c) (b' := d) h0 (by omega) d0 d1 o.a0 o.a1 c0 c1
  have m2 := meet_eq (a := a) (b := b + 1) (a' := c) (b' := d) (by omega) (by omega) d0 d1 o.a0 o.a1 c0 c1
  have m3 := meet_eq (a := a + sz (b + 1)) (b := b + 1) (a' := c) (b' := d) (by omega) (by omega) d0 d1 g0 g1 c0 c1
  have hs := meet_split o (c := c) d0 d1
  rw [crossbucklaw03_CidrHalves.j2, if_neg (by decide), awake03p, Option.bind_some, if_pos rfl, within_eq d0 d1 o.a0 o.a1 c0 c1, Option.bind_some, m1, m2, m3]
  simp only [Option.bind_some]
  rw [hs]
  by_cases w : withB a b c d = true
  · have w' := w
    unfold withB at w'
    rw [Bool.and_eq_true, decide_eq_true_iff] at w'
    have l1 : withB a (b + 1) c d = true := by
      unfold withB
      rw [Bool.and_eq_true, decide_eq_true_iff]
      exact ⟨by omega, w'.2⟩
    have l2 : withB (a + sz (b + 1)) (b + 1) c d = true := by
      unfold withB
      rw [Bool.and_eq_true, decide_eq_true_iff]
      exact ⟨by omega, has_nest w'.1 (by omega) w'.2 (high_in o)⟩
    rw [if_pos w, within_eq d0 d1 o.a0 o.a1 c0 c1, Option.bind_some, l1, if_pos rfl, within_eq d0 d1 g0 g1 c0 c1, Option.bind_some, l2, if_pos rfl]
    cases meetB a (b + 1) c d
    · simp
    · simp
  · rw [if_neg w]
    cases meetB a (b + 1) c d
    · simp
    · simp
theorem halves_1 (k : Nat) {c d : Int} (c0 : 0 ≤ c) (c1 : c < 4294967296) (rq : rightB c d = true) :
    crossbucklaw03_CidrHalves.j1 (k + 100 + 1 + 1) false a b c d a (b + 1) (a + sz (b + 1)) (b + 1) = some true := by
  obtain ⟨g0, g1⟩ := high_bd o
  have hp := sz_pos (b + 1)
  have h2 := o.a0
  have e1 : (a + sz (b + 1) - 1) % 4294967296 = a + sz (b + 1) - 1 := by omega
  have e2 : a + sz (b + 1) + sz (b + 1) - 1 = a + sz b - 1 := by rw [sz2 o]; omega
  rw [crossbucklaw03_CidrHalves.j1, if_neg (by decide), last_eq o.a0 o.a1 (right_l o), Option.bind_some, e1, if_pos rfl, if_pos rfl, last_eq g0 g1 (right_h o), Option.bind_some, last_eq o.a0 o.a1 o.r, Option.bind_some, e2, bne_self_eq_false]
  exact halves_2 o k c0 c1 rq
theorem halves_0 (k : Nat) {c d x : Int} (c0 : 0 ≤ c) (c1 : c < 4294967296) (rq : rightB c d = true) (x0 : 0 ≤ x) (x1 : x < 4294967296) :
    crossbucklaw03_CidrHalves.j0 (k + 100 + 1 + 1 + 1) x false a b c d = some true := by
  obtain ⟨g0, g1⟩ := high_bd o
  have h0 := o.b0
  have h1 := o.b1
  have w1 : withB a (b + 1) a b = true := by
    unfold withB
    rw [low_in (a := a) (b := b), Bool.and_true, decide_eq_true_iff]
    omega
  have w2 : withB (a + sz (b + 1)) (b + 1) a b = true := by
    unfold withB
    rw [high_in o, Bool.and_true, decide_eq_true_iff]
    omega
  have e : (decide (x / sz (b + 1) / 2 = q) != (decide (x / sz (b + 1) = 2 * q) != decide (x / sz (b + 1) = 2 * q + 1))) = false := by
    by_cases u : x / sz (b + 1) = 2 * q
    · rw [u, decide_eq_true (by omega), decide_eq_true rfl, decide_eq_false (by omega)]
      rfl
    · by_cases v : x / sz (b + 1) = 2 * q + 1
      · rw [v, decide_eq_true (by omega), decide_eq_false (by omega), decide_eq_true rfl]
        rfl
      · rw [decide_eq_false (by omega), decide_eq_false u, decide_eq_false v]
        rfl
  rw [crossbucklaw03_CidrHalves.j0, if_neg (by decide), of_low o, Option.bind_some, last_eq o.a0 o.a1 o.r, Option.bind_some, of_high o, Option.bind_some, meet_eq (by omega) (by omega) (by omega) (by omega) o.a0 o.a1 g0 g1, Option.bind_some, meet_not o, if_neg (by decide),
    within_eq h0 (by omega) o.a0 o.a1 o.a0 o.a1, Option.bind_some, w1, if_pos rfl, within_eq h0 (by omega) g0 g1 o.a0 o.a1, Option.bind_some, w2, if_pos rfl, has_eq h0 (by omega) o.a0 o.a1 x0 x1, Option.bind_some, has_eq (by omega) (by omega) o.a0 o.a1 x0 x1, Option.bind_some, has_eq (by omega) (by omega) g0 g1 x0 x1, Option.bind_some, has_p o, has_l o, has_h o, e]
  exact halves_1 o k c0 c1 rq
end
theorem halves_out (k : Nat) (x a b c d : Int) : crossbucklaw03_CidrHalves.j0 (k + 100 + 1) x true a b c d = some true := by
  rw [crossbucklaw03_CidrHalves.j0, if_pos rfl, awake03p, Option.bind_some]
theorem pre_u32 {a : Int} (h : (Lit.int .u32 a).wf = true) : 0 ≤ a ∧ a < 4294967296 := by
  simp [Lit.wf, IntKind.min, IntKind.max, IntKind.signed, IntKind.bits] at h
  exact ⟨by omega, by omega⟩
theorem CidrHalves (p0 p1 q0 q1 x : Int) (w0 : (Lit.int .u32 p0).wf = true) (_ : (Lit.int .i64 p1).wf = true) (w1 : (Lit.int .u32 q0).wf = true) (_ : (Lit.int .i64 q1).wf = true) (w2 : (Lit.int .u32 x).wf = true) :
    ∃ k, crossbucklaw03_CidrHalves.f k p0 p1 q0 q1 x = some true := by
  obtain ⟨a0, a1⟩ := pre_u32 w0
  obtain ⟨c0, c1⟩ := pre_u32 w1
  obtain ⟨x0, x1⟩ := pre_u32 w2
  refine ⟨0 + 100 + 1 + 1 + 1, ?_⟩
  unfold crossbucklaw03_CidrHalves.f
  rw [refRight_eq (by omega) a0 a1, Option.bind_some]
  by_cases r : rightB p0 p1 = true
  · rw [if_pos r, refRight_eq (by omega) c0 c1, Option.bind_some]
    by_cases s : rightB q0 q1 = true
    · rw [if_pos s]
      by_cases e : p1 = 32
      · rw [beq_iff_eq.2 e]
        exact halves_out 2 ..
      · rw [beq_eq_false_iff_ne.2 e]
        exact halves_0 (halves_of a0 a1 r e) 0 c0 c1 s x0 x1
    · rw [if_neg s]
      exact halves_out 2 ..
  · rw [if_neg r]
    exact halves_out 2 ..
end Go.Proofs.Ytbnjbjjbfbbdcaa.Pure
