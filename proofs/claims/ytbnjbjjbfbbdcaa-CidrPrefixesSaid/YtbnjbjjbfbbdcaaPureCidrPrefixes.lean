/- crossbucklaw03.CidrPrefixes answers true for every two prefixes, address and number. No condition of its own. -/
import Derived.Test.YtbnjbjjbfbbdcaaFactsC
import Derived.Test.YtbnjbjjbfbbdcaaPCPx10
import Derived.Test.YtbnjbjjbfbbdcaaPCPx14
import Derived.Test.YtbnjbjjbfbbdcaaPCPx15
import Derived.Test.YtbnjbjjbfbbdcaaPCPx21
import Derived.Test.YtbnjbjjbfbbdcaaPCPx22d
namespace Go.Proofs.Ytbnjbjjbfbbdcaa.Pure
open Go Go.RowKit Go.Proofs.Ytbnjbjjbfbbdcaa.PCP Go.Proofs.YtbnjbjjbfbbdcaaW.PrintWords Go.Proofs.YtbnjbjjbfbbdcaaW.PrintLast Go.Proofs.YtbnjbjjbfbbdcaaW.PrintMore Go.Proofs.Ytbnjbjjbfbbdcaa.Bits Go.Proofs.Ytbnjbjjbfbbdcaa.Facts
set_option linter.unusedVariables false

theorem tright_eq {a b : Int} (h0 : 0 ≤ a) (h1 : a < 4294967296) : cidr_Right.f a b = some (rightB a b) := by
  unfold cidr_Right.f rightB
  by_cases c : b ≥ 0
  · by_cases d : b ≤ 32
    · rw [if_pos c, if_pos d, mask_eq c d]
      simp only [Option.bind_some]
      unfold sz
      rw [andNot_hi a _ h0 h1 (by omega)]
      simp [c, d]
    · rw [if_pos c, if_neg d]; simp [d]
  · rw [if_neg c]; simp [c]

theorem awake03p (k : Nat) : crossbucklaw03_awake.f (k + 100) = some true := by
  induction k with
  | zero => decide +kernel
  | succ k ih => rw [show k + 1 + 100 = (k + 100) + 1 by omega]; exact crossbucklaw03_awake.mono _ _ ih

theorem ones_fin : ∀ j : Fin 33, bits .xor .u32 4294967295 (4294967296 - 2 ^ j.val) = 2 ^ j.val - 1 := by decide +kernel
theorem last_top {a b : Int} (h0 : 0 ≤ a) (h1 : a < 4294967296) (hr : rightB a b = true) : a + sz b ≤ 4294967296 := by
  obtain ⟨b0, b1, hz⟩ := rightB_iff.1 hr
  obtain ⟨m, hm, e⟩ := sz_split (b := b) (b' := 0) b0 b1
  have e0 : sz 0 = 4294967296 := by decide
  rw [e0] at e
  have hp := sz_pos b
  have ha := Int.mul_ediv_add_emod a (sz b)
  rw [hz, Int.add_zero] at ha
  by_cases c : a / sz b < m
  · have := Int.mul_le_mul_of_nonneg_left (show a / sz b + 1 ≤ m by omega) (by omega : 0 ≤ sz b)
    rw [Int.mul_add, Int.mul_one] at this
    omega
  · have := Int.mul_le_mul_of_nonneg_left (show m ≤ a / sz b by omega) (by omega : 0 ≤ sz b)
    omega
theorem last_eq {a b : Int} (h0 : 0 ≤ a) (h1 : a < 4294967296) (hr : rightB a b = true) : cidr_Last.f a b = some (a + sz b - 1) := by
  obtain ⟨b0, b1, hz⟩ := rightB_iff.1 hr
  unfold cidr_Last.f
  rw [mask_eq b0 b1, Option.bind_some]
  unfold sz at hz ⊢
  have hj : (32 - b).toNat < 33 := by omega
  have h := ones_fin ⟨(32 - b).toNat, hj⟩
  simp only at h
  rw [h, or_lo a _ h0 h1 (by omega) hz]
theorem refLast_eq {k : Nat} (hk : 33 ≤ k) {a b : Int} (h0 : 0 ≤ a) (h1 : a < 4294967296) (hr : rightB a b = true) : crossbuckref03_Last.f k a b = some (a + sz b - 1) := by
  have ht := last_top h0 h1 hr
  obtain ⟨b0, b1, hz⟩ := rightB_iff.1 hr
  have hp := sz_pos b
  unfold crossbuckref03_Last.f
  rw [size_eq hk b0 b1, Option.bind_some, wrap_u64_id a (by omega) (by omega), wrap_u64_id (a + sz b) (by omega) (by omega), wrap_u64_id (a + sz b - 1) (by omega) (by omega), Int.emod_eq_of_lt (by omega) (by omega)]

def cmpP (a b a' b' : Int) : Int := if a < a' then -1 else if a > a' then 1 else if b < b' then -1 else if b > b' then 1 else 0
theorem or_two (k : Nat) (x y : Int) : cmp_Or_int.f (k + 3) [x, y] = some (if x = 0 then y else x) := by
  unfold cmp_Or_int.f
  have w1 : wrap64 ((0 : Int) + 1) = 1 := wrap64_id _ (by decide) (by decide)
  have w2 : wrap64 ((1 : Int) + 1) = 2 := wrap64_id _ (by decide) (by decide)
  have l2 : (([x, y] : List Int).length : Int) = 2 := rfl
  have r0 : rd [x, y] 0 = x := rfl
  have r1 : rd [x, y] 1 = y := rfl
  rw [l2, cmp_Or_int.l0, if_pos (by decide), if_pos (by decide), l2, if_pos (by decide), r0, w1]
  by_cases c : x = 0
  · rw [if_pos c, if_pos c, cmp_Or_int.l0, if_pos (by decide), if_pos (by decide), l2, if_pos (by decide), r1, w2]
    by_cases d : y = 0
    · rw [if_pos d, cmp_Or_int.l0, if_neg (by decide), d]
    · rw [if_neg d]
  · rw [if_neg c, if_neg c]
theorem comp_eq (k : Nat) (a b a' b' : Int) : cidr_Compare.f (k + 3) a b a' b' = some (cmpP a b a' b') := by
  have e1 : ∀ x y : Int, cmp_Compare_uint32.f x y = some (if x < y then -1 else if x > y then 1 else 0) := by
    intro x y; simp [cmp_Compare_uint32.f, cmp_isNaN_uint32.f]; split <;> (try rfl) <;> split <;> rfl
  have e2 : ∀ x y : Int, cmp_Compare_int.f x y = some (if x < y then -1 else if x > y then 1 else 0) := by
    intro x y; simp [cmp_Compare_int.f, cmp_isNaN_int.f]; split <;> (try rfl) <;> split <;> rfl
  unfold cidr_Compare.f cmpP
  rw [e1, e2, Option.bind_some, Option.bind_some, or_two, Option.bind_some]
  by_cases c : a < a'
  · rw [if_pos c, if_pos c, if_neg (by decide)]
  · rw [if_neg c, if_neg c]
    by_cases d : a > a'
    · rw [if_pos d, if_pos d, if_neg (by decide)]
    · rw [if_neg d, if_neg d, if_pos rfl]

theorem pre_five (k : Nat) {p0 p1 q0 q1 x : Int} (hp0 : 0 ≤ p0) (hp1 : p0 < 4294967296) (hq0 : 0 ≤ q0) (hq1 : q0 < 4294967296) (x0 : 0 ≤ x) (x1 : x < 4294967296) (rp : rightB p0 p1 = true) (rq : rightB q0 q1 = true)
    (IN OUT : Bool) (hI : IN = withB p0 p1 q0 q1) (hO : meetB p0 p1 q0 q1 = (IN || OUT)) : crossbucklaw03_CidrPrefixes.j5 (k + 101) x IN OUT (cmpP p0 p1 q0 q1) p0 p1 q0 q1 = some true := by
  obtain ⟨b0, b1, _⟩ := rightB_iff.1 rp
  obtain ⟨c0, c1, _⟩ := rightB_iff.1 rq
  rw [crossbucklaw03_CidrPrefixes.j5, awake03p, Option.bind_some, if_pos rfl, has_eq b0 b1 hp0 hp1 x0 x1, Option.bind_some, refHas_eq (by omega) b0 b1 hp0 hp1 x0 x1, Option.bind_some, if_pos (by simp), last_eq hp0 hp1 rp, Option.bind_some, refLast_eq (by omega) hp0 hp1 rp, Option.bind_some, if_pos rfl,
    within_eq c0 c1 hp0 hp1 hq0 hq1, Option.bind_some, if_pos (by simp [hI]), meet_eq b0 b1 c0 c1 hp0 hp1 hq0 hq1, Option.bind_some, hO]
  have hc := comp_eq (k + 97) p0 p1 q0 q1
  cases IN
  · rw [if_neg (by decide), if_pos (by simp), hc]; simp
  · rw [if_pos rfl, if_pos (by simp), hc]; simp

theorem pre_tail (k : Nat) {p0 p1 q0 q1 x : Int} (hp0 : 0 ≤ p0) (hp1 : p0 < 4294967296) (hq0 : 0 ≤ q0) (hq1 : q0 < 4294967296) (x0 : 0 ≤ x) (x1 : x < 4294967296) :
    crossbucklaw03_CidrPrefixes.j0 (k + 106) x false p0 p1 q0 q1 = some true := by
  have aw : ∀ n, crossbucklaw03_CidrPrefixes.j1 (n + 105) x true p0 p1 q0 q1 = some true := by
    intro n
    rw [crossbucklaw03_CidrPrefixes.j1, if_pos rfl, awake03p (n + 4)]; rfl
  rw [crossbucklaw03_CidrPrefixes.j0, if_neg (by decide), refRight_eq (by omega) hp0 hp1, Option.bind_some]
  by_cases rp : rightB p0 p1 = true
  · rw [if_pos rp, refRight_eq (by omega) hq0 hq1, Option.bind_some]
    by_cases rq : rightB q0 q1 = true
    · obtain ⟨b0, b1, _⟩ := rightB_iff.1 rp
      obtain ⟨c0, c1, _⟩ := rightB_iff.1 rq
      rw [rq]
      have h2 : ∀ IN, IN = withB p0 p1 q0 q1 → crossbucklaw03_CidrPrefixes.j2 (k + 104) x IN p0 p1 q0 q1 = some true := by
        intro IN hI
        have h3 : ∀ OUT, meetB p0 p1 q0 q1 = (IN || OUT) → crossbucklaw03_CidrPrefixes.j3 (k + 103) x IN OUT p0 p1 q0 q1 = some true := by
          intro OUT hO
          have h5 := pre_five k hp0 hp1 hq0 hq1 x0 x1 rp rq IN OUT hI hO
          have h4 : ∀ b : Bool, (b = true ↔ cmpP p0 p1 q0 q1 = -1) → crossbucklaw03_CidrPrefixes.j4 (k + 102) x IN OUT 0 b p0 p1 q0 q1 = some true := by
            intro b hb
            rw [crossbucklaw03_CidrPrefixes.j4]
            by_cases e : b = true
            · rw [if_pos e, ← hb.1 e]; exact h5
            · rw [if_neg e]
              have hne : ¬ cmpP p0 p1 q0 q1 = -1 := fun h => e (hb.2 h)
              by_cases g : (!(p0 == q0) || (!(p1 == q1))) = true
              · have : cmpP p0 p1 q0 q1 = 1 := by
                  simp at g
                  unfold cmpP at hne ⊢
                  split <;> rename_i u
                  · rw [if_pos u] at hne; exact absurd rfl hne
                  · rw [if_neg u] at hne
                    split <;> rename_i u2
                    · rfl
                    · rw [if_neg u2] at hne
                      split <;> rename_i u3
                      · rw [if_pos u3] at hne; exact absurd rfl hne
                      · rw [if_pos (by omega)]
                rw [if_pos g, ← this]; exact h5
              · have : cmpP p0 p1 q0 q1 = 0 := by
                  simp at g
                  obtain ⟨rfl, rfl⟩ := g
                  unfold cmpP
                  rw [if_neg (by omega), if_neg (by omega), if_neg (by omega), if_neg (by omega)]
                rw [if_neg g, ← this]; exact h5
          rw [crossbucklaw03_CidrPrefixes.j3]
          by_cases u : p0 < q0
          · rw [if_pos u]; exact h4 true ⟨fun _ => by unfold cmpP; rw [if_pos u], fun _ => rfl⟩
          · rw [if_neg u]
            by_cases u2 : p0 = q0
            · rw [if_pos u2]
              refine h4 _ ?_
              unfold cmpP
              rw [if_neg u, if_neg (by omega), decide_eq_true_eq]
              by_cases u3 : p1 < q1
              · simp [u3]
              · rw [if_neg u3]; simp [u3]; split <;> decide
            · rw [if_neg u2]
              refine h4 false ⟨fun h => absurd h (by decide), fun h => ?_⟩
              unfold cmpP at h
              rw [if_neg u, if_pos (by omega)] at h
              exact absurd h (by decide)
        rw [crossbucklaw03_CidrPrefixes.j2]
        have hm : meetB p0 p1 q0 q1 = (IN || withB q0 q1 p0 p1) := by rw [hI]; rfl
        by_cases u : q1 ≥ p1
        · rw [if_pos u, refHas_eq (by omega) b0 b1 hp0 hp1 hq0 hq1, Option.bind_some]
          refine h3 _ ?_
          rw [hm]; unfold withB; rw [decide_eq_true (by omega : p1 ≤ q1), Bool.true_and]
        · rw [if_neg u]
          refine h3 _ ?_
          rw [hm]; unfold withB; rw [decide_eq_false (by omega : ¬ p1 ≤ q1), Bool.false_and]
      rw [crossbucklaw03_CidrPrefixes.j1, if_neg (by decide)]
      by_cases u : p1 ≥ q1
      · rw [if_pos u, refHas_eq (by omega) c0 c1 hq0 hq1 hp0 hp1, Option.bind_some]
        exact h2 _ (by unfold withB; rw [decide_eq_true (by omega : q1 ≤ p1), Bool.true_and])
      · rw [if_neg u]
        exact h2 _ (by unfold withB; rw [decide_eq_false (by omega : ¬ q1 ≤ p1), Bool.false_and])
    · rw [Bool.eq_false_iff.2 rq]; exact aw k
  · rw [if_neg rp]; exact aw k

theorem pre_u32 {a : Int} (h : (Lit.int .u32 a).wf = true) : 0 ≤ a ∧ a < 4294967296 := by
  simp [Lit.wf, IntKind.min, IntKind.max, IntKind.signed, IntKind.bits] at h
  exact ⟨by omega, by omega⟩
theorem CidrPrefixes (p0 p1 q0 q1 x n : Int) (w0 : (Lit.int .u32 p0).wf = true) (_ : (Lit.int .i64 p1).wf = true) (w1 : (Lit.int .u32 q0).wf = true) (_ : (Lit.int .i64 q1).wf = true) (w2 : (Lit.int .u32 x).wf = true) (_ : (Lit.int .i64 n).wf = true) :
    ∃ k, crossbucklaw03_CidrPrefixes.f k p0 p1 q0 q1 x n = some true := by
  obtain ⟨hp0, hp1⟩ := pre_u32 w0
  obtain ⟨hq0, hq1⟩ := pre_u32 w1
  obtain ⟨x0, x1⟩ := pre_u32 w2
  have ht := pre_tail 0 (p1 := p1) (q1 := q1) hp0 hp1 hq0 hq1 x0 x1
  refine ⟨0 + 106, ?_⟩
  unfold crossbucklaw03_CidrPrefixes.f
  obtain ⟨o0, o1⟩ := of_bd n x0 x1
  have cl := clamp_lo n
  have ch := clamp_hi n
  rw [tright_eq hp0 hp1, Option.bind_some, refRight_eq (by omega) hp0 hp1, Option.bind_some, if_neg (by simp), of_eq n x0 x1, Option.bind_some, refRight_eq (by omega) o0 o1, Option.bind_some, of_right, if_pos rfl, refHas_eq (by omega) cl ch o0 o1 x0 x1, Option.bind_some, of_has, if_pos rfl]
  by_cases c : n < 0
  · have e : clamp n = 0 := by unfold clamp; rw [if_pos c]
    rw [if_neg (by omega), if_pos c, e, if_pos rfl, if_neg (by omega)]
    exact ht
  · rw [if_pos (by omega : n ≥ 0)]
    by_cases d : n ≤ 32
    · have e := clamp_id (n := n) (by omega) d
      rw [if_pos d, e, if_pos rfl, if_neg c, if_neg (by omega)]
      exact ht
    · have e : clamp n = 32 := by unfold clamp; rw [if_neg c, if_pos (by omega)]
      rw [if_neg d, if_neg c, if_pos (by omega), e]
      exact ht
end Go.Proofs.Ytbnjbjjbfbbdcaa.Pure
