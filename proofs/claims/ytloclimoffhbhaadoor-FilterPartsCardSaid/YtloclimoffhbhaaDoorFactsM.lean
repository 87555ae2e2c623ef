/- Plain facts: cidr's Within and Meet in numbers, and how two prefixes lie in each other. No condition of its own. -/
import Derived.Test.YtloclimoffhbhaaDoorFactsH
import Derived.Test.YtloclimoffhbhaaDoorPFqx4
namespace Go.Proofs.YtloclimoffhbhaaDoor.Facts
open Go Go.RowKit Go.Proofs.YtloclimoffhbhaaDoor.PFq Go.Proofs.YtloclimoffhbhaaDoorW.PrintWords Go.Proofs.YtloclimoffhbhaaDoorW.PrintLast Go.Proofs.YtloclimoffhbhaaDoorW.PrintMore Go.Proofs.YtloclimoffhbhaaDoor.Bits

/-- 'Within', in numbers: the first in the second. -/
def withB (a b a' b' : Int) : Bool := decide (b' ≤ b) && hasB a' b' a
theorem within_eq {a b a' b' : Int} (hb0 : 0 ≤ b') (hb1 : b' ≤ 32) (h0 : 0 ≤ a) (h1 : a < 4294967296) (g0 : 0 ≤ a') (g1 : a' < 4294967296) : cidr_Within.f a b a' b' = some (withB a b a' b') := by
  unfold cidr_Within.f withB
  by_cases c : b ≥ b'
  · rw [if_pos c, has_eq hb0 hb1 g0 g1 h0 h1]; simp [c]
  · rw [if_neg c]; simp [c]
def meetB (a b a' b' : Int) : Bool := withB a b a' b' || withB a' b' a b
theorem meet_eq {a b a' b' : Int} (c0 : 0 ≤ b) (c1 : b ≤ 32) (hb0 : 0 ≤ b') (hb1 : b' ≤ 32) (h0 : 0 ≤ a) (h1 : a < 4294967296) (g0 : 0 ≤ a') (g1 : a' < 4294967296) : cidr_Meet.f a b a' b' = some (meetB a b a' b') := by
  unfold cidr_Meet.f meetB
  rw [within_eq hb0 hb1 h0 h1 g0 g1]
  simp only [Option.bind_some]
  cases withB a b a' b' with
  | true => rfl
  | false => rw [if_neg (by decide), within_eq c0 c1 g0 g1 h0 h1]; rfl

theorem sz_split {b b' : Int} (h : b' ≤ b) (hb : b ≤ 32) : ∃ m : Int, 0 < m ∧ sz b' = sz b * m := by
  refine ⟨2 ^ (b - b').toNat, two_pow_pos _, ?_⟩
  unfold sz
  rw [← Int.pow_add]
  congr 1
  omega
/-- What is one in more bits is one in fewer. -/
theorem div_wider {b b' x y : Int} (h : b' ≤ b) (hb : b ≤ 32) (e : x / sz b = y / sz b) : x / sz b' = y / sz b' := by
  obtain ⟨m, _, hs⟩ := sz_split h hb
  have := sz_pos b
  rw [hs, ← Int.ediv_ediv_of_nonneg (by omega), ← Int.ediv_ediv_of_nonneg (by omega), e]
theorem has_nest {a b a' b' x : Int} (h : b' ≤ b) (hb : b ≤ 32) (h1 : hasB a' b' a = true) (h2 : hasB a b x = true) : hasB a' b' x = true :=
  hasB_iff.2 ((div_wider h hb (hasB_iff.1 h2)).trans (hasB_iff.1 h1))
theorem has_common {a b a' b' x : Int} (h : b' ≤ b) (hb : b ≤ 32) (h1 : hasB a b x = true) (h2 : hasB a' b' x = true) : hasB a' b' a = true :=
  hasB_iff.2 ((div_wider h hb (hasB_iff.1 h1)).symm.trans (hasB_iff.1 h2))
/-- Two that have an address in common meet. -/
theorem meet_common {a b a' b' x : Int} (hb : b ≤ 32) (hb' : b' ≤ 32) (h1 : hasB a b x = true) (h2 : hasB a' b' x = true) : meetB a b a' b' = true := by
  unfold meetB withB
  by_cases c : b' ≤ b
  · rw [has_common c hb h1 h2]; simp [c]
  · rw [has_common (show b ≤ b' by omega) hb' h2 h1]; simp [show b ≤ b' by omega]
theorem hasB_self (a b : Int) : hasB a b a = true := by unfold hasB; simp
theorem meetB_iff {a b a' b' : Int} : meetB a b a' b' = true ↔ (b' ≤ b ∧ hasB a' b' a = true) ∨ (b ≤ b' ∧ hasB a b a' = true) := by
  unfold meetB withB
  simp
end Go.Proofs.YtloclimoffhbhaaDoor.Facts
