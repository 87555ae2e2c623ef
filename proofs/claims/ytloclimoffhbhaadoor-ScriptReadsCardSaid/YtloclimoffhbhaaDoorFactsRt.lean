/- Plain facts on prefixes: the mask of the first bits, the document's own size and Right, in numbers. No condition of its own. -/
import Derived.Test.YtloclimoffhbhaaDoorBits
import Derived.Test.YtloclimoffhbhaaDoorPSrex0
import Derived.Test.YtloclimoffhbhaaDoorPSrex1
import Derived.Test.YtloclimoffhbhaaDoorPSrex7
namespace Go.Proofs.YtloclimoffhbhaaDoor.Facts
open Go Go.RowKit Go.Proofs.YtloclimoffhbhaaDoor.PSre Go.Proofs.YtloclimoffhbhaaDoorW.PrintWords Go.Proofs.YtloclimoffhbhaaDoorW.PrintLast Go.Proofs.YtloclimoffhbhaaDoorW.PrintMore Go.Proofs.YtloclimoffhbhaaDoor.Bits

/-- How many addresses a prefix of so many bits has. -/
def sz (n : Int) : Int := 2 ^ (32 - n).toNat
/-- 'Right', in numbers. -/
def rightB (a b : Int) : Bool := decide (0 ≤ b) && decide (b ≤ 32) && (a % sz b == 0)
theorem mask_eq {n : Int} (h0 : 0 ≤ n) (h1 : n ≤ 32) : cidr_mask.f n = some (4294967296 - sz n) := by
  unfold cidr_mask.f sz
  by_cases h : n ≤ 0
  · obtain rfl : n = 0 := by omega
    decide
  · have e : mn n 32 = n := by unfold mn; split <;> omega
    have e2 : wrap64 (32 - n) = 32 - n := by unfold wrap64; omega
    rw [if_neg h, e, e2, if_pos (by omega)]
    congr 1
    unfold shl
    have e3 : min (32 - n).toNat IntKind.u32.bits = (32 - n).toNat := by
      have : IntKind.u32.bits = 32 := rfl
      omega
    rw [e3, IntKind.wrap_u32]
    have h2 := two_pow_pos (32 - n).toNat
    have h3 : (2 : Int) ^ (32 - n).toNat ≤ 2 ^ 31 := two_pow_le (by omega)
    have h4 : (2 : Int) ^ 31 = 2147483648 := rfl
    generalize (2 : Int) ^ (32 - n).toNat = p at *
    omega

theorem tright_eq {a b : Int} (h0 : 0 ≤ a) (h1 : a < 4294967296) : cidr_Right.f a b = some (rightB a b) := by
  unfold cidr_Right.f rightB
  by_cases c : b ≥ 0
  · by_cases d : b ≤ 32
    · rw [if_pos c, if_pos d, mask_eq c d]
      simp only [Option.bind_some]
      unfold sz
      rw [andNot_hi a _ h0 h1 (by omega)]
      simp [c, d]
    · rw [if_pos c, if_neg d]; simp [d]
  · rw [if_neg c]; simp [c]
theorem rightB_iff {a b : Int} : rightB a b = true ↔ 0 ≤ b ∧ b ≤ 32 ∧ a % sz b = 0 := by
  unfold rightB; simp [and_assoc]
end Go.Proofs.YtloclimoffhbhaaDoor.Facts
