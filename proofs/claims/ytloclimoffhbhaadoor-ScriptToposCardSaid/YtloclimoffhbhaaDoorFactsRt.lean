/- Plain facts on prefixes: the mask of the first bits, the document's own size and Right, in numbers. No condition of its own. -/
import Derived.Test.YtloclimoffhbhaaDoorBits
import Derived.Test.YtloclimoffhbhaaDoorPStox0
import Derived.Test.YtloclimoffhbhaaDoorPStox1
import Derived.Test.YtloclimoffhbhaaDoorPStox6
namespace Go.Proofs.YtloclimoffhbhaaDoor.Facts
open Go Go.RowKit Go.Proofs.YtloclimoffhbhaaDoor.PSto Go.Proofs.YtloclimoffhbhaaDoorW.PrintWords Go.Proofs.YtloclimoffhbhaaDoorW.PrintLast Go.Proofs.YtloclimoffhbhaaDoorW.PrintMore Go.Proofs.YtloclimoffhbhaaDoor.Bits

/-- How many addresses a prefix of so many bits has. -/
def sz (n : Int) : Int := 2 ^ (32 - n).toNat
theorem sz_pos (n : Int) : 0 < sz n := two_pow_pos _
theorem sz_le {n : Int} (h : 0 ≤ n) : sz n ≤ 4294967296 := two_pow_32 (by omega)
/-- 'Right', in numbers. -/
def rightB (a b : Int) : Bool := decide (0 ≤ b) && decide (b ≤ 32) && (a % sz b == 0)
theorem mask_eq {n : Int} (h0 : 0 ≤ n) (h1 : n ≤ 32) : cidr_mask.f n = some (4294967296 - sz n) := by
  unfold cidr_mask.f sz
  by_cases h : n ≤ 0
  · obtain rfl : n = 0 := by omega
    decide
  · have e : mn n 32 = n := by unfold mn; split <;> omega
    have e2 : wrap64 (32 - n) = 32 - n := by unfold wrap64; omega
    rw [if_neg h, e, e2, if_pos (by omega)]
    congr 1
    unfold shl
    have e3 : min (32 - n).toNat IntKind.u32.bits = (32 - n).toNat := by
      have : IntKind.u32.bits = 32 := rfl
      omega
    rw [e3, IntKind.wrap_u32]
    have h2 := two_pow_pos (32 - n).toNat
    have h3 : (2 : Int) ^ (32 - n).toNat ≤ 2 ^ 31 := two_pow_le (by omega)
    have h4 : (2 : Int) ^ 31 = 2147483648 := rfl
    generalize (2 : Int) ^ (32 - n).toNat = p at *
    omega

theorem size_l0 (d : Nat) : ∀ (k : Nat) (s n : Int), n + d = 32 → 0 ≤ n → d < k → 0 ≤ s → s * 2 ^ d ≤ 4294967296 → crossbuckref03_size.l0 k s n = some (s * 2 ^ d) := by
  induction d with
  | zero =>
    intro k s n hn _ hk _ _
    obtain ⟨k, rfl⟩ : ∃ m, k = m + 1 := ⟨k - 1, by omega⟩
    simp only [crossbuckref03_size.l0]
    rw [if_neg (by omega)]
    simp
  | succ d ih =>
    intro k s n hn hn0 hk hs hb
    obtain ⟨k, rfl⟩ : ∃ m, k = m + 1 := ⟨k - 1, by omega⟩
    have e : s * 2 ^ (d + 1) = s * 2 * 2 ^ d := by rw [Int.pow_succ]; rw [Int.mul_assoc s 2, Int.mul_comm 2]
    rw [e] at hb ⊢
    have hp := two_pow_pos d
    have hle : s * 2 ≤ s * 2 * 2 ^ d := by
      have := Int.mul_le_mul_of_nonneg_left (show (1 : Int) ≤ 2 ^ d by omega) (show 0 ≤ s * 2 by omega)
      omega
    simp only [crossbuckref03_size.l0]
    rw [if_pos (by omega), wrap_u64_id _ (by omega) (by omega), show wrap64 (n + 1) = n + 1 from wrap64_id _ (by omega) (by omega)]
    exact ih k (s * 2) (n + 1) (by omega) (by omega) (by omega) (by omega) hb

theorem size_eq {k : Nat} {n : Int} (hk : 33 ≤ k) (h0 : 0 ≤ n) (h1 : n ≤ 32) : crossbuckref03_size.f k n = some (sz n) := by
  unfold crossbuckref03_size.f
  have := size_l0 (32 - n).toNat k 1 n (by omega) h0 (by omega) (by omega) (by have := sz_le h0; unfold sz at this; omega)
  rw [this, Int.one_mul]
  rfl

theorem tmod_nonneg' {a b : Int} (h : 0 ≤ a) : a.tmod b = a % b := Int.tmod_eq_emod_of_nonneg h
theorem refRight_eq {k : Nat} {a b : Int} (hk : 33 ≤ k) (h0 : 0 ≤ a) (h1 : a < 4294967296) : crossbuckref03_Right.f k a b = some (rightB a b) := by
  unfold crossbuckref03_Right.f rightB
  by_cases c : b ≥ 0
  · by_cases d : b ≤ 32
    · have := sz_pos b
      rw [if_pos c, if_pos d, size_eq hk c d]
      simp only [Option.bind_some]
      rw [if_neg (by omega), wrap_u64_id _ (by omega) (by omega), tmod_nonneg' h0]
      simp [c, d]
    · rw [if_pos c, if_neg d]; simp [d]
  · rw [if_neg c]; simp [c]

theorem tright_eq {a b : Int} (h0 : 0 ≤ a) (h1 : a < 4294967296) : cidr_Right.f a b = some (rightB a b) := by
  unfold cidr_Right.f rightB
  by_cases c : b ≥ 0
  · by_cases d : b ≤ 32
    · rw [if_pos c, if_pos d, mask_eq c d]
      simp only [Option.bind_some]
      unfold sz
      rw [andNot_hi a _ h0 h1 (by omega)]
      simp [c, d]
    · rw [if_pos c, if_neg d]; simp [d]
  · rw [if_neg c]; simp [c]
theorem rightB_iff {a b : Int} : rightB a b = true ↔ 0 ≤ b ∧ b ≤ 32 ∧ a % sz b = 0 := by
  unfold rightB; simp [and_assoc]
end Go.Proofs.YtloclimoffhbhaaDoor.Facts
