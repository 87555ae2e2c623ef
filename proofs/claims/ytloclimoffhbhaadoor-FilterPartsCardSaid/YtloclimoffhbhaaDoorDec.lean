/- Numbers written with ten digits, and read. No condition of its own. -/
import Derived.Test.YtloclimoffhbhaaDoorBits
import Derived.Lib.ItoaNum
import Derived.Test.YtloclimoffhbhaaDoorPFqx2
namespace Go.Proofs.YtloclimoffhbhaaDoor.Dec
open Go Go.RowKit Go.Proofs.YtloclimoffhbhaaDoor.PFq Go.Proofs.YtloclimoffhbhaaDoorW.PrintWords Go.Proofs.YtloclimoffhbhaaDoorW.PrintLast Go.Proofs.YtloclimoffhbhaaDoorW.PrintMore Go.Proofs.YtloclimoffhbhaaDoor.Bits
set_option linter.unusedVariables false
theorem wf_u32 {a : Int} (h : (Lit.int .u32 a).wf = true) : 0 ≤ a ∧ a < 2 ^ 32 := by
  simp [Lit.wf, IntKind.min, IntKind.max, IntKind.signed, IntKind.bits] at h
  have e : (2 : Int) ^ 32 = 4294967296 := rfl
  rw [e]
  exact ⟨by omega, by omega⟩
theorem wf_u16 {a : Int} (h : (Lit.int .u16 a).wf = true) : 0 ≤ a ∧ a < 2 ^ 16 := by
  simp [Lit.wf, IntKind.min, IntKind.max, IntKind.signed, IntKind.bits] at h
  have e : (2 : Int) ^ 16 = 65536 := rfl
  rw [e]
  exact ⟨by omega, by omega⟩
theorem wf_u8 {a : Int} (h : (Lit.int .u8 a).wf = true) : 0 ≤ a ∧ a < 2 ^ 8 := by
  simp [Lit.wf, IntKind.min, IntKind.max, IntKind.signed, IntKind.bits] at h
  have e : (2 : Int) ^ 8 = 256 := rfl
  rw [e]
  exact ⟨by omega, by omega⟩
theorem dec_small {n : Nat} (h : n < 10) : Lib.decDigits n = [UInt8.ofNat (48 + n)] := Lib.decDigits_one h
theorem dec_big {n : Nat} (h : ¬ n < 10) : Lib.decDigits n = Lib.decDigits (n / 10) ++ [UInt8.ofNat (48 + n % 10)] := by
  rw [Lib.decDigits, dif_neg h]
theorem dec_len : ∀ (d n : Nat), n < 10 ^ (d + 1) → (Lib.decDigits n).length ≤ d + 1 := by
  intro d
  induction d with
  | zero => intro n h; rw [dec_small (by simpa using h)]; simp
  | succ d ih =>
    intro n h
    by_cases c : n < 10
    · rw [dec_small c]; simp
    · rw [dec_big c, List.length_append]
      have : n / 10 < 10 ^ (d + 1) := by
        rw [Nat.pow_succ] at h
        omega
      have := ih _ this
      simp
      omega
theorem dec_head (n : Nat) : ∀ m, m ≤ n → 1 ≤ m → ∃ c l, Lib.decDigits m = c :: l ∧ c ≠ 48 := by
  induction n with
  | zero => intro m h1 h2; omega
  | succ n ih =>
    intro m h1 h2
    by_cases c : m < 10
    · refine ⟨_, [], dec_small c, ?_⟩
      intro e
      have := congrArg UInt8.toNat e
      simp at this
      omega
    · obtain ⟨a, l, e, ha⟩ := ih (m / 10) (by omega) (by omega)
      exact ⟨a, l ++ [UInt8.ofNat (48 + m % 10)], by rw [dec_big c, e]; rfl, ha⟩
theorem digit_toNat {n : Nat} (h : n < 10) : (UInt8.ofNat (48 + n)).toNat = 48 + n := by simp; omega
theorem go_digit (most : Int) {n : Nat} (h : n < 10) (rest : List UInt8) (v : Int) (v0 : 0 ≤ v) (v1 : v ≤ 100000) :
    numberGo most (UInt8.ofNat (48 + n) :: rest) v = if v * 10 + n > most then (0, 5) else numberGo most rest (v * 10 + n) := by
  rw [numberGo, digit_toNat h, if_neg (by omega)]
  have e : wrap64 (wrap64 (v * 10) + ((48 + n : Nat) - 48 : Int)) = v * 10 + n := by
    rw [wrap64_id (v * 10) (by omega) (by omega)]
    have : ((48 + n : Nat) : Int) = 48 + (n : Int) := by simp
    rw [this, wrap64_id _ (by omega) (by omega)]
    omega
  rw [e]
theorem go_digits (most : Int) (rest : List UInt8) (N : Nat) : ∀ m, m ≤ N → m ≤ 100000 → ∀ rest : List UInt8, numberGo most (Lib.decDigits m ++ rest) 0 = if (m : Int) > most then (0, 5) else numberGo most rest m := by
  induction N with
  | zero =>
    intro m h _ rest
    have : m = 0 := by omega
    subst this
    rw [dec_small (by decide), List.singleton_append, go_digit most (by decide) rest 0 (by decide) (by decide)]
    simp
  | succ N ih =>
    intro m h h2 rest
    by_cases c : m < 10
    · rw [dec_small c, List.singleton_append, go_digit most c rest 0 (by decide) (by decide)]
      simp
    · rw [dec_big c, List.append_assoc, ih (m / 10) (by omega) (by omega), List.singleton_append, go_digit most (Nat.mod_lt _ (by decide)) rest _ (by omega) (by omega)]
      have e : ((m / 10 : Nat) : Int) * 10 + ((m % 10 : Nat) : Int) = m := by omega
      rw [e]
      by_cases d : ((m / 10 : Nat) : Int) > most
      · rw [if_pos d, if_pos (by omega)]
      · rw [if_neg d]

theorem bad_dec (m : Nat) : numberBad (Lib.decDigits m) = false := by
  by_cases h : 1 ≤ m
  · obtain ⟨c, l, e, hc⟩ := dec_head m m (Nat.le_refl _) h
    rw [e]
    simp [numberBad, hc]
  · have : m = 0 := by omega
    subst this
    rw [dec_small (by decide)]
    rfl
/-- The four readings. -/
theorem number_dec (m : Nat) (h : m ≤ 65535) (S : ByteArray) (hS : S = ⟨(Lib.decDigits m).toArray⟩) (most : Int) : hdr_Number.f S most = some (if (m : Int) > most then (0, 5) else ((m : Int), 0)) := by
  subst hS
  unfold hdr_Number.f
  have := go_digits most [] m m (Nat.le_refl _) (by omega) []
  rw [List.append_nil] at this
  simp only [bad_dec]
  rw [if_neg (by decide), this]
  rfl
end Go.Proofs.YtloclimoffhbhaaDoor.Dec
