/- crossbucklaw02.HdrNumbers answers true for every number and bound: as numbers. No condition of its own. -/
import Derived.Test.YtloclimoffhbhaaDoorHdr
import Derived.Test.YtloclimoffhbhaaDoorPAllx91
namespace Go.Proofs.YtloclimoffhbhaaDoor.Pure
open Go Go.RowKit Go.Proofs.YtloclimoffhbhaaDoor.PAll Go.Proofs.YtloclimoffhbhaaDoorW.PrintWords Go.Proofs.YtloclimoffhbhaaDoorW.PrintLast Go.Proofs.YtloclimoffhbhaaDoorW.PrintMore Go.Proofs.YtloclimoffhbhaaDoor.Bits Go.Proofs.YtloclimoffhbhaaDoor.Hdr
set_option linter.unusedVariables false

theorem dec_small {n : Nat} (h : n < 10) : Lib.decDigits n = [UInt8.ofNat (48 + n)] := Lib.decDigits_one h
theorem dec_big {n : Nat} (h : ¬ n < 10) : Lib.decDigits n = Lib.decDigits (n / 10) ++ [UInt8.ofNat (48 + n % 10)] := by
  rw [Lib.decDigits, dif_neg h]
theorem dec_len : ∀ (d n : Nat), n < 10 ^ (d + 1) → (Lib.decDigits n).length ≤ d + 1 := by
  intro d
  induction d with
  | zero => intro n h; rw [dec_small (by simpa using h)]; simp
  | succ d ih =>
    intro n h
    by_cases c : n < 10
    · rw [dec_small c]; simp
    · rw [dec_big c, List.length_append]
      have : n / 10 < 10 ^ (d + 1) := by
        rw [Nat.pow_succ] at h
        omega
      have := ih _ this
      simp
      omega
theorem dec_head (n : Nat) : ∀ m, m ≤ n → 1 ≤ m → ∃ c l, Lib.decDigits m = c :: l ∧ c ≠ 48 := by
  induction n with
  | zero => intro m h1 h2; omega
  | succ n ih =>
    intro m h1 h2
    by_cases c : m < 10
    · refine ⟨_, [], dec_small c, ?_⟩
      intro e
      have := congrArg UInt8.toNat e
      simp at this
      omega
    · obtain ⟨a, l, e, ha⟩ := ih (m / 10) (by omega) (by omega)
      exact ⟨a, l ++ [UInt8.ofNat (48 + m % 10)], by rw [dec_big c, e]; rfl, ha⟩
theorem digit_toNat {n : Nat} (h : n < 10) : (UInt8.ofNat (48 + n)).toNat = 48 + n := by simp; omega
theorem go_digit (most : Int) {n : Nat} (h : n < 10) (rest : List UInt8) (v : Int) (v0 : 0 ≤ v) (v1 : v ≤ 100000) :
    numberGo most (UInt8.ofNat (48 + n) :: rest) v = if v * 10 + n > most then (0, 5) else numberGo most rest (v * 10 + n) := by
  rw [numberGo, digit_toNat h, if_neg (by omega)]
  have e : wrap64 (wrap64 (v * 10) + ((48 + n : Nat) - 48 : Int)) = v * 10 + n := by
    rw [wrap64_id (v * 10) (by omega) (by omega)]
    have : ((48 + n : Nat) : Int) = 48 + (n : Int) := by simp
    rw [this, wrap64_id _ (by omega) (by omega)]
    omega
  rw [e]
theorem go_digits (most : Int) (rest : List UInt8) (N : Nat) : ∀ m, m ≤ N → m ≤ 100000 → ∀ rest : List UInt8, numberGo most (Lib.decDigits m ++ rest) 0 = if (m : Int) > most then (0, 5) else numberGo most rest m := by
  induction N with
  | zero =>
    intro m h _ rest
    have : m = 0 := by omega
    subst this
    rw [dec_small (by decide), List.singleton_append, go_digit most (by decide) rest 0 (by decide) (by decide)]
    simp
  | succ N ih =>
    intro m h h2 rest
    by_cases c : m < 10
    · rw [dec_small c, List.singleton_append, go_digit most c rest 0 (by decide) (by decide)]
      simp
    · rw [dec_big c, List.append_assoc, ih (m / 10) (by omega) (by omega), List.singleton_append, go_digit most (Nat.mod_lt _ (by decide)) rest _ (by omega) (by omega)]
      have e : ((m / 10 : Nat) : Int) * 10 + ((m % 10 : Nat) : Int) = m := by omega
      rw [e]
      by_cases d : ((m / 10 : Nat) : Int) > most
      · rw [if_pos d, if_pos (by omega)]
      · rw [if_neg d]

theorem bad_dec (m : Nat) : numberBad (Lib.decDigits m) = false := by
  by_cases h : 1 ≤ m
  · obtain ⟨c, l, e, hc⟩ := dec_head m m (Nat.le_refl _) h
    rw [e]
    simp [numberBad, hc]
  · have : m = 0 := by omega
    subst this
    rw [dec_small (by decide)]
    rfl
/-- The four readings. -/
theorem number_dec (m : Nat) (h : m ≤ 65535) (S : ByteArray) (hS : S = ⟨(Lib.decDigits m).toArray⟩) (most : Int) : hdr_Number.f S most = some (if (m : Int) > most then (0, 5) else ((m : Int), 0)) := by
  subst hS
  unfold hdr_Number.f
  have := go_digits most [] m m (Nat.le_refl _) (by omega) []
  rw [List.append_nil] at this
  simp only [bad_dec]
  rw [if_neg (by decide), this]
  rfl
theorem number_zero (m : Nat) (S : ByteArray) (hS : S = ⟨(Lib.decDigits m).toArray⟩) (most : Int) : hdr_Number.f ((⟨#[48]⟩ : ByteArray) ++ S) most = some (0, 6) := by
  subst hS
  unfold hdr_Number.f
  have e : ((⟨#[48]⟩ : ByteArray) ++ ⟨(Lib.decDigits m).toArray⟩).data.toList = 48 :: Lib.decDigits m := by simp
  rw [e, if_pos]
  have : 1 ≤ (Lib.decDigits m).length := by rw [Lib.decDigits_length]; exact Lib.nDigits_pos m
  simp [numberBad]
  omega
theorem number_behind (m : Nat) (h : m ≤ 65535) (S : ByteArray) (hS : S = ⟨(Lib.decDigits m).toArray⟩) : hdr_Number.f (S ++ (⟨#[32]⟩ : ByteArray)) 1048576 = some (0, 6) := by
  subst hS
  unfold hdr_Number.f
  have e : ((⟨(Lib.decDigits m).toArray⟩ : ByteArray) ++ (⟨#[32]⟩ : ByteArray)).data.toList = Lib.decDigits m ++ [32] := by simp
  rw [e]
  split
  · rfl
  · rw [go_digits 1048576 [] m m (Nat.le_refl _) (by omega) [32], if_neg (by omega), numberGo, if_pos (by decide)]
theorem number_minus (S : ByteArray) (most : Int) : hdr_Number.f ((⟨#[45]⟩ : ByteArray) ++ S) most = some (0, 6) := by
  unfold hdr_Number.f
  have e : ((⟨#[45]⟩ : ByteArray) ++ S).data.toList = 45 :: S.data.toList := by simp
  rw [e]
  split
  · rfl
  · rw [numberGo, if_pos (by decide)]

theorem numbers_loop (n : Nat) (hn : n ≤ 65535) (x1 : Int) (h0 : 0 ≤ x1) (h1 : x1 ≤ 65535) (k : Nat) : ∀ (d m : Nat) (x5 : ByteArray), m < 10 ^ (d + 1) → m ≤ 65535 → Lib.decDigits m ++ x5.data.toList = Lib.decDigits n →
    crossbucklaw02_HdrNumbers.l0 (k + 6 + d + 1) n x1 x5 m = some true := by
  intro d
  induction d with
  | zero =>
    intro m x5 hm hm2 hd
    have hS := dec_len 4 n (by have : (10 : Nat) ^ (4 + 1) = 100000 := rfl; omega)
    have hx : x5.size ≤ 5 := by
      have := congrArg List.length hd
      rw [List.length_append] at this
      have e : x5.size = x5.data.toList.length := rfl
      omega
    have hm' : m < 10 := by simpa using hm
    have ey : wrap64 (48 + Int.tmod m 10) % 256 = (48 + m : Nat) := by
      rw [Int.tmod_eq_emod_of_nonneg (Int.natCast_nonneg _), wrap64_id _ (by omega) (by omega)]
      omega
    have es : strOfNums [((48 + m : Nat) : Int)] ++ x5 = ⟨(Lib.decDigits n).toArray⟩ := by
      rw [← hd, dec_small hm']
      apply ByteArray.ext
      apply Array.toList_inj.mp
      unfold strOfNums
      rw [ByteArray.data_append, Array.toList_append]
      rfl
    have ez : (strOfNums [((48 + m : Nat) : Int)]).size = 1 := by simp [strOfNums, ByteArray.size]
    have hsz : (⟨(Lib.decDigits n).toArray⟩ : ByteArray).size = (Lib.decDigits n).length := by simp [ByteArray.size]
    rw [crossbucklaw02_HdrNumbers.l0, ey, Option.bind_some, if_pos (by rw [ez]; omega), if_pos (by omega), es, wrap64_id x1 (by omega) (by omega), number_dec n hn _ rfl, Option.bind_some, hsz, if_pos (by omega), number_zero n _ rfl, Option.bind_some, if_pos (by omega),
      number_behind n hn _ rfl, Option.bind_some, number_minus, Option.bind_some]
    by_cases c : (n : Int) > x1
    · rw [if_pos c, awake, Option.bind_some, if_pos rfl, if_pos c]
      rfl
    · rw [if_neg c, awake, Option.bind_some, if_pos rfl, if_neg c, if_pos rfl, if_pos (by simp only []; rw [wrap64_id _ (by omega) (by omega)])]
      rfl
  | succ d ih =>
    intro m x5 hm hm2 hd
    by_cases hm' : m < 10
    · have hm1 : m < 10 ^ (d + 1) := Nat.lt_of_lt_of_le hm' (by rw [Nat.pow_succ]; have := Nat.pow_pos (n := d) (show 0 < 10 by decide); omega)
      exact crossbucklaw02_HdrNumbers.mono_l _ _ _ _ _ _ (ih m x5 hm1 hm2 hd)
    · have hS := dec_len 4 n (by have : (10 : Nat) ^ (4 + 1) = 100000 := rfl; omega)
      have hlt : m / 10 < 10 ^ (d + 1) := by
        rw [Nat.pow_succ] at hm
        omega
      have hx : x5.size ≤ 5 := by
        have := congrArg List.length hd
        rw [List.length_append] at this
        have e : x5.size = x5.data.toList.length := rfl
        omega
      have c1 : 1 + x5.size ≤ 9223372036854775807 := by omega
      have c2 : ¬ ((m : Int) < 10) := by omega
      have c3 : m / 10 ≤ 65535 := by omega
      have e2 : (m : Int) / 10 = ((m / 10 : Nat) : Int) := by omega
      have ey : wrap64 (48 + Int.tmod m 10) % 256 = (48 + m % 10 : Nat) := by
        rw [Int.tmod_eq_emod_of_nonneg (Int.natCast_nonneg _), wrap64_id _ (by omega) (by omega)]
        omega
      have ez : (strOfNums [((48 + m % 10 : Nat) : Int)]).size = 1 := by simp [strOfNums, ByteArray.size]
      have em : wrap64 (Int.tdiv m 10) = ((m / 10 : Nat) : Int) := by
        rw [Int.tdiv_eq_ediv_of_nonneg (Int.natCast_nonneg _), e2, wrap64_id _ (by omega) (by omega)]
      rw [show k + 6 + (d + 1) + 1 = (k + 6 + d + 1) + 1 from rfl, crossbucklaw02_HdrNumbers.l0, ey, Option.bind_some, if_pos (by rw [ez]; exact c1), if_neg c2, em]
      refine ih (m / 10) _ hlt c3 ?_
      rw [← hd, dec_big hm', ByteArray.data_append, Array.toList_append, List.append_assoc]
      rfl

theorem HdrNumbers (a0 a1 : Int) (w0 : (Lit.int .u16 a0).wf = true) (w1 : (Lit.int .u16 a1).wf = true) : ∃ k, crossbucklaw02_HdrNumbers.f k a0 a1 = some true := by
  have h0 := wf_u16 w0
  have h1 := wf_u16 w1
  have e : (2 : Int) ^ 16 = 65536 := rfl
  rw [e] at h0 h1
  obtain ⟨n, rfl⟩ := Int.eq_ofNat_of_zero_le h0.1
  refine ⟨0 + 6 + 4 + 1, ?_⟩
  unfold crossbucklaw02_HdrNumbers.f
  rw [wrap64_id _ (by omega) (by omega)]
  exact numbers_loop n (by omega) a1 h1.1 (by omega) 0 4 n _ (by have : (10 : Nat) ^ (4 + 1) = 100000 := rfl; omega) (by omega) (by simp)
end Go.Proofs.YtloclimoffhbhaaDoor.Pure
