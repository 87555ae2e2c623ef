/- crossbucklaw01.WideDigits answers true for every count; the document's own printing is the program's. No condition of its own. -/
import Derived.Test.YthifgehpiodkcaaWideTR
import Derived.Test.YthifgehpiodkcaaAwake01
import Derived.Test.YthifgehpiodkcaaPAllx30
import Derived.Test.YthifgehpiodkcaaPAllx31
namespace Go.Proofs.Ythifgehpiodkcaa.Wide
open Go Go.RowKit Go.Proofs.Ythifgehpiodkcaa.PAll Go.Proofs.YthifgehpiodkcaaW.PrintWords Go.Proofs.YthifgehpiodkcaaW.PrintLast Go.Proofs.YthifgehpiodkcaaW.PrintMore Go.Proofs.Ythifgehpiodkcaa.Bits
set_option linter.unusedVariables false


/-! ### Digits from the top -/
def dg : Nat → Nat → List UInt8
  | 0, _ => []
  | i + 1, c => UInt8.ofNat (48 + c / 10 ^ i) :: dg i (c % 10 ^ i)
theorem dg_last : ∀ (i c : Nat), dg (i + 1) c = dg i (c / 10) ++ [UInt8.ofNat (48 + c % 10)] ∨ ¬ c < 10 ^ (i + 1)
  | 0, c => by
    by_cases h : c < 10 ^ (0 + 1)
    · left
      have h' : c < 10 := by simpa using h
      show [UInt8.ofNat (48 + c / 10 ^ 0)] = [UInt8.ofNat (48 + c % 10)]
      rw [Nat.pow_zero, Nat.div_one, Nat.mod_eq_of_lt h']
    · exact .inr h
  | i + 1, c => by
    by_cases h : c < 10 ^ (i + 1 + 1)
    · left
      have hp : 0 < 10 ^ (i + 1) := Nat.pow_pos (by decide)
      have hr : c % 10 ^ (i + 1) < 10 ^ (i + 1) := Nat.mod_lt _ hp
      rcases dg_last i (c % 10 ^ (i + 1)) with e | e
      · show UInt8.ofNat (48 + c / 10 ^ (i + 1)) :: dg (i + 1) (c % 10 ^ (i + 1)) = (UInt8.ofNat (48 + c / 10 / 10 ^ i) :: dg i (c / 10 % 10 ^ i)) ++ [UInt8.ofNat (48 + c % 10)]
        have e1 : c / 10 / 10 ^ i = c / 10 ^ (i + 1) := by rw [Nat.div_div_eq_div_mul, Nat.pow_succ, Nat.mul_comm]
        have e2 : c % 10 ^ (i + 1) / 10 = c / 10 % 10 ^ i := by rw [Nat.pow_succ, Nat.mul_comm, Nat.mod_mul_right_div_self]
        have e3 : c % 10 ^ (i + 1) % 10 = c % 10 := Nat.mod_mod_of_dvd c (by rw [Nat.pow_succ]; exact Nat.dvd_mul_left ..)
        rw [e, e1, e2, e3]
        rfl
      · exact absurd hr e
    · exact .inr h
theorem dg_dec : ∀ (i n : Nat), (10 ^ i ≤ n ∨ i = 0) → n < 10 ^ (i + 1) → dg (i + 1) n = D n
  | 0, n, _, h => by
    have h' : n < 10 := by simpa using h
    rw [dec_small h']
    show [UInt8.ofNat (48 + n / 10 ^ 0)] = _
    rw [Nat.pow_zero, Nat.div_one]
  | i + 1, n, h0, h => by
    have hge : 10 ^ (i + 1) ≤ n := by
      rcases h0 with h0 | h0
      · exact h0
      · omega
    have hp : 0 < 10 ^ i := Nat.pow_pos (by decide)
    rw [Nat.pow_succ] at hge h
    rcases dg_last (i + 1) n with e | e
    · rw [e, dec_big (by omega), dg_dec i (n / 10) (.inl (by omega)) (by omega)]
    · exact absurd (by rw [Nat.pow_succ]; exact h) e

/-! ### The powers -/
def tenS (j : Nat) : S24 := ⟨((hiW (10 ^ j) : Nat) : Int), ((loW (10 ^ j) : Nat) : Int)⟩
def tens (m : Nat) : List S24 := (List.range (m + 1)).map tenS
theorem tens_len (m : Nat) : (tens m).length = m + 1 := by simp [tens]
theorem tens_rd {m i : Nat} (h : i ≤ m) : rd_T24 (tens m) (i : Int) = tenS i := by
  have : i < m + 1 := by omega
  simp [rd_T24, tens, this]
theorem tens_succ (m : Nat) : tens m ++ [tenS (m + 1)] = tens (m + 1) := by simp [tens, List.range_succ]
theorem ten_lt {j : Nat} (h : j ≤ 38) : 10 ^ j < 340282366920938463463374607431768211456 := Nat.lt_of_le_of_lt (Nat.pow_le_pow_right (by decide) h) (by decide)
theorem one_digit (n : Nat) (h : n ≤ 9) : strOfNums [wrap64 (48 + (n : Int)) % 256] = B [UInt8.ofNat (48 + n)] := by
  have e : wrap64 (48 + (n : Int)) % 256 = (((UInt8.ofNat (48 + n)).toNat : Nat) : Int) := by
    rw [digit_toNat (by omega), wrap64_id _ (by omega) (by omega)]
    omega
  rw [e]
  exact nums_B [UInt8.ofNat (48 + n)]
theorem B_app (l r : List UInt8) : B l ++ B r = B (l ++ r) := by
  apply ByteArray.ext
  apply Array.toList_inj.mp
  unfold B
  simp
theorem B_size (l : List UInt8) : (B l).size = l.length := by simp [B, ByteArray.size]

/-- One place: how often its power goes in. -/
theorem place (m i : Nat) (hi : i ≤ m) (hm : m ≤ 38) (l : List UInt8) (hl : l.length ≤ 100) : ∀ (q d c K : Nat), c / 10 ^ i = q → d + q ≤ 9 → c < 340282366920938463463374607431768211456 →
    crossbuckref01_Print.l3 (K + q + 1) (tens m) (B l) i d (hiW c : Nat) (loW c : Nat) = crossbuckref01_Print.l2 K (tens m) (B (l ++ [UInt8.ofNat (48 + (d + q))])) ((i : Int) - 1) (hiW (c % 10 ^ i) : Nat) (loW (c % 10 ^ i) : Nat) := by
  intro q
  induction q with
  | zero =>
    intro d c K hq hd hc
    have hp : 0 < 10 ^ i := Nat.pow_pos (by decide)
    have hlt : c < 10 ^ i := by
      rcases Nat.lt_or_ge c (10 ^ i) with h | h
      · exact h
      · have := Nat.div_pos h hp
        omega
    have ht := ten_lt (j := i) (by omega)
    have el := less_eq (hi_lt c) (lo_lt c) (hi_lt (10 ^ i)) (lo_lt (10 ^ i))
    rw [words_of hc, words_of ht, decide_eq_true hlt] at el
    have ew : wrap64 ((i : Int) - 1) = (i : Int) - 1 := wrap64_id _ (by omega) (by omega)
    have es : (B l).size + (B [UInt8.ofNat (48 + d)]).size ≤ 9223372036854775807 := by
      rw [B_size, B_size, List.length_singleton]
      clear ew el
      omega
    rw [Nat.add_zero, crossbuckref01_Print.l3, if_pos (by clear ew; omega), if_pos (by rw [tens_len]; clear ew; omega), tens_rd hi]
    show (crossbuckref01_Less.f _ _ ((hiW (10 ^ i) : Nat) : Int) ((loW (10 ^ i) : Nat) : Int)).bind _ = _
    rw [el, Option.bind_some, if_pos rfl, Option.bind_some, one_digit d (by clear ew; omega), if_pos es, ew, B_app, Nat.add_zero, Nat.mod_eq_of_lt hlt]
  | succ q ih =>
    intro d c K hq hd hc
    have hp : 0 < 10 ^ i := Nat.pow_pos (by decide)
    have hge : 10 ^ i ≤ c := by
      rcases Nat.lt_or_ge c (10 ^ i) with h | h
      · rw [Nat.div_eq_of_lt h] at hq
        omega
      · exact h
    have ht := ten_lt (j := i) (by omega)
    have el := less_eq (hi_lt c) (lo_lt c) (hi_lt (10 ^ i)) (lo_lt (10 ^ i))
    rw [words_of hc, words_of ht, decide_eq_false (by omega)] at el
    have es := rsub_eq (hi_lt c) (lo_lt c) (hi_lt (10 ^ i)) (lo_lt (10 ^ i))
    rw [words_of hc, words_of ht] at es
    have ex : wd (c + 340282366920938463463374607431768211456 - 10 ^ i) = wd (c - 10 ^ i) := by
      have e1 : c + 340282366920938463463374607431768211456 - 10 ^ i = c - 10 ^ i + 340282366920938463463374607431768211456 := by omega
      rw [e1]
      generalize c - 10 ^ i = z
      unfold wd hiW loW
      rw [show (z + 340282366920938463463374607431768211456) / 18446744073709551616 % 18446744073709551616 = z / 18446744073709551616 % 18446744073709551616 by omega, show (z + 340282366920938463463374607431768211456) % 18446744073709551616 = z % 18446744073709551616 by omega]
    rw [ex] at es
    have ew : wrap64 ((d : Int) + 1) = ((d + 1 : Nat) : Int) := by rw [wrap64_id _ (by omega) (by omega)]; simp
    have hq' : (c - 10 ^ i) / 10 ^ i = q := by
      have := Nat.div_eq_sub_div hp hge
      rw [hq] at this
      clear ew ex es el
      omega
    have hm' : (c - 10 ^ i) % 10 ^ i = c % 10 ^ i := (Nat.mod_eq_sub_mod hge).symm
    have := ih (d + 1) (c - 10 ^ i) K hq' (by clear ew; omega) (by clear ew; omega)
    rw [hm', show d + 1 + q = d + (q + 1) by clear ew; omega] at this
    rw [show K + (q + 1) + 1 = (K + q + 1) + 1 from rfl, crossbuckref01_Print.l3, if_pos (by clear ew; omega), if_pos (by rw [tens_len]; clear ew; omega), tens_rd hi]
    show (crossbuckref01_Less.f _ _ ((hiW (10 ^ i) : Nat) : Int) ((loW (10 ^ i) : Nat) : Int)).bind _ = _
    rw [el, Option.bind_some, if_neg (by decide)]
    show (crossbuckref01_Sub.f _ _ ((hiW (10 ^ i) : Nat) : Int) ((loW (10 ^ i) : Nat) : Int)).bind _ = _
    rw [es, Option.bind_some, ew]
    exact this
theorem places (m : Nat) (hm : m ≤ 38) : ∀ (n c K : Nat) (l : List UInt8), n ≤ m + 1 → c < 10 ^ n → c < 340282366920938463463374607431768211456 → l.length + n ≤ 100 → 11 * n + 1 ≤ K →
    crossbuckref01_Print.l2 K (tens m) (B l) ((n : Int) - 1) (hiW c : Nat) (loW c : Nat) = some (B (l ++ dg n c)) := by
  intro n
  induction n with
  | zero =>
    intro c K l hn hc hc2 hl hK
    obtain ⟨k, rfl⟩ : ∃ k, K = k + 1 := ⟨K - 1, by omega⟩
    rw [crossbuckref01_Print.l2, if_neg (by omega)]
    simp [dg]
  | succ n ih =>
    intro c K l hn hc hc2 hl hK
    have hp : 0 < 10 ^ n := Nat.pow_pos (by decide)
    have hq : c / 10 ^ n ≤ 9 := by
      rw [Nat.pow_succ] at hc
      have := (Nat.div_lt_iff_lt_mul hp).2 (show c < 10 * 10 ^ n by rw [Nat.mul_comm]; exact hc)
      omega
    have hr : c % 10 ^ n < 10 ^ n := Nat.mod_lt _ hp
    have hle : c % 10 ^ n ≤ c := Nat.mod_le ..
    obtain ⟨k, rfl⟩ : ∃ k, K = k + c / 10 ^ n + 1 + 1 := ⟨K - c / 10 ^ n - 2, by omega⟩
    have e1 : ((n + 1 : Nat) : Int) - 1 = (n : Int) := by omega
    have h3 := place m n (by omega) hm l (by omega) (c / 10 ^ n) 0 c k rfl (by omega) hc2
    rw [Nat.zero_add] at h3
    have h4 := ih (c % 10 ^ n) k (l ++ [UInt8.ofNat (48 + c / 10 ^ n)]) (by omega) hr (by omega) (by rw [List.length_append, List.length_singleton]; omega) (by omega)
    rw [e1, crossbuckref01_Print.l2, if_pos (by omega)]
    refine h3.trans (h4.trans ?_)
    rw [List.append_assoc]
    rfl

/-! ### Up to the greatest power that goes in -/
theorem tenfold (m : Nat) (hm : m ≤ 37) (k n : Nat) (hn : n < 340282366920938463463374607431768211456) : ∀ (j i : Nat), i + j = 10 →
    crossbuckref01_Print.l1 (k + j + 1) (tens m) i (hiW n : Nat) (loW n : Nat) (hiW (10 ^ m) : Nat) (loW (10 ^ m) : Nat) (hiW (i * 10 ^ m) : Nat) (loW (i * 10 ^ m) : Nat) =
      if n < 10 ^ (m + 1) then crossbuckref01_Print.j2 k (tens m) (hiW n : Nat) (loW n : Nat) else crossbuckref01_Print.l0 k (tens (m + 1)) (hiW n : Nat) (loW n : Nat) := by
  have hT : 10 * 10 ^ m = 10 ^ (m + 1) := by rw [Nat.pow_succ, Nat.mul_comm]
  have ht := ten_lt (j := m + 1) (by omega)
  have ht0 := ten_lt (j := m) (by omega)
  intro j
  induction j with
  | zero =>
    intro i h
    have hi : i = 10 := by omega
    subst hi
    have el := less_eq (hi_lt n) (lo_lt n) (hi_lt (10 ^ (m + 1))) (lo_lt (10 ^ (m + 1)))
    rw [words_of hn, words_of ht] at el
    rw [Nat.add_zero, crossbuckref01_Print.l1, if_neg (by omega), hT, el, Option.bind_some]
    by_cases c : n < 10 ^ (m + 1)
    · rw [decide_eq_true c, if_pos rfl, if_pos c]
    · rw [decide_eq_false c, if_neg (by decide), if_pos (by rw [tens_len]; omega), if_neg c, ← tens_succ]
      rfl
  | succ j ih =>
    intro i h
    have ew : wrap64 ((i : Int) + 1) = ((i + 1 : Nat) : Int) := by rw [wrap64_id _ (by omega) (by omega)]; simp
    have hi : i * 10 ^ m ≤ 10 * 10 ^ m := Nat.mul_le_mul_right _ (by omega)
    have ea := radd_eq (hi_lt (i * 10 ^ m)) (lo_lt (i * 10 ^ m)) (hi_lt (10 ^ m)) (lo_lt (10 ^ m))
    rw [words_of (by rw [hT] at hi; clear ew; omega), words_of ht0, ← Nat.succ_mul] at ea
    rw [show k + (j + 1) + 1 = (k + j + 1) + 1 from rfl, crossbuckref01_Print.l1, if_pos (by clear ew; omega), ea, Option.bind_some, ew]
    exact ih (i + 1) (by clear ew; omega)
theorem print_go2 (n : Nat) (hn : n < 340282366920938463463374607431768211456) : ∀ (r m K : Nat), m + r = 38 → (10 ^ m ≤ n ∨ m = 0) → 12 * r + 500 ≤ K →
    crossbuckref01_Print.l0 K (tens m) (hiW n : Nat) (loW n : Nat) = some (B (D n)) := by
  intro r
  induction r with
  | zero =>
    intro m K h h0 hK
    have hm : m = 38 := by omega
    subst hm
    obtain ⟨k, rfl⟩ : ∃ k, K = k + 1 + 1 := ⟨K - 2, by omega⟩
    have ew : wrap64 (((tens 38).length : Int) - 1) = ((38 : Nat) : Int) := by rw [tens_len, wrap64_id _ (by decide) (by decide)]; rfl
    have hp := places 38 (by decide) 39 n k [] (by omega) (Nat.lt_trans hn (by decide)) hn (by decide) (by clear ew; omega)
    rw [List.nil_append, dg_dec 38 n h0 (Nat.lt_trans hn (by decide))] at hp
    have hb : (rd_T24 (tens 38) ((38 : Nat) : Int)).f0 > 1844674407370955161 := by rw [tens_rd (Nat.le_refl 38)]; decide
    rw [crossbuckref01_Print.l0, ew, if_pos (by clear ew; omega), if_pos (by rw [tens_len]; clear ew; omega), if_pos hb, crossbuckref01_Print.j2, ew]
    exact hp
  | succ r ih =>
    intro m K h h0 hK
    obtain ⟨k, rfl⟩ : ∃ k, K = k + 1 + 10 + 1 + 1 := ⟨K - 13, by omega⟩
    have ew : wrap64 (((tens m).length : Int) - 1) = ((m : Nat) : Int) := by rw [tens_len, wrap64_id _ (by omega) (by omega)]; omega
    have hb : ¬ (rd_T24 (tens m) ((m : Nat) : Int)).f0 > 1844674407370955161 := by
      rw [tens_rd (Nat.le_refl m)]
      show ¬ ((hiW (10 ^ m) : Nat) : Int) > 1844674407370955161
      have h1 : 10 ^ m ≤ 10 ^ 37 := Nat.pow_le_pow_right (by decide) (by clear ew; omega)
      have h3 : hiW (10 ^ m) ≤ 542101086242752217 := Nat.le_trans (Nat.mod_le ..) (Nat.le_trans (Nat.div_le_div_right h1) (by decide))
      clear ew h1
      omega
    have h1 := tenfold m (by clear ew; omega) (k + 1) n hn 10 0 rfl
    rw [Nat.zero_mul] at h1
    rw [crossbuckref01_Print.l0, ew, if_pos (by clear ew; omega), if_pos (by rw [tens_len]; clear ew; omega), if_neg hb, tens_rd (Nat.le_refl m)]
    refine Eq.trans h1 ?_
    by_cases c : n < 10 ^ (m + 1)
    · have hp := places m (by clear ew; omega) (m + 1) n k [] (Nat.le_refl _) c hn (by rw [List.length_nil]; clear ew; omega) (by clear ew; omega)
      rw [List.nil_append, dg_dec m n h0 c] at hp
      have e1 : ((m + 1 : Nat) : Int) - 1 = (m : Int) := by clear ew; omega
      rw [e1] at hp
      rw [if_pos c, crossbuckref01_Print.j2, ew]
      exact hp
    · rw [if_neg c]
      exact ih (m + 1) (k + 1) (by clear ew; omega) (.inl (by clear ew; omega)) (by clear ew; omega)
theorem ref_print (k : Nat) {n : Nat} (hn : n < 340282366920938463463374607431768211456) : crossbuckref01_Print.f (k + 1000) (hiW n : Nat) (loW n : Nat) = some (B (D n)) := print_go2 n hn 38 0 (k + 1000) rfl (.inr rfl) (by omega)
end Go.Proofs.Ythifgehpiodkcaa.Wide
namespace Go.Proofs.Ythifgehpiodkcaa.Pure
open Go Go.RowKit Go.Proofs.Ythifgehpiodkcaa.PAll Go.Proofs.YthifgehpiodkcaaW.PrintWords Go.Proofs.YthifgehpiodkcaaW.PrintLast Go.Proofs.YthifgehpiodkcaaW.PrintMore Go.Proofs.Ythifgehpiodkcaa.Bits Go.Proofs.Ythifgehpiodkcaa.Wide
set_option linter.unusedVariables false


theorem wf_u64 {a : Int} (h : (Lit.int .u64 a).wf = true) : 0 ≤ a ∧ a < 18446744073709551616 := by
  simp [Lit.wf, IntKind.min, IntKind.max, IntKind.signed, IntKind.bits] at h
  exact ⟨by omega, by omega⟩
theorem digits_at (n : Nat) (hn : n < 340282366920938463463374607431768211456) : crossbucklaw01_WideDigits.f (0 + 1000) (hiW n : Nat) (loW n : Nat) = some true := by
  unfold crossbucklaw01_WideDigits.f crossbucklaw01_to.f
  simp only [Option.bind_some]
  rw [show 0 + 1000 = 955 + 45 from rfl, print_eq 955 hn, Option.bind_some, parse_dec hn, Option.bind_some, awake01 (by omega), Option.bind_some, if_pos rfl, show 955 + 45 = 0 + 1000 from rfl, ref_print 0 hn, Option.bind_some, if_pos rfl, if_pos rfl, beq_self_eq_true, beq_self_eq_true]
  rfl
theorem WideDigits (a0 a1 : Int) (w0 : (Lit.int .u64 a0).wf = true) (w1 : (Lit.int .u64 a1).wf = true) : ∃ k, crossbucklaw01_WideDigits.f k a0 a1 = some true := by
  have h0 := wf_u64 w0
  have h1 := wf_u64 w1
  obtain ⟨a, rfl⟩ := Int.eq_ofNat_of_zero_le h0.1
  obtain ⟨b, rfl⟩ := Int.eq_ofNat_of_zero_le h1.1
  have ha : a < 18446744073709551616 := by omega
  have hb : b < 18446744073709551616 := by omega
  refine ⟨0 + 1000, ?_⟩
  have := digits_at (vl a b) (vl_lt ha hb)
  rw [(words ha hb).1, (words ha hb).2] at this
  exact this
end Go.Proofs.Ythifgehpiodkcaa.Pure
