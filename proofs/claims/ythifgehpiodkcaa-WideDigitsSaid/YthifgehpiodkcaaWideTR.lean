/- Counts of two words printed and read: the program's, in digits. No condition of its own. -/
import Derived.Test.YthifgehpiodkcaaWide
import Derived.Lib.ItoaNum
import Derived.Test.YthifgehpiodkcaaPAllx29
import Derived.Test.YthifgehpiodkcaaPAllx8
import Derived.Test.YthifgehpiodkcaaPAllx9
namespace Go.Proofs.Ythifgehpiodkcaa.Wide
open Go Go.RowKit Go.Proofs.Ythifgehpiodkcaa.PAll Go.Proofs.YthifgehpiodkcaaW.PrintWords Go.Proofs.YthifgehpiodkcaaW.PrintLast Go.Proofs.YthifgehpiodkcaaW.PrintMore Go.Proofs.Ythifgehpiodkcaa.Bits
set_option linter.unusedVariables false


/-! ### Digits -/
def B (l : List UInt8) : ByteArray := ⟨l.toArray⟩
theorem B_of {s : ByteArray} {l : List UInt8} (h : s.data.toList = l) : s = B l := by
  apply ByteArray.ext
  apply Array.toList_inj.mp
  rw [h]
  rfl
def D (n : Nat) : List UInt8 := Lib.decDigits n
theorem dec_small {n : Nat} (h : n < 10) : D n = [UInt8.ofNat (48 + n)] := Lib.decDigits_one h
theorem dec_big {n : Nat} (h : ¬ n < 10) : D n = D (n / 10) ++ [UInt8.ofNat (48 + n % 10)] := by
  unfold D
  rw [Lib.decDigits, dif_neg h]
theorem digit_toNat {n : Nat} (h : n < 10) : (UInt8.ofNat (48 + n)).toNat = 48 + n := by simp; omega
theorem dec_head (n : Nat) : ∀ m, m ≤ n → 1 ≤ m → ∃ c l, D m = c :: l ∧ c ≠ 48 := by
  induction n with
  | zero => intro m h1 h2; omega
  | succ n ih =>
    intro m h1 h2
    by_cases c : m < 10
    · refine ⟨_, [], dec_small c, ?_⟩
      intro e
      have := congrArg UInt8.toNat e
      rw [digit_toNat c] at this
      have e2 : (48 : UInt8).toNat = 48 := rfl
      omega
    · obtain ⟨a, l, e, ha⟩ := ih (m / 10) (by omega) (by omega)
      exact ⟨a, l ++ [UInt8.ofNat (48 + m % 10)], by rw [dec_big c, e]; rfl, ha⟩
theorem bad_dec (m : Nat) : numberBad (D m) = false := by
  by_cases h : 1 ≤ m
  · obtain ⟨c, l, e, hc⟩ := dec_head m m (Nat.le_refl _) h
    rw [e]
    simp [numberBad, hc]
  · have : m = 0 := by omega
    subst this
    rw [dec_small (by decide)]
    rfl

/-! ### A tenth -/
theorem mask32 (x : Nat) (h : x < 18446744073709551616) : Go.bits .and .u64 (x : Int) 4294967295 = ((x % 4294967296 : Nat) : Int) := by
  have e : (2 : Int) ^ 64 = 18446744073709551616 := rfl
  have := bits_mask .u64 64 (by decide) (fun n h0 h1 => wrap_u64_id n h0 (by rw [e] at h1; exact h1)) 32 (by decide) (x : Int) (Int.natCast_nonneg _) (by rw [e]; omega)
  rw [show (2 : Int) ^ 32 - 1 = 4294967295 from rfl] at this
  rw [this]
  simp
theorem w2 (A C : Int) : IntKind.u64.wrap (A - IntKind.u64.wrap C) = (A - C) % 18446744073709551616 := by simp only [uw]; omega
theorem w2' (A C : Int) : IntKind.u64.wrap (IntKind.u64.wrap A + C) = (A + C) % 18446744073709551616 := by simp only [uw]; omega
theorem w3 (A C E : Int) : IntKind.u64.wrap (IntKind.u64.wrap (IntKind.u64.wrap A + C) - IntKind.u64.wrap E) = (A + C - E) % 18446744073709551616 := by simp only [uw]; omega
theorem small {A : Int} {n : Nat} (h : A = (n : Int)) (g : n < 18446744073709551616) : A % 18446744073709551616 = (n : Int) := by omega
theorem usmall {A : Int} {n : Nat} (h : A = (n : Int)) (g : n < 18446744073709551616) : IntKind.u64.wrap A = (n : Int) := by rw [uw]; exact small h g
theorem cdiv (x m : Nat) : (x : Int) / (m : Int) = ((x / m : Nat) : Int) := by simp
theorem mul_eq {x : Nat} (h : x < 18446744073709551616) : bits_Mul64.f (x : Int) 10 = some (((x * 10 / 18446744073709551616 : Nat) : Int), ((x * 10 % 18446744073709551616 : Nat) : Int)) := by
  unfold bits_Mul64.f
  have m10 : Go.bits .and .u64 (10 : Int) 4294967295 = 10 := mask32 10 (by decide)
  have dx : (x : Int) / 4294967296 = ((x / 4294967296 : Nat) : Int) := cdiv x 4294967296
  rw [m10, mask32 x h, dx]
  obtain ⟨u, hu⟩ : ∃ u, u = x / 4294967296 := ⟨_, rfl⟩
  obtain ⟨v, hv⟩ : ∃ v, v = x % 4294967296 := ⟨_, rfl⟩
  have hx : x = u * 4294967296 + v := by omega
  have hub : u < 4294967296 := by omega
  have hvb : v < 4294967296 := by omega
  rw [← hu, ← hv]
  clear hu hv dx m10 h
  have a1 : IntKind.u64.wrap ((u : Int) * 10) = ((u * 10 : Nat) : Int) := usmall (by simp) (by omega)
  have a2 : IntKind.u64.wrap ((v : Int) * 10) = ((v * 10 : Nat) : Int) := usmall (by simp) (by omega)
  have a3 : ((v * 10 : Nat) : Int) / 4294967296 = ((v * 10 / 4294967296 : Nat) : Int) := cdiv _ 4294967296
  obtain ⟨c, hc⟩ : ∃ c, c = v * 10 / 4294967296 := ⟨_, rfl⟩
  have hcb : c < 10 := by omega
  have a4 : IntKind.u64.wrap (((u * 10 : Nat) : Int) + (c : Int)) = ((u * 10 + c : Nat) : Int) := usmall (by simp) (by omega)
  have a5 : Go.bits .and .u64 ((u * 10 + c : Nat) : Int) 4294967295 = (((u * 10 + c) % 4294967296 : Nat) : Int) := mask32 _ (by omega)
  have a6 : ((u * 10 + c : Nat) : Int) / 4294967296 = (((u * 10 + c) / 4294967296 : Nat) : Int) := cdiv _ 4294967296
  rw [a1, a2, a3, ← hc, a4, a5, a6]
  clear a1 a2 a3 a4 a5 a6
  have b1 : (10 : Int) / 4294967296 = 0 := by decide
  have b2 : IntKind.u64.wrap ((u : Int) * 0) = ((0 : Nat) : Int) := usmall (by simp) (by omega)
  have b3 : IntKind.u64.wrap ((v : Int) * 0) = ((0 : Nat) : Int) := usmall (by simp) (by omega)
  obtain ⟨m, hm⟩ : ∃ m, m = (u * 10 + c) % 4294967296 := ⟨_, rfl⟩
  obtain ⟨n, hn⟩ : ∃ n, n = (u * 10 + c) / 4294967296 := ⟨_, rfl⟩
  have hmb : m < 4294967296 := by omega
  have hnb : n < 10 := by omega
  have b4 : IntKind.u64.wrap (((0 : Nat) : Int) + (n : Int)) = (n : Int) := usmall (by simp) (by omega)
  have b5 : IntKind.u64.wrap ((m : Int) + ((0 : Nat) : Int)) = (m : Int) := usmall (by simp) (by omega)
  have b6 : (m : Int) / 4294967296 = ((0 : Nat) : Int) := by omega
  have b7 : IntKind.u64.wrap ((n : Int) + ((0 : Nat) : Int)) = (n : Int) := usmall (by simp) (by omega)
  rw [b1, b2, b3, ← hm, ← hn, b4, b5, b6, b7]
  clear b1 b2 b3 b4 b5 b6 b7
  have r1 : n = x * 10 / 18446744073709551616 := by
    have : u * 10 + c = n * 4294967296 + m := by omega
    omega
  have r2 : IntKind.u64.wrap ((x : Int) * 10) = ((x * 10 % 18446744073709551616 : Nat) : Int) := by rw [uw]; omega
  rw [r2, r1]
theorem div_eq (k : Nat) {a x : Nat} (ha : a < 10) (hx : x < 18446744073709551616) : bits_Div64.f (k + 5) (a : Int) (x : Int) 10 = some ((((a * 18446744073709551616 + x) / 10 : Nat) : Int), (((a * 18446744073709551616 + x) % 10 : Nat) : Int)) := by
  unfold bits_Div64.f
  rw [if_neg (by decide), if_neg (by omega)]
  by_cases c : (a : Int) = 0
  · have : a = 0 := by omega
    subst this
    rw [if_pos c, uw, Int.tdiv_eq_ediv_of_nonneg (Int.natCast_nonneg _), Int.tmod_eq_emod_of_nonneg (Int.natCast_nonneg _)]
    congr 1
    refine Prod.ext ?_ ?_
    · show _ = _
      simp only []
      omega
    · show _ = _
      simp only []
      omega
  · have l1 : bits_LeadingZeros64.f 10 = some 60 := by
      unfold bits_LeadingZeros64.f bits_Len64.f
      rw [if_pos rfl, Option.bind_some, wrap64_id _ (by decide) (by decide)]
      rfl
    have w60 : IntKind.u64.wrap 60 = 60 := by decide
    have w4 : IntKind.u64.wrap (64 - 60) = 4 := by decide
    have s1 : shl .u64 10 60 = 11529215046068469760 := by decide
    have s2 : shl .u64 (a : Int) 60 = ((a * 1152921504606846976 % 18446744073709551616 : Nat) : Int) := shl_eq a 60 (by decide)
    have s3 : shr .u64 (x : Int) 4 = ((x / 16 : Nat) : Int) := shr_eq x 4 (by decide)
    have s4 : shl .u64 (x : Int) 60 = ((x * 1152921504606846976 % 18446744073709551616 : Nat) : Int) := shl_eq x 60 (by decide)
    have b1 : Go.bits .and .u64 (11529215046068469760 : Int) 4294967295 = 0 := mask32 11529215046068469760 (by decide)
    have b2 := mask32 (x * 1152921504606846976 % 18446744073709551616) (Nat.mod_lt _ (by decide))
    have o1 : Go.bits .or .u64 ((a * 1152921504606846976 % 18446744073709551616 : Nat) : Int) ((x / 16 : Nat) : Int) = ((a * 1152921504606846976 + x / 16 : Nat) : Int) := by
      rw [or_eq (i := 60) (by rw [show (2 : Nat) ^ 60 = 1152921504606846976 from rfl]; omega) (Nat.mod_lt _ (by decide)) (by rw [show (2 : Nat) ^ 60 = 1152921504606846976 from rfl]; omega) (by omega)]
      congr 1
      omega
    rw [if_neg c, l1, Option.bind_some, w60, w4, if_pos (by decide), if_pos (by decide), s1, s2, s3, s4, b1, b2, o1, if_neg (by decide)]
    clear l1 w60 w4 s1 s2 s3 s4 b1 b2 o1
    rw [show (11529215046068469760 : Int) / 4294967296 = 2684354560 by decide]
    -- the words of the walk, as numbers
    obtain ⟨u, hu⟩ : ∃ u, u = a * 1152921504606846976 + x / 16 := ⟨_, rfl⟩
    obtain ⟨r, hr⟩ : ∃ r, r = x % 16 := ⟨_, rfl⟩
    have hrb : r < 16 := by rw [hr]; exact Nat.mod_lt _ (by decide)
    have hxr : x * 1152921504606846976 % 18446744073709551616 = r * 1152921504606846976 := by
      rw [hr, show (18446744073709551616 : Nat) = 16 * 1152921504606846976 from rfl, Nat.mul_mod_mul_right]
    have e13 : (((x * 1152921504606846976 % 18446744073709551616 : Nat) : Int)) / 4294967296 = ((r * 268435456 : Nat) : Int) := by
      rw [hxr]
      clear hxr hu hr hx ha c
      omega
    have e14 : (((x * 1152921504606846976 % 18446744073709551616 % 4294967296 : Nat) : Int)) = ((0 : Nat) : Int) := by
      rw [hxr]
      clear e13 hxr hu hr hx ha c
      omega
    clear hxr
    have hN : a * 18446744073709551616 + x = u * 16 + r := by clear e13 e14; omega
    have hub : u < 11529215046068469760 := by clear e13 e14 hN; omega
    rw [← hu, e13, e14, hN]
    clear e13 e14 hN hu hr c hx ha
    have q1 : IntKind.u64.wrap (Int.tdiv (u : Int) 2684354560) = ((u / 2684354560 : Nat) : Int) := by
      rw [Int.tdiv_eq_ediv_of_nonneg (Int.natCast_nonneg _)]
      exact usmall (cdiv u 2684354560) (by omega)
    rw [q1]
    obtain ⟨q, hq⟩ : ∃ q, q = u / 2684354560 := ⟨_, rfl⟩
    obtain ⟨v, hv⟩ : ∃ v, v = u % 2684354560 := ⟨_, rfl⟩
    have huq : u = q * 2684354560 + v := by omega
    have hvb : v < 2684354560 := by omega
    have hqb : q < 4294967296 := by omega
    rw [← hq]
    clear q1
    have rh : IntKind.u64.wrap ((u : Int) - IntKind.u64.wrap ((q : Int) * 2684354560)) = (v : Int) := by rw [w2]; exact small (by omega) (by omega)
    have un : IntKind.u64.wrap (IntKind.u64.wrap (IntKind.u64.wrap ((u : Int) * 4294967296) + ((r * 268435456 : Nat) : Int)) - IntKind.u64.wrap ((q : Int) * 11529215046068469760)) = ((v * 4294967296 + r * 268435456 : Nat) : Int) := by rw [w3]; exact small (by omega) (by omega)
    obtain ⟨z, hz⟩ : ∃ z, z = v * 4294967296 + r * 268435456 := ⟨_, rfl⟩
    rw [← hz] at un
    have q0 : IntKind.u64.wrap (Int.tdiv (z : Int) 2684354560) = ((z / 2684354560 : Nat) : Int) := by
      rw [Int.tdiv_eq_ediv_of_nonneg (Int.natCast_nonneg _)]
      exact usmall (cdiv z 2684354560) (by omega)
    have hz0 : z / 2684354560 = (v * 16 + r) / 10 := by omega
    have hzb : z / 2684354560 < 4294967296 := by omega
    rw [rh, show k + 5 = (k + 4) + 1 from rfl, bits_Div64.l0, if_neg (by omega)]
    have z1 : decide (IntKind.u64.wrap ((q : Int) * 0) > IntKind.u64.wrap (IntKind.u64.wrap (4294967296 * (v : Int)) + ((r * 268435456 : Nat) : Int))) = false := by
      rw [decide_eq_false_iff_not, w2', Int.mul_zero, show IntKind.u64.wrap 0 = 0 by decide]
      omega
    rw [z1, show k + 4 = (k + 3) + 1 from rfl, bits_Div64.j1, if_neg (by decide), show k + 3 = (k + 2) + 1 from rfl, bits_Div64.j2, if_neg (by decide), un, q0]
    clear z1 rh un q0
    obtain ⟨p, hp⟩ : ∃ p, p = z / 2684354560 := ⟨_, rfl⟩
    rw [← hp]
    have hp2 : p = (v * 16 + r) / 10 := by rw [hp, hz0]
    have z2 : ∀ y : Int, 0 ≤ y → decide (IntKind.u64.wrap ((p : Int) * 0) > IntKind.u64.wrap (IntKind.u64.wrap (4294967296 * y) + ((0 : Nat) : Int))) = false := by
      intro y hy
      rw [decide_eq_false_iff_not, w2', Int.mul_zero, show IntKind.u64.wrap 0 = 0 by decide]
      omega
    have zz : IntKind.u64.wrap ((z : Int) - IntKind.u64.wrap ((p : Int) * 2684354560)) = ((z - p * 2684354560 : Nat) : Int) := by rw [w2]; exact small (by omega) (by omega)
    rw [zz, show k + 2 = (k + 1) + 1 from rfl, bits_Div64.l1, if_neg (by omega), z2 _ (Int.natCast_nonneg _), bits_Div64.j4, if_neg (by decide), if_pos (by decide)]
    have fin : IntKind.u64.wrap (IntKind.u64.wrap (IntKind.u64.wrap ((z : Int) * 4294967296) + ((0 : Nat) : Int)) - IntKind.u64.wrap ((p : Int) * 11529215046068469760)) = (((z - p * 2684354560) * 4294967296 : Nat) : Int) := by rw [w3]; exact small (by omega) (by omega)
    rw [fin]
    have sh : shr .u64 (((z - p * 2684354560) * 4294967296 : Nat) : Int) 60 = (((z - p * 2684354560) * 4294967296 / 1152921504606846976 : Nat) : Int) := shr_eq _ 60 (by decide)
    rw [sh]
    clear fin sh zz z2
    congr 1
    refine Prod.ext ?_ ?_
    · show IntKind.u64.wrap (IntKind.u64.wrap ((q : Int) * 4294967296) + (p : Int)) = _
      rw [w2']
      exact small (by omega) (by omega)
    · show _ = _
      simp only []
      omega
theorem tenth_eq (k : Nat) {a b : Nat} (ha : a < 18446744073709551616) (hb : b < 18446744073709551616) : wide_Count_tenth.f (k + 5) a b = some (((hiW (vl a b / 10) : Nat) : Int), ((loW (vl a b / 10) : Nat) : Int), ((vl a b % 10 : Nat) : Int)) := by
  unfold wide_Count_tenth.f
  have n0 : vl a b / 18446744073709551616 = a := by unfold vl; omega
  have n1 : hiW (vl a b / 10) = a / 10 := by
    unfold hiW
    rw [Nat.div_div_eq_div_mul, Nat.mul_comm, ← Nat.div_div_eq_div_mul, n0]
    omega
  have n2 : loW (vl a b / 10) = (a % 10 * 18446744073709551616 + b) / 10 := by unfold loW vl; omega
  have n3 : vl a b % 10 = (a % 10 * 18446744073709551616 + b) % 10 := by unfold vl; omega
  have e : Int.tmod (a : Int) 10 = ((a % 10 : Nat) : Int) := by rw [Int.tmod_eq_emod_of_nonneg (Int.natCast_nonneg _)]; omega
  have e2 : IntKind.u64.wrap (Int.tdiv (a : Int) 10) = ((a / 10 : Nat) : Int) := by rw [Int.tdiv_eq_ediv_of_nonneg (Int.natCast_nonneg _)]; exact usmall (cdiv a 10) (by omega)
  rw [e, div_eq k (Nat.mod_lt _ (by decide)) hb, Option.bind_some, e2, n1, n2, n3]
  have n4 : (((a % 10 * 18446744073709551616 + b) % 10 : Nat) : Int) % 256 = (((a % 10 * 18446744073709551616 + b) % 10 : Nat) : Int) := by omega
  show some (_, _, (((a % 10 * 18446744073709551616 + b) % 10 : Nat) : Int) % 256) = _
  rw [n4]

/-- Two to the 128th. -/
theorem words_of {n : Nat} (h : n < 340282366920938463463374607431768211456) : vl (hiW n) (loW n) = n := by rw [vl_words]; exact Nat.mod_eq_of_lt h
theorem words_zero (n : Nat) (h : n < 340282366920938463463374607431768211456) : (((hiW n : Nat) : Int) == 0 && (((loW n : Nat) : Int) == 0)) = decide (n = 0) := by
  have e := words_of h
  unfold vl at e
  rw [Bool.eq_iff_iff, Bool.and_eq_true, beq_iff_eq, beq_iff_eq, decide_eq_true_iff]
  constructor
  · rintro ⟨h1, h2⟩
    omega
  · rintro rfl
    exact ⟨rfl, rfl⟩
def nums (l : List UInt8) : List Int := l.map fun b => (b.toNat : Int)
theorem nums_B (l : List UInt8) : strOfNums (nums l) = B l := by
  unfold strOfNums nums B
  rw [List.map_map]
  congr 2
  conv => rhs; rw [← List.map_id l]
  apply List.map_congr_left
  intro b _
  simp
theorem print_go (k : Nat) : ∀ (d n : Nat) (suf : List UInt8), n < 10 ^ d → n < 340282366920938463463374607431768211456 → 1 ≤ d →
    printGo (k + 5 + d) (hiW n : Nat) (loW n : Nat) d (nums suf) = some (B (D n ++ suf)) := by
  intro d
  induction d with
  | zero => intro n suf h h2 h3; omega
  | succ d ih =>
    intro n suf h h2 _
    have ht := tenth_eq (k + d) (hi_lt n) (lo_lt n)
    rw [words_of h2, show k + d + 5 = k + 5 + d by omega] at ht
    have hd : ((48 : Int) + ((n % 10 : Nat) : Int)) % 256 = (((UInt8.ofNat (48 + n % 10)).toNat : Nat) : Int) := by
      rw [digit_toNat (Nat.mod_lt _ (by decide))]
      omega
    have hq : n / 10 < 340282366920938463463374607431768211456 := by omega
    rw [show k + 5 + (d + 1) = (k + 5 + d) + 1 from rfl, printGo, ht, Option.bind_some, if_pos (Nat.succ_pos d)]
    show (if (((hiW (n / 10) : Nat) : Int) == 0 && (((loW (n / 10) : Nat) : Int) == 0)) = true then some (strOfNums ((48 + ((n % 10 : Nat) : Int)) % 256 :: nums suf)) else printGo (k + 5 + d) ((hiW (n / 10) : Nat) : Int) ((loW (n / 10) : Nat) : Int) (d + 1 - 1) ((48 + ((n % 10 : Nat) : Int)) % 256 :: nums suf)) = _
    rw [words_zero _ hq, hd]
    have hn : (((UInt8.ofNat (48 + n % 10)).toNat : Nat) : Int) :: nums suf = nums (UInt8.ofNat (48 + n % 10) :: suf) := rfl
    rw [hn, Nat.add_sub_cancel]
    by_cases c : n < 10
    · have e : n / 10 = 0 := by omega
      rw [e, decide_eq_true rfl, if_pos rfl, nums_B, dec_small c, show n % 10 = n by omega]
      rfl
    · have e : ¬ n / 10 = 0 := by omega
      have hlt : n / 10 < 10 ^ d := by
        rw [Nat.pow_succ] at h
        omega
      have d1 : 1 ≤ d := by
        rcases Nat.eq_zero_or_pos d with z | z
        · subst z
          rw [Nat.pow_zero] at hlt
          omega
        · exact z
      rw [decide_eq_false e, if_neg (by decide), ih (n / 10) _ hlt hq d1, dec_big c, List.append_assoc]
      rfl
theorem print_eq (k : Nat) {n : Nat} (h : n < 340282366920938463463374607431768211456) : wide_Count_Print.f (k + 45) (hiW n : Nat) (loW n : Nat) = some (B (D n)) := by
  have := print_go k 40 n [] (Nat.lt_trans h (by decide)) h (by decide)
  rw [List.append_nil] at this
  exact this
theorem print_vl (k : Nat) {a b : Nat} (ha : a < 18446744073709551616) (hb : b < 18446744073709551616) : wide_Count_Print.f (k + 45) a b = some (B (D (vl a b))) := by
  have := print_eq k (vl_lt ha hb)
  rw [(words ha hb).1, (words ha hb).2] at this
  exact this

/-! ### Read -/
theorem wide_step {c : UInt8} {l : List UInt8} {n : Nat} (hn : n < 340282366920938463463374607431768211456) (h1 : 48 ≤ c.toNat) (h2 : c.toNat ≤ 57) :
    wideGo (c :: l) (hiW n : Nat) (loW n : Nat) = if 340282366920938463463374607431768211456 ≤ n * 10 + (c.toNat - 48) then some (0, 0, 5) else wideGo l (hiW (n * 10 + (c.toNat - 48)) : Nat) (loW (n * 10 + (c.toNat - 48)) : Nat) := by
  obtain ⟨a, ha⟩ : ∃ a, a = hiW n := ⟨_, rfl⟩
  obtain ⟨b, hb⟩ : ∃ b, b = loW n := ⟨_, rfl⟩
  have hab : n = a * 18446744073709551616 + b := by have := words_of hn; unfold vl at this; rw [← ha, ← hb] at this; exact this.symm
  have la : a < 18446744073709551616 := by rw [ha]; exact hi_lt n
  have lb : b < 18446744073709551616 := by rw [hb]; exact lo_lt n
  obtain ⟨d, hd⟩ : ∃ d, d = c.toNat - 48 := ⟨_, rfl⟩
  have hdc : (c.toNat : Int) - 48 = ((d : Nat) : Int) := by omega
  have ld : d < 10 := by omega
  rw [wideGo, if_neg (by omega), ← ha, ← hb, ← hd, mul_eq lb, Option.bind_some, mul_eq la, Option.bind_some, hdc]
  clear ha hb hd hdc
  obtain ⟨m1, hm1⟩ : ∃ m, m = b * 10 / 18446744073709551616 := ⟨_, rfl⟩
  obtain ⟨m2, hm2⟩ : ∃ m, m = b * 10 % 18446744073709551616 := ⟨_, rfl⟩
  obtain ⟨n1, hn1⟩ : ∃ m, m = a * 10 / 18446744073709551616 := ⟨_, rfl⟩
  obtain ⟨n2, hn2⟩ : ∃ m, m = a * 10 % 18446744073709551616 := ⟨_, rfl⟩
  have eb : b * 10 = m1 * 18446744073709551616 + m2 := by omega
  have ea : a * 10 = n1 * 18446744073709551616 + n2 := by omega
  have lm1 : m1 < 10 := by omega
  have lm2 : m2 < 18446744073709551616 := by omega
  have ln1 : n1 < 10 := by omega
  have ln2 : n2 < 18446744073709551616 := by omega
  rw [← hm1, ← hm2, ← hn1, ← hn2]
  clear hm1 hm2 hn1 hn2
  have eN : n * 10 + d = (n1 * 18446744073709551616 + n2) * 18446744073709551616 + (m1 * 18446744073709551616 + m2) + d := by rw [hab, ← ea, ← eb]; omega
  rw [eN]
  clear eN hab ea eb la lb hn
  show (if Hand.addC ((m2 : Nat) : Int) ((d : Nat) : Int) ((0 : Nat) : Int) ≤ 1 then (if IntKind.u64.wrap (IntKind.u64.wrap (((n1 : Nat) : Int) + Hand.addC ((n2 : Nat) : Int) ((m1 : Nat) : Int) ((0 : Nat) : Int)) + Hand.addC (Hand.addS ((n2 : Nat) : Int) ((m1 : Nat) : Int) ((0 : Nat) : Int)) ((0 : Nat) : Int) (Hand.addC ((m2 : Nat) : Int) ((d : Nat) : Int) ((0 : Nat) : Int))) > 0 then some (0, 0, 5)
        else wideGo l (Hand.addS (Hand.addS ((n2 : Nat) : Int) ((m1 : Nat) : Int) ((0 : Nat) : Int)) ((0 : Nat) : Int) (Hand.addC ((m2 : Nat) : Int) ((d : Nat) : Int) ((0 : Nat) : Int))) (Hand.addS ((m2 : Nat) : Int) ((d : Nat) : Int) ((0 : Nat) : Int))) else none) = _
  simp only [addC_eq, addS_eq, Nat.add_zero]
  obtain ⟨s, hs⟩ : ∃ s, s = (m2 + d) / 18446744073709551616 := ⟨_, rfl⟩
  obtain ⟨t, ht⟩ : ∃ t, t = (m2 + d) % 18446744073709551616 := ⟨_, rfl⟩
  obtain ⟨u, hu⟩ : ∃ u, u = (n2 + m1) / 18446744073709551616 := ⟨_, rfl⟩
  obtain ⟨v, hv⟩ : ∃ v, v = (n2 + m1) % 18446744073709551616 := ⟨_, rfl⟩
  have es : m2 + d = s * 18446744073709551616 + t := by omega
  have eu : n2 + m1 = u * 18446744073709551616 + v := by omega
  have ls : s ≤ 1 := by omega
  have lt : t < 18446744073709551616 := by omega
  have lu : u ≤ 1 := by omega
  have lv : v < 18446744073709551616 := by omega
  rw [← hs, ← ht, ← hu, ← hv, if_pos (by omega)]
  clear hs ht hu hv
  obtain ⟨p, hp⟩ : ∃ p, p = (v + s) / 18446744073709551616 := ⟨_, rfl⟩
  obtain ⟨q, hq⟩ : ∃ q, q = (v + s) % 18446744073709551616 := ⟨_, rfl⟩
  have ep : v + s = p * 18446744073709551616 + q := by omega
  have lp : p ≤ 1 := by omega
  have lq : q < 18446744073709551616 := by omega
  rw [← hp, ← hq]
  clear hp hq
  have eM : (n1 * 18446744073709551616 + n2) * 18446744073709551616 + (m1 * 18446744073709551616 + m2) + d = (n1 + u + p) * 340282366920938463463374607431768211456 + vl q t := by unfold vl; omega
  rw [eM]
  have lw := vl_lt lq lt
  have ew : IntKind.u64.wrap (IntKind.u64.wrap (((n1 : Nat) : Int) + ((u : Nat) : Int)) + ((p : Nat) : Int)) = ((n1 + u + p : Nat) : Int) := by
    rw [w2']
    exact small (by omega) (by omega)
  rw [ew]
  clear eM es eu ep ew
  by_cases g : n1 + u + p = 0
  · rw [g, if_neg (by decide), if_neg (by omega), Nat.zero_mul, Nat.zero_add, (words lq lt).1, (words lq lt).2]
  · rw [if_pos (by omega), if_pos (by omega)]
theorem wide_bad {c : UInt8} {l : List UInt8} {x y : Int} (h : c.toNat < 48 ∨ 57 < c.toNat) : wideGo (c :: l) x y = some (0, 0, 6) := by rw [wideGo, if_pos h]
theorem read_digits (n : Nat) : ∀ m, m ≤ n → m < 340282366920938463463374607431768211456 → ∀ rest : List UInt8, wideGo (D m ++ rest) (hiW 0 : Nat) (loW 0 : Nat) = wideGo rest (hiW m : Nat) (loW m : Nat) := by
  induction n with
  | zero =>
    intro m h h2 rest
    have : m = 0 := by omega
    subst this
    rw [dec_small (by decide), List.singleton_append, wide_step (by decide) (by decide) (by decide), if_neg (by decide)]
    rfl
  | succ n ih =>
    intro m h h2 rest
    by_cases c : m < 10
    · have ec := digit_toNat c
      rw [dec_small c, List.singleton_append, wide_step (by decide) (by omega) (by omega), ec, if_neg (by omega), show 0 * 10 + (48 + m - 48) = m by omega]
    · have ec := digit_toNat (Nat.mod_lt m (show 0 < 10 by decide))
      rw [dec_big c, List.append_assoc, ih (m / 10) (by omega) (by omega), List.singleton_append, wide_step (by omega) (by omega) (by omega), ec, show m / 10 * 10 + (48 + m % 10 - 48) = m by omega, if_neg (by omega)]
theorem parse_dec {m : Nat} (h : m < 340282366920938463463374607431768211456) : wide_Parse.f (B (D m)) = some (((hiW m : Nat) : Int), ((loW m : Nat) : Int), 0) := by
  unfold wide_Parse.f
  have := read_digits m m (Nat.le_refl _) h []
  rw [List.append_nil] at this
  show (if numberBad (D m) = true then _ else wideGo (D m) ((hiW 0 : Nat) : Int) ((loW 0 : Nat) : Int)) = _
  rw [bad_dec, if_neg (by decide), this, wideGo]

/-! ### What was read stands there -/
theorem go_text : ∀ (l : List UInt8) (v : Nat), 1 ≤ v → v < 340282366920938463463374607431768211456 → ∀ x y, wideGo l (hiW v : Nat) (loW v : Nat) = some (x, y, 0) →
    ∃ m : Nat, m < 340282366920938463463374607431768211456 ∧ x = (hiW m : Nat) ∧ y = (loW m : Nat) ∧ D m = D v ++ l
  | [], v, a, b, x, y, h => by
    rw [wideGo] at h
    simp only [Option.some.injEq, Prod.mk.injEq] at h
    exact ⟨v, b, h.1.symm, h.2.1.symm, by simp⟩
  | c :: l, v, a, b, x, y, h => by
    by_cases g : c.toNat < 48 ∨ 57 < c.toNat
    · rw [wide_bad g] at h
      simp at h
    · rw [wide_step b (by omega) (by omega)] at h
      by_cases e : 340282366920938463463374607431768211456 ≤ v * 10 + (c.toNat - 48)
      · rw [if_pos e] at h
        simp at h
      · rw [if_neg e] at h
        obtain ⟨m, e1, e2, e3, e4⟩ := go_text l (v * 10 + (c.toNat - 48)) (by omega) (by omega) x y h
        refine ⟨m, e1, e2, e3, ?_⟩
        have d1 : (v * 10 + (c.toNat - 48)) / 10 = v := by omega
        have d2 : 48 + (v * 10 + (c.toNat - 48)) % 10 = c.toNat := by omega
        rw [e4, dec_big (by omega), d1, d2]
        simp
theorem parse_text {s : ByteArray} {x y : Int} (h : wide_Parse.f s = some (x, y, 0)) : ∃ m : Nat, m < 340282366920938463463374607431768211456 ∧ x = (hiW m : Nat) ∧ y = (loW m : Nat) ∧ s = B (D m) := by
  unfold wide_Parse.f at h
  by_cases hb : numberBad s.data.toList = true
  · rw [if_pos hb] at h
    simp at h
  rw [if_neg hb] at h
  have key : ∀ l : List UInt8, s.data.toList = l → ∃ m : Nat, m < 340282366920938463463374607431768211456 ∧ x = (hiW m : Nat) ∧ y = (loW m : Nat) ∧ s.data.toList = D m := by
    intro l hl
    rw [hl] at h hb ⊢
    match l, hb, h with
    | [], hb, h => exact absurd rfl hb
    | c :: l, hb, h =>
      by_cases g : c.toNat < 48 ∨ 57 < c.toNat
      · rw [wide_bad g] at h
        simp at h
      have h' : wideGo (c :: l) (hiW 0 : Nat) (loW 0 : Nat) = some (x, y, 0) := h
      rw [wide_step (by decide) (by omega) (by omega), if_neg (by omega), show 0 * 10 + (c.toNat - 48) = c.toNat - 48 by omega] at h'
      have one : D (c.toNat - 48) = [c] := by
        rw [dec_small (by omega), show 48 + (c.toNat - 48) = c.toNat by omega]
        simp
      match l, hb, h' with
      | [], _, h' =>
        rw [wideGo] at h'
        simp only [Option.some.injEq, Prod.mk.injEq] at h'
        exact ⟨c.toNat - 48, by omega, h'.1.symm, h'.2.1.symm, one.symm⟩
      | d :: l, hb, h' =>
        have hc : c ≠ 48 := by
          intro e
          subst e
          exact hb rfl
        have hc2 : c.toNat ≠ 48 := fun e => hc (UInt8.toNat_inj.1 e)
        obtain ⟨m, e1, e2, e3, e4⟩ := go_text (d :: l) (c.toNat - 48) (by omega) (by omega) x y h'
        exact ⟨m, e1, e2, e3, by rw [e4, one]; rfl⟩
  obtain ⟨m, e1, e2, e3, e4⟩ := key _ rfl
  exact ⟨m, e1, e2, e3, B_of e4⟩
end Go.Proofs.Ythifgehpiodkcaa.Wide
