/- Texts of numbers, addresses and prefixes: printed, read, cut and split. No condition of its own. -/
import Derived.Test.YtloclimoffhbhaaDoorFactsRt
import Derived.Lib.ItoaNum
import Derived.Lib.IndexBytes
import Derived.Lib.SplitLaws
import Derived.Lib.CountLaws
import Derived.Lib.Join
import Derived.Test.YtloclimoffhbhaaDoorPStox0
import Derived.Test.YtloclimoffhbhaaDoorPStox1
import Derived.Test.YtloclimoffhbhaaDoorPStox6
import Derived.Test.YtloclimoffhbhaaDoorPStox7
namespace Go.Proofs.YtloclimoffhbhaaDoor.Scr
open Go Go.RowKit Go.Proofs.YtloclimoffhbhaaDoor.PSto Go.Proofs.YtloclimoffhbhaaDoorW.PrintWords Go.Proofs.YtloclimoffhbhaaDoorW.PrintLast Go.Proofs.YtloclimoffhbhaaDoorW.PrintMore Go.Proofs.YtloclimoffhbhaaDoor.Bits Go.Proofs.YtloclimoffhbhaaDoor.Facts
set_option linter.unusedVariables false
theorem dec_small {n : Nat} (h : n < 10) : Lib.decDigits n = [UInt8.ofNat (48 + n)] := Lib.decDigits_one h
theorem dec_big {n : Nat} (h : ¬ n < 10) : Lib.decDigits n = Lib.decDigits (n / 10) ++ [UInt8.ofNat (48 + n % 10)] := by
  rw [Lib.decDigits, dif_neg h]
theorem dec_len : ∀ (d n : Nat), n < 10 ^ (d + 1) → (Lib.decDigits n).length ≤ d + 1 := by
  intro d
  induction d with
  | zero => intro n h; rw [dec_small (by simpa using h)]; simp
  | succ d ih =>
    intro n h
    by_cases c : n < 10
    · rw [dec_small c]; simp
    · rw [dec_big c, List.length_append]
      have : n / 10 < 10 ^ (d + 1) := by
        rw [Nat.pow_succ] at h
        omega
      have := ih _ this
      simp
      omega
theorem dec_head (n : Nat) : ∀ m, m ≤ n → 1 ≤ m → ∃ c l, Lib.decDigits m = c :: l ∧ c ≠ 48 := by
  induction n with
  | zero => intro m h1 h2; omega
  | succ n ih =>
    intro m h1 h2
    by_cases c : m < 10
    · refine ⟨_, [], dec_small c, ?_⟩
      intro e
      have := congrArg UInt8.toNat e
      simp at this
      omega
    · obtain ⟨a, l, e, ha⟩ := ih (m / 10) (by omega) (by omega)
      exact ⟨a, l ++ [UInt8.ofNat (48 + m % 10)], by rw [dec_big c, e]; rfl, ha⟩
theorem digit_toNat {n : Nat} (h : n < 10) : (UInt8.ofNat (48 + n)).toNat = 48 + n := by simp; omega
theorem go_digit (most : Int) {n : Nat} (h : n < 10) (rest : List UInt8) (v : Int) (v0 : 0 ≤ v) (v1 : v ≤ 100000000) :
    numberGo most (UInt8.ofNat (48 + n) :: rest) v = if v * 10 + n > most then (0, 5) else numberGo most rest (v * 10 + n) := by
  rw [numberGo, digit_toNat h, if_neg (by omega)]
  have e : wrap64 (wrap64 (v * 10) + ((48 + n : Nat) - 48 : Int)) = v * 10 + n := by
    rw [wrap64_id (v * 10) (by omega) (by omega)]
    have : ((48 + n : Nat) : Int) = 48 + (n : Int) := by simp
    rw [this, wrap64_id _ (by omega) (by omega)]
    omega
  rw [e]
theorem go_digits (most : Int) (rest : List UInt8) (N : Nat) : ∀ m, m ≤ N → m ≤ 100000000 → ∀ rest : List UInt8, numberGo most (Lib.decDigits m ++ rest) 0 = if (m : Int) > most then (0, 5) else numberGo most rest m := by
  induction N with
  | zero =>
    intro m h _ rest
    have : m = 0 := by omega
    subst this
    rw [dec_small (by decide), List.singleton_append, go_digit most (by decide) rest 0 (by decide) (by decide)]
    simp
  | succ N ih =>
    intro m h h2 rest
    by_cases c : m < 10
    · rw [dec_small c, List.singleton_append, go_digit most c rest 0 (by decide) (by decide)]
      simp
    · rw [dec_big c, List.append_assoc, ih (m / 10) (by omega) (by omega), List.singleton_append, go_digit most (Nat.mod_lt _ (by decide)) rest _ (by omega) (by omega)]
      have e : ((m / 10 : Nat) : Int) * 10 + ((m % 10 : Nat) : Int) = m := by omega
      rw [e]
      by_cases d : ((m / 10 : Nat) : Int) > most
      · rw [if_pos d, if_pos (by omega)]
      · rw [if_neg d]
theorem bad_dec (m : Nat) : numberBad (Lib.decDigits m) = false := by
  by_cases h : 1 ≤ m
  · obtain ⟨c, l, e, hc⟩ := dec_head m m (Nat.le_refl _) h
    rw [e]
    simp [numberBad, hc]
  · have : m = 0 := by omega
    subst this
    rw [dec_small (by decide)]
    rfl
/-- The four readings. -/
theorem number_dec (m : Nat) (h : m ≤ 10000000) (S : ByteArray) (hS : S = ⟨(Lib.decDigits m).toArray⟩) (most : Int) : hdr_Number.f S most = some (if (m : Int) > most then (0, 5) else ((m : Int), 0)) := by
  subst hS
  unfold hdr_Number.f
  have := go_digits most [] m m (Nat.le_refl _) (by omega) []
  rw [List.append_nil] at this
  simp only [bad_dec]
  rw [if_neg (by decide), this]
  rfl
/-- The pieces between the bytes c. -/
def sp (c : UInt8) : List UInt8 → List (List UInt8)
  | [] => [[]]
  | b :: l => if b = c then [] :: sp c l else match sp c l with
    | [] => [[b]]
    | h :: t => (b :: h) :: t
theorem splitK_sp (c : UInt8) : ∀ s : List UInt8, Lib.splitK [c] 0 (s.count c) s = sp c s
  | [] => rfl
  | b :: l => by
    have ih := splitK_sp c l
    by_cases d : b = c
    · subst d
      have hi : Lib.index (b :: l) [b] = 0 := by rw [Lib.index_one, Lib.indexByte, if_pos (beq_self_eq_true b)]
      rw [sp, if_pos rfl, List.count_cons_self, Lib.splitK, hi, if_neg (by decide), ← ih]
      rfl
    · have hc : (b :: l).count c = l.count c := by rw [List.count_cons_of_ne (by simpa using d)]
      rw [sp, if_neg d, hc]
      cases hn : l.count c with
      | zero =>
        rw [hn] at ih
        have e : sp c l = [l] := ih.symm
        rw [e]
        rfl
      | succ m =>
        rw [hn] at ih
        by_cases g : Lib.indexByte l c = -1
        · have hi : Lib.index (b :: l) [c] = -1 := by rw [Lib.index_one, Lib.indexByte, if_neg (by simpa using d), if_pos (beq_iff_eq.2 g)]
          rw [Lib.splitK, Lib.index_one, g, if_pos (by decide)] at ih
          rw [← ih, Lib.splitK, hi, if_pos (by decide)]
        · have hge := Lib.indexByte_ge l c
          have hi : Lib.index (b :: l) [c] = Lib.indexByte l c + 1 := by rw [Lib.index_one, Lib.indexByte, if_neg (by simpa using d), if_neg (by simpa using g)]
          rw [Lib.splitK, Lib.index_one, if_neg (by simpa using g)] at ih
          rw [← ih, Lib.splitK, hi, if_neg (by rw [beq_iff_eq]; omega)]
          have e : (Lib.indexByte l c + 1).toNat = (Lib.indexByte l c).toNat + 1 := by omega
          rw [e]
          rfl
theorem map_inj : ∀ (a b : List ByteArray), a.map (·.data.toList) = b.map (·.data.toList) → a = b
  | [], [], _ => rfl
  | [], _ :: _, h => by simp at h
  | _ :: _, [], h => by simp at h
  | x :: a, y :: b, h => by
    simp only [List.map_cons, List.cons.injEq] at h
    have e : x = y := by apply ByteArray.ext; exact Array.toList_inj.mp h.1
    rw [e, map_inj a b h.2]
theorem or_add {v n : Int} (v0 : 0 ≤ v) (v1 : v < 4294967296) (n0 : 0 ≤ n) (n1 : n ≤ 255) :
    Go.bits .or .u32 ((v * 256) % 4294967296) (n % 4294967296) = ((v * 256) % 4294967296 + n % 4294967296) % 4294967296 ∧ 0 ≤ ((v * 256) % 4294967296 + n % 4294967296) % 4294967296 ∧ ((v * 256) % 4294967296 + n % 4294967296) % 4294967296 < 4294967296 := by
  have a0 : 0 ≤ (v * 256) % 4294967296 := by omega
  have a1 : (v * 256) % 4294967296 < 4294967296 := by omega
  have a2 : (v * 256) % 4294967296 % 256 = 0 := by omega
  have en : n % 4294967296 = n := by omega
  rw [en]
  generalize (v * 256) % 4294967296 = a at a0 a1 a2 ⊢
  have := bits_join .u32 32 (by decide) wraps_u32 8 a n a0 a2 a1 n0 (by omega) (by omega)
  rw [this]
  omega
/-- A text out of its bytes. -/
def B (l : List UInt8) : ByteArray := ⟨l.toArray⟩
theorem B_add (l r : List UInt8) : B l ++ B r = B (l ++ r) := by
  apply ByteArray.ext
  apply Array.toList_inj.mp
  unfold B
  simp
theorem B_size (l : List UInt8) : (B l).size = l.length := Hand.lit_size l
theorem B_data (l : List UInt8) : (B l).data.toList = l := rfl
theorem B_45 : (⟨#[45]⟩ : ByteArray) = B [45] := rfl
theorem B_46 : (⟨#[46]⟩ : ByteArray) = B [46] := rfl
theorem B_47 : (⟨#[47]⟩ : ByteArray) = B [47] := rfl
def D (n : Nat) : List UInt8 := Lib.decDigits n
theorem D_len {n : Nat} (h : n ≤ 65535) : (D n).length ≤ 5 := dec_len 4 n (by have : (10 : Nat) ^ (4 + 1) = 100000 := rfl; omega)
theorem D_mem (N : Nat) : ∀ n, n ≤ N → ∀ x ∈ D n, 48 ≤ x.toNat ∧ x.toNat ≤ 57 := by
  unfold D
  induction N with
  | zero =>
    intro n h x hx
    rw [dec_small (by omega), List.mem_singleton] at hx
    rw [hx, digit_toNat (by omega)]
    omega
  | succ N ih =>
    intro n h x hx
    by_cases c : n < 10
    · rw [dec_small c, List.mem_singleton] at hx
      rw [hx, digit_toNat c]
      omega
    · rw [dec_big c] at hx
      rcases List.mem_append.1 hx with r | r
      · exact ih (n / 10) (by omega) x r
      · rw [List.mem_singleton] at r
        rw [r, digit_toNat (Nat.mod_lt _ (by decide))]
        omega
theorem D_not (n : Nat) {c : UInt8} (h : c.toNat < 48) : c ∉ D n := fun hc => by have := D_mem n n (Nat.le_refl _) c hc; omega
theorem D_len7 {n : Nat} (h : n ≤ 10000000) : (D n).length ≤ 8 := dec_len 7 n (by have : (10 : Nat) ^ (7 + 1) = 100000000 := rfl; omega)
theorem itoa_eq (n : Nat) (h : n ≤ 65535) : strconv_Itoa_76.f (n : Int) = some (B (D n)) := by
  unfold strconv_Itoa_76.f
  rw [if_pos ⟨by omega, by omega⟩]
  unfold Lib.itoa
  rw [if_neg (by omega)]
  rfl
theorem itoa7 (n : Nat) (h : n ≤ 10000000) : strconv_Itoa_76.f (n : Int) = some (B (D n)) := by
  unfold strconv_Itoa_76.f
  rw [if_pos ⟨by omega, by omega⟩]
  unfold Lib.itoa
  rw [if_neg (by omega)]
  rfl
theorem digits_go (k : Nat) : ∀ (d m : Nat) (x5 : ByteArray), m < 10 ^ (d + 1) → m ≤ 10000000 → x5.size + d ≤ 100 →
    crossbuckref02_Digits.l0 (k + d + 1) m x5 = some (B (D m ++ x5.data.toList)) := by
  intro d
  induction d with
  | zero =>
    intro m x5 hm hm2 hs
    have hm' : m < 10 := by simpa using hm
    have c1 : 1 + x5.size ≤ 9223372036854775807 := by omega
    have e2 : (m : Int) / 10 = 0 := by omega
    have ez : (strOfNums [((48 + m : Nat) : Int)]).size = 1 := by simp [strOfNums, ByteArray.size]
    have ey : wrap64 (48 + Int.tmod m 10) % 256 = (48 + m : Nat) := by
      rw [Int.tmod_eq_emod_of_nonneg (Int.natCast_nonneg _), wrap64_id _ (by omega) (by omega)]
      omega
    have em : wrap64 (Int.tdiv m 10) = 0 := by
      rw [Int.tdiv_eq_ediv_of_nonneg (Int.natCast_nonneg _), e2]; exact wrap64_id 0 (by decide) (by decide)
    rw [crossbuckref02_Digits.l0, ey, Option.bind_some, if_pos (by rw [ez]; exact c1), em, if_pos rfl]
    congr 1
    unfold D
    rw [dec_small hm']
    apply ByteArray.ext
    apply Array.toList_inj.mp
    unfold strOfNums B
    rw [ByteArray.data_append, Array.toList_append]
    rfl
  | succ d ih =>
    intro m x5 hm hm2 hs
    by_cases hm' : m < 10
    · exact crossbuckref02_Digits.mono_l _ _ _ _ (ih m x5 (Nat.lt_of_lt_of_le hm' (by rw [Nat.pow_succ]; have := Nat.pow_pos (n := d) (show 0 < 10 by decide); omega)) hm2 (by omega))
    · have hlt : m / 10 < 10 ^ (d + 1) := by
        rw [Nat.pow_succ] at hm
        omega
      have c1 : 1 + x5.size ≤ 9223372036854775807 := by omega
      have c2 : ¬ (((m / 10 : Nat) : Int) = 0) := by omega
      have c3 : m / 10 ≤ 10000000 := by omega
      have e2 : (m : Int) / 10 = ((m / 10 : Nat) : Int) := by omega
      have ez : (strOfNums [((48 + m % 10 : Nat) : Int)]).size = 1 := by simp [strOfNums, ByteArray.size]
      have c4 : (strOfNums [((48 + m % 10 : Nat) : Int)] ++ x5).size + d ≤ 100 := by rw [ByteArray.size_append, ez]; omega
      have ey : wrap64 (48 + Int.tmod m 10) % 256 = (48 + m % 10 : Nat) := by
        rw [Int.tmod_eq_emod_of_nonneg (Int.natCast_nonneg _), wrap64_id _ (by omega) (by omega)]
        omega
      have em : wrap64 (Int.tdiv m 10) = ((m / 10 : Nat) : Int) := by
        rw [Int.tdiv_eq_ediv_of_nonneg (Int.natCast_nonneg _), e2, wrap64_id _ (by clear ey; omega) (by clear ey; omega)]
      rw [show k + (d + 1) + 1 = (k + d + 1) + 1 from rfl, crossbuckref02_Digits.l0, ey, Option.bind_some, if_pos (by rw [ez]; exact c1), em, if_neg c2, ih (m / 10) _ hlt c3 c4]
      congr 1
      unfold D
      rw [dec_big hm', ByteArray.data_append, Array.toList_append, List.append_assoc]
      rfl
theorem digits_eq (k n : Nat) (h : n ≤ 65535) : crossbuckref02_Digits.f (k + 5) (n : Int) = some (B (D n)) := by
  unfold crossbuckref02_Digits.f
  have := digits_go k 4 n ⟨#[]⟩ (by have : (10 : Nat) ^ (4 + 1) = 100000 := rfl; omega) (by omega) (by show 0 + 4 ≤ 100; omega)
  rw [show (⟨#[]⟩ : ByteArray).data.toList = [] from rfl, List.append_nil] at this
  exact this
theorem digits7 (k n : Nat) (h : n ≤ 10000000) : crossbuckref02_Digits.f (k + 8) (n : Int) = some (B (D n)) := by
  unfold crossbuckref02_Digits.f
  have := digits_go k 7 n ⟨#[]⟩ (by have : (10 : Nat) ^ (7 + 1) = 100000000 := rfl; omega) h (by show 0 + 7 ≤ 100; omega)
  rw [show (⟨#[]⟩ : ByteArray).data.toList = [] from rfl, List.append_nil] at this
  exact this
theorem sp_none (c : UInt8) : ∀ l : List UInt8, c ∉ l → sp c l = [l]
  | [], _ => rfl
  | b :: l, h => by
    have h1 : ¬ b = c := by intro e; subst e; exact h (List.mem_cons_self ..)
    rw [sp, if_neg h1, sp_none c l (fun m => h (List.mem_cons_of_mem _ m))]
theorem sp_mid (c : UInt8) : ∀ l r : List UInt8, c ∉ l → sp c (l ++ c :: r) = l :: sp c r
  | [], r, _ => by rw [List.nil_append, sp, if_pos rfl]
  | b :: l, r, h => by
    have h1 : ¬ b = c := by intro e; subst e; exact h (List.mem_cons_self ..)
    rw [List.cons_append, sp, if_neg h1, sp_mid c l r (fun m => h (List.mem_cons_of_mem _ m))]
theorem num_read (n : Nat) (h : n ≤ 65535) (most : Int) (hm : (n : Int) ≤ most) : hdr_Number.f (B (D n)) most = some ((n : Int), 0) := by
  rw [number_dec n (by omega) (B (D n)) rfl most, if_neg (by omega)]
theorem num7 (n : Nat) (h : n ≤ 10000000) (most : Int) (hm : (n : Int) ≤ most) : hdr_Number.f (B (D n)) most = some ((n : Int), 0) := by
  rw [number_dec n h (B (D n)) rfl most, if_neg (by omega)]
def addrB (n1 n2 n3 n4 : Nat) : List UInt8 := D n1 ++ 46 :: (D n2 ++ 46 :: (D n3 ++ 46 :: D n4))
theorem addr_len {n1 n2 n3 n4 : Nat} (h1 : n1 ≤ 255) (h2 : n2 ≤ 255) (h3 : n3 ≤ 255) (h4 : n4 ≤ 255) : (addrB n1 n2 n3 n4).length ≤ 23 := by
  have := D_len (n := n1) (by omega)
  have := D_len (n := n2) (by omega)
  have := D_len (n := n3) (by omega)
  have := D_len (n := n4) (by omega)
  simp [addrB]
  omega
theorem addr_read (k : Nat) {n1 n2 n3 n4 : Nat} (h1 : n1 ≤ 255) (h2 : n2 ≤ 255) (h3 : n3 ≤ 255) (h4 : n4 ≤ 255) :
    hdr_ParseAddr.f (k + 5) (B (addrB n1 n2 n3 n4)) = some ((((((n1 * 256 + n2) * 256 + n3) * 256 + n4 : Nat) : Int)), 0) := by
  have hl := addr_len h1 h2 h3 h4
  obtain ⟨l, g1⟩ : ∃ l, strings_Split.f (B (addrB n1 n2 n3 n4)) ⟨#[46]⟩ = some l := ⟨_, if_pos ⟨by rw [B_size]; omega, by simp [ByteArray.size]⟩⟩
  have hm : l.map (·.data.toList) = [D n1, D n2, D n3, D n4] := by
    have g1' := g1
    unfold strings_Split.f at g1'
    rw [if_pos ⟨by rw [B_size]; omega, by simp [ByteArray.size]⟩] at g1'
    have e := Option.some.inj g1'
    rw [← e, Lib.splitB_data, show (⟨#[46]⟩ : ByteArray).data.toList = [46] from rfl, B_data]
    unfold Lib.countB
    rw [show (⟨#[46]⟩ : ByteArray).data.toList = [46] from rfl, B_data, Lib.count_one, splitK_sp]
    unfold addrB
    rw [sp_mid 46 _ _ (D_not n1 (by decide)), sp_mid 46 _ _ (D_not n2 (by decide)), sp_mid 46 _ _ (D_not n3 (by decide)), sp_none 46 _ (D_not n4 (by decide))]
  have hl4 : l = [B (D n1), B (D n2), B (D n3), B (D n4)] := map_inj _ _ (by rw [hm]; rfl)
  subst hl4
  unfold hdr_ParseAddr.f
  rw [g1, Option.bind_some]
  have num : ∀ n : Nat, n ≤ 255 → hdr_Number.f (B (D n)) 255 = some ((n : Int), 0) := fun n h => num_read n (by omega) 255 (by omega)
  have r0 : rdOf ByteArray.empty [B (D n1), B (D n2), B (D n3), B (D n4)] (0 : Int) = B (D n1) := rfl
  have r1 : rdOf ByteArray.empty [B (D n1), B (D n2), B (D n3), B (D n4)] (1 : Int) = B (D n2) := rfl
  have r2 : rdOf ByteArray.empty [B (D n1), B (D n2), B (D n3), B (D n4)] (2 : Int) = B (D n3) := rfl
  have r3 : rdOf ByteArray.empty [B (D n1), B (D n2), B (D n3), B (D n4)] (3 : Int) = B (D n4) := rfl
  have l4 : (([B (D n1), B (D n2), B (D n3), B (D n4)] : List ByteArray).length : Int) = 4 := rfl
  have w1 : wrap64 ((0 : Int) + 1) = 1 := wrap64_id _ (by decide) (by decide)
  have w2 : wrap64 ((1 : Int) + 1) = 2 := wrap64_id _ (by decide) (by decide)
  have w3 : wrap64 ((2 : Int) + 1) = 3 := wrap64_id _ (by decide) (by decide)
  have w4 : wrap64 ((3 : Int) + 1) = 4 := wrap64_id _ (by decide) (by decide)
  have o1 := (or_add (v := 0) (n := n1) (by decide) (by decide) (by omega) (by omega)).1
  have o2 := (or_add (v := (n1 : Int)) (n := n2) (by omega) (by omega) (by omega) (by omega)).1
  have o3 := (or_add (v := ((n1 * 256 + n2 : Nat) : Int)) (n := n3) (by omega) (by omega) (by omega) (by omega)).1
  have o4 := (or_add (v := (((n1 * 256 + n2) * 256 + n3 : Nat) : Int)) (n := n4) (by omega) (by omega) (by omega) (by omega)).1
  rw [l4, if_pos rfl, hdr_ParseAddr.l0, if_pos (by decide), if_pos (by decide), l4, if_pos (by decide), r0, num n1 h1, Option.bind_some, if_pos rfl, w1, o1,
    show ((0 : Int) * 256 % 4294967296 + (n1 : Int) % 4294967296) % 4294967296 = (n1 : Int) by omega,
    hdr_ParseAddr.l0, if_pos (by decide), if_pos (by decide), l4, if_pos (by decide), r1, num n2 h2, Option.bind_some, if_pos rfl, w2, o2,
    show ((n1 : Int) * 256 % 4294967296 + (n2 : Int) % 4294967296) % 4294967296 = ((n1 * 256 + n2 : Nat) : Int) by omega,
    hdr_ParseAddr.l0, if_pos (by decide), if_pos (by decide), l4, if_pos (by decide), r2, num n3 h3, Option.bind_some, if_pos rfl, w3, o3,
    show (((n1 * 256 + n2 : Nat) : Int) * 256 % 4294967296 + (n3 : Int) % 4294967296) % 4294967296 = (((n1 * 256 + n2) * 256 + n3 : Nat) : Int) by omega,
    hdr_ParseAddr.l0, if_pos (by decide), if_pos (by decide), l4, if_pos (by decide), r3, num n4 h4, Option.bind_some, if_pos rfl, w4, o4,
    show ((((n1 * 256 + n2) * 256 + n3 : Nat) : Int) * 256 % 4294967296 + (n4 : Int) % 4294967296) % 4294967296 = ((((n1 * 256 + n2) * 256 + n3) * 256 + n4 : Nat) : Int) by omega,
    hdr_ParseAddr.l0, if_neg (by decide)]
theorem and_255 (x : Nat) (h : x < 4294967296) (s : Nat) (hs : s < 32) : wrap64 (Go.bits .and .u32 (shr .u32 (x : Int) (s : Int)) 255) = ((x / 2 ^ s % 256 : Nat) : Int) := by
  unfold shr
  have e : (32 : Nat) = IntKind.bits .u32 := rfl
  rw [← e, Int.toNat_natCast, Nat.min_eq_left (by omega)]
  have e2 : ((x : Int) / 2 ^ s) = ((x / 2 ^ s : Nat) : Int) := by simp
  have hle : x / 2 ^ s ≤ x := Nat.div_le_self _ _
  rw [e2]
  generalize x / 2 ^ s = y at hle
  have := bits_mask .u32 32 (by decide) wraps_u32 8 (by decide) (y : Int) (by omega) (by have e3 : (2 : Int) ^ 32 = 4294967296 := rfl; omega)
  rw [show (255 : Int) = 2 ^ 8 - 1 from rfl, this, wrap64_id _ (by omega) (by omega)]
  simp
theorem join_four (a b c d : List UInt8) (h : (a ++ 46 :: (b ++ 46 :: (c ++ 46 :: d))).length ≤ 1000) : strings_Join.f ([] ++ [B a] ++ [B b] ++ [B c] ++ [B d]) ⟨#[46]⟩ = some (B (a ++ 46 :: (b ++ 46 :: (c ++ 46 :: d)))) := by
  unfold strings_Join.f
  have e : Lib.join (List.map (fun z : ByteArray => z.data.toList) ([] ++ [B a] ++ [B b] ++ [B c] ++ [B d])) (⟨#[46]⟩ : ByteArray).data.toList = a ++ 46 :: (b ++ 46 :: (c ++ 46 :: d)) := by
    show [46].intercalate [a, b, c, d] = _
    simp [List.intercalate, List.intersperse]
  rw [e, if_pos ⟨by omega, by simp⟩]
  rfl
theorem addr_print (k x : Nat) (h : x < 4294967296) : hdr_Addr.f (k + 5) (x : Int) = some (B (addrB (x / 16777216 % 256) (x / 65536 % 256) (x / 256 % 256) (x % 256))) := by
  unfold hdr_Addr.f
  have a1 : wrap64 (Go.bits .and .u32 (shr .u32 (x : Int) 24) 255) = ((x / 16777216 % 256 : Nat) : Int) := and_255 x h 24 (by decide)
  have a2 : wrap64 (Go.bits .and .u32 (shr .u32 (x : Int) 16) 255) = ((x / 65536 % 256 : Nat) : Int) := and_255 x h 16 (by decide)
  have a3 : wrap64 (Go.bits .and .u32 (shr .u32 (x : Int) 8) 255) = ((x / 256 % 256 : Nat) : Int) := and_255 x h 8 (by decide)
  have a4 : wrap64 (Go.bits .and .u32 (shr .u32 (x : Int) 0) 255) = ((x % 256 : Nat) : Int) := by
    have := and_255 x h 0 (by decide)
    rw [Nat.pow_zero, Nat.div_one] at this
    exact this
  have hl := addr_len (n1 := x / 16777216 % 256) (n2 := x / 65536 % 256) (n3 := x / 256 % 256) (n4 := x % 256) (by clear a1 a2 a3 a4; omega) (by clear a1 a2 a3 a4; omega) (by clear a1 a2 a3 a4; omega) (by clear a1 a2 a3 a4; omega)
  have lt : ∀ y : Nat, y % 256 ≤ 65535 := fun y => by clear a1 a2 a3 a4; omega
  have w1 : wrap64 ((24 : Int) - 8) = 16 := wrap64_id _ (by decide) (by decide)
  have w2 : wrap64 ((16 : Int) - 8) = 8 := wrap64_id _ (by decide) (by decide)
  have w3 : wrap64 ((8 : Int) - 8) = 0 := wrap64_id _ (by decide) (by decide)
  have w4 : wrap64 ((0 : Int) - 8) = -8 := wrap64_id _ (by decide) (by decide)
  rw [hdr_Addr.l0, if_pos (by decide), if_pos (by decide), a1, itoa_eq _ (lt _), Option.bind_some, if_pos (by decide), w1,
    hdr_Addr.l0, if_pos (by decide), if_pos (by decide), a2, itoa_eq _ (lt _), Option.bind_some, if_pos (by simp), w2,
    hdr_Addr.l0, if_pos (by decide), if_pos (by decide), a3, itoa_eq _ (lt _), Option.bind_some, if_pos (by simp), w3,
    hdr_Addr.l0, if_pos (by decide), if_pos (by decide), a4, itoa_eq _ (lt _), Option.bind_some, if_pos (by simp), w4,
    hdr_Addr.l0, if_neg (by decide), join_four _ _ _ _ (by unfold addrB at hl; exact Nat.le_trans hl (by decide))]
  rfl
theorem addr_ref (k x : Nat) (h : x < 4294967296) : crossbuckref02_Addr.f (k + 5) (x : Int) = some (B (addrB (x / 16777216 % 256) (x / 65536 % 256) (x / 256 % 256) (x % 256))) := by
  unfold crossbuckref02_Addr.f
  have nn : (0 : Int) ≤ (x : Int) := Int.natCast_nonneg _
  have b1 : (Int.tdiv (x : Int) 16777216) % 4294967296 = ((x / 16777216 % 256 : Nat) : Int) := by rw [Int.tdiv_eq_ediv_of_nonneg nn]; omega
  have b2 : (Int.tdiv (x : Int) 65536) % 256 = ((x / 65536 % 256 : Nat) : Int) := by rw [Int.tdiv_eq_ediv_of_nonneg nn]; omega
  have b3 : (Int.tdiv (x : Int) 256) % 256 = ((x / 256 % 256 : Nat) : Int) := by rw [Int.tdiv_eq_ediv_of_nonneg nn]; omega
  have e4 : (x : Int) % 256 = ((x % 256 : Nat) : Int) := by omega
  have q1 : x / 16777216 % 256 ≤ 65535 := by omega
  have q2 : x / 65536 % 256 ≤ 65535 := by omega
  have q3 : x / 256 % 256 ≤ 65535 := by omega
  have q4 : x % 256 ≤ 65535 := by omega
  have l1 := D_len q1
  have l2 := D_len q2
  have l3 := D_len q3
  have l4 := D_len q4
  have b4 : wrap64 (Int.tmod (x : Int) 256) = ((x % 256 : Nat) : Int) := by rw [Int.tmod_eq_emod_of_nonneg nn, e4, wrap64_id _ (by omega) (by omega)]
  rw [b1, b2, b3, b4]
  clear b1 b2 b3 b4 e4
  unfold addrB
  generalize x / 16777216 % 256 = n1 at *
  generalize x / 65536 % 256 = n2 at *
  generalize x / 256 % 256 = n3 at *
  generalize x % 256 = n4 at *
  have z46 : ([46] : List UInt8).length = 1 := rfl
  rw [digits_eq k n1 q1, Option.bind_some, if_pos (by rw [B_size]; omega), digits_eq k n2 q2, Option.bind_some, B_46, B_add, if_pos (by simp only [B_size, List.length_append]; omega), B_add, if_pos (by simp only [B_size, List.length_append]; omega),
    digits_eq k n3 q3, Option.bind_some, B_add, if_pos (by simp only [B_size, List.length_append]; omega), B_add, if_pos (by simp only [B_size, List.length_append]; omega), digits_eq k n4 q4, Option.bind_some, B_add, if_pos (by simp only [B_size, List.length_append]; omega), B_add]
  simp
theorem split_of {s : ByteArray} {c : UInt8} {ps : List (List UInt8)} (hs : s.size ≤ 1000000) (h : sp c s.data.toList = ps) : strings_Split.f s ⟨#[c]⟩ = some (ps.map B) := by
  unfold strings_Split.f
  rw [if_pos ⟨by omega, by simp [ByteArray.size]⟩]
  congr 1
  apply map_inj
  rw [Lib.splitB_data, show (⟨#[c]⟩ : ByteArray).data.toList = [c] from rfl]
  unfold Lib.countB
  rw [show (⟨#[c]⟩ : ByteArray).data.toList = [c] from rfl, Lib.count_one, splitK_sp, h, List.map_map]
  exact (List.map_id ps).symm
def addrT (x : Nat) : List UInt8 := addrB (x / 16777216 % 256) (x / 65536 % 256) (x / 256 % 256) (x % 256)
theorem addrT_len (x : Nat) : (addrT x).length ≤ 23 := addr_len (by omega) (by omega) (by omega) (by omega)
theorem addrT_no (x : Nat) : (32 : UInt8) ∉ addrT x := by
  unfold addrT addrB
  intro h
  have d : ∀ n, (32 : UInt8) ∉ D n := fun n => D_not n (by decide)
  simp [d] at h
theorem index_mid (c : UInt8) : ∀ (l r : List UInt8), c ∉ l → Lib.indexByte (l ++ c :: r) c = l.length
  | [], r, _ => by rw [List.nil_append, Lib.indexByte, if_pos (beq_self_eq_true c)]; rfl
  | b :: l, r, h => by
    have h1 : ¬ (b == c) = true := by
      rw [beq_iff_eq]; intro e; subst e; exact h (List.mem_cons_self ..)
    have ih := index_mid c l r (fun m => h (List.mem_cons_of_mem _ m))
    rw [List.cons_append, Lib.indexByte, if_neg h1, ih, if_neg (by rw [beq_iff_eq]; omega)]
    simp
theorem cut_mid (c : UInt8) (l r : List UInt8) (h : c ∉ l) (hs : (l ++ c :: r).length < 1000000) : strings_Cut.f (B (l ++ c :: r)) ⟨#[c]⟩ = some (B l, B r, true) := by
  unfold strings_Cut.f
  rw [if_pos (by rw [B_size]; omega), B_data]
  unfold Lib.cut
  rw [show (⟨#[c]⟩ : ByteArray).data.toList = [c] from rfl, Lib.index_one, index_mid c l r h, if_pos (by omega), Int.toNat_natCast, List.take_left, List.length_singleton,
    show l ++ c :: r = (l ++ [c]) ++ r by simp, show l.length + 1 = (l ++ [c]).length by simp, List.drop_left]
  rfl
theorem prefix_print (k x y : Nat) (h : x < 4294967296) (hy : y ≤ 32) (l : List UInt8) (hl : addrB (x / 16777216 % 256) (x / 65536 % 256) (x / 256 % 256) (x % 256) = l) (hl2 : l.length ≤ 23) :
    cidr_Print.f (k + 5) x y = some (B (l ++ 47 :: D y)) ∧ crossbuckref03_Print.f (k + 5) x y = some (B (l ++ 47 :: D y)) := by
  have ly := D_len (n := y) (by omega)
  have z47 : ([47] : List UInt8).length = 1 := rfl
  have s1 : (B l).size + 1 ≤ 9223372036854775807 := by rw [B_size]; omega
  have s2 : (B (l ++ [47])).size + (B (D y)).size ≤ 9223372036854775807 := by simp only [B_size, List.length_append]; omega
  unfold cidr_Print.f crossbuckref03_Print.f
  rw [addr_print k x h, addr_ref k x h, itoa_eq y (by omega), digits_eq k y (by omega), hl]
  simp only [Option.bind_some]
  rw [if_pos s1, B_47, B_add, if_pos s2, B_add]
  simp
theorem addr_no47 (n1 n2 n3 n4 : Nat) : (47 : UInt8) ∉ addrB n1 n2 n3 n4 := by
  unfold addrB
  intro h
  have d : ∀ n, (47 : UInt8) ∉ D n := fun n => D_not n (by decide)
  simp [d] at h
theorem prefix_read (k x y : Nat) (h : x < 4294967296) (hy : y ≤ 32) (hr : rightB x y = true) (l : List UInt8) (hl : addrB (x / 16777216 % 256) (x / 65536 % 256) (x / 256 % 256) (x % 256) = l) (hl2 : l.length ≤ 23) :
    cidr_Parse.f (k + 5) (B (l ++ 47 :: D y)) = some ((x : Int), (y : Int), 0) := by
  have ly := D_len (n := y) (by omega)
  have ha := addr_read k (n1 := x / 16777216 % 256) (n2 := x / 65536 % 256) (n3 := x / 256 % 256) (n4 := x % 256) (by omega) (by omega) (by omega) (by omega)
  have ex : (((x / 16777216 % 256) * 256 + x / 65536 % 256) * 256 + x / 256 % 256) * 256 + x % 256 = x := by omega
  rw [hl, ex] at ha
  have hn : (47 : UInt8) ∉ l := by rw [← hl]; exact addr_no47 _ _ _ _
  unfold cidr_Parse.f
  rw [cut_mid 47 l (D y) hn (by rw [List.length_append, List.length_cons]; omega), Option.bind_some, if_pos rfl, ha, Option.bind_some, if_pos rfl, num_read y (by omega) 32 (by omega), Option.bind_some, if_pos rfl, tright_eq (by omega) (by omega), hr, Option.bind_some, if_pos rfl]
def preT (x y : Nat) : List UInt8 := addrT x ++ 47 :: D y
theorem preT_len (x : Nat) {y : Nat} (h : y ≤ 65535) : (preT x y).length ≤ 29 := by
  have := addrT_len x
  have := D_len h
  simp [preT]
  omega
theorem preT_no (x y : Nat) : (32 : UInt8) ∉ preT x y := by
  unfold preT
  intro h
  have d : (32 : UInt8) ∉ D y := D_not y (by decide)
  have := addrT_no x
  simp [d, this] at h
theorem pre_print (k : Nat) {x y : Nat} (h : x < 4294967296) (hy : y ≤ 32) : cidr_Print.f (k + 5) x y = some (B (preT x y)) ∧ crossbuckref03_Print.f (k + 5) x y = some (B (preT x y)) :=
  prefix_print k x y h hy (addrT x) rfl (addrT_len x)
theorem pre_read (k : Nat) {x y : Nat} (h : x < 4294967296) (hy : y ≤ 32) (hr : rightB x y = true) : cidr_Parse.f (k + 5) (B (preT x y)) = some ((x : Int), (y : Int), 0) :=
  prefix_read k x y h hy hr (addrT x) rfl (addrT_len x)
theorem toList_B (l : List UInt8) : (B l).toList = l := by rw [ByteArray.toList_eq]; rfl
end Go.Proofs.YtloclimoffhbhaaDoor.Scr
