/- Addresses and numbers written and read: by the program, by the document. No condition of its own. -/
import Derived.Test.YtloclimoffhbhaaDoorDec
import Derived.Test.YtloclimoffhbhaaDoorSplitN
import Derived.Lib.Join
import Derived.Test.YtloclimoffhbhaaDoorPFxx1
import Derived.Test.YtloclimoffhbhaaDoorPFxx10
import Derived.Test.YtloclimoffhbhaaDoorPFxx9
namespace Go.Proofs.YtloclimoffhbhaaDoor.Pure
open Go Go.RowKit Go.Proofs.YtloclimoffhbhaaDoor.PFx Go.Proofs.YtloclimoffhbhaaDoorW.PrintWords Go.Proofs.YtloclimoffhbhaaDoorW.PrintLast Go.Proofs.YtloclimoffhbhaaDoorW.PrintMore Go.Proofs.YtloclimoffhbhaaDoor.Bits Go.Proofs.YtloclimoffhbhaaDoor.Text Go.Proofs.YtloclimoffhbhaaDoor.Dec
set_option linter.unusedVariables false

/-- A text out of its bytes. -/
def B (l : List UInt8) : ByteArray := ⟨l.toArray⟩
theorem B_add (l r : List UInt8) : B l ++ B r = B (l ++ r) := by
  apply ByteArray.ext
  apply Array.toList_inj.mp
  unfold B
  simp
theorem B_size (l : List UInt8) : (B l).size = l.length := Hand.lit_size l
theorem B_data (l : List UInt8) : (B l).data.toList = l := rfl
theorem B_45 : (⟨#[45]⟩ : ByteArray) = B [45] := rfl
theorem B_46 : (⟨#[46]⟩ : ByteArray) = B [46] := rfl
theorem B_47 : (⟨#[47]⟩ : ByteArray) = B [47] := rfl
def D (n : Nat) : List UInt8 := Lib.decDigits n
theorem D_len {n : Nat} (h : n ≤ 65535) : (D n).length ≤ 5 := dec_len 4 n (by have : (10 : Nat) ^ (4 + 1) = 100000 := rfl; omega)
theorem D_mem (N : Nat) : ∀ n, n ≤ N → ∀ x ∈ D n, 48 ≤ x.toNat ∧ x.toNat ≤ 57 := by
  unfold D
  induction N with
  | zero =>
    intro n h x hx
    rw [dec_small (by omega), List.mem_singleton] at hx
    rw [hx, digit_toNat (by omega)]
    omega
  | succ N ih =>
    intro n h x hx
    by_cases c : n < 10
    · rw [dec_small c, List.mem_singleton] at hx
      rw [hx, digit_toNat c]
      omega
    · rw [dec_big c] at hx
      rcases List.mem_append.1 hx with r | r
      · exact ih (n / 10) (by omega) x r
      · rw [List.mem_singleton] at r
        rw [r, digit_toNat (Nat.mod_lt _ (by decide))]
        omega
theorem D_not (n : Nat) {c : UInt8} (h : c.toNat < 48) : c ∉ D n := fun hc => by have := D_mem n n (Nat.le_refl _) c hc; omega

/-! ### Printing -/
theorem itoa_eq (n : Nat) (h : n ≤ 65535) : strconv_Itoa_76.f (n : Int) = some (B (D n)) := by
  unfold strconv_Itoa_76.f
  rw [if_pos ⟨by omega, by omega⟩]
  unfold Lib.itoa
  rw [if_neg (by omega)]
  rfl
theorem digits_go (k : Nat) : ∀ (d m : Nat) (x5 : ByteArray), m < 10 ^ (d + 1) → m ≤ 65535 → x5.size + d ≤ 100 →
    crossbuckref02_Digits.l0 (k + d + 1) m x5 = some (B (D m ++ x5.data.toList)) := by
  intro d
  induction d with
  | zero =>
    intro m x5 hm hm2 hs
    have hm' : m < 10 := by simpa using hm
    have c1 : 1 + x5.size ≤ 9223372036854775807 := by omega
    have e2 : (m : Int) / 10 = 0 := by omega
    have ez : (strOfNums [((48 + m : Nat) : Int)]).size = 1 := by simp [strOfNums, ByteArray.size]
    have ey : wrap64 (48 + Int.tmod m 10) % 256 = (48 + m : Nat) := by
      rw [Int.tmod_eq_emod_of_nonneg (Int.natCast_nonneg _), wrap64_id _ (by omega) (by omega)]
      omega
    have em : wrap64 (Int.tdiv m 10) = 0 := by
      rw [Int.tdiv_eq_ediv_of_nonneg (Int.natCast_nonneg _), e2]; exact wrap64_id 0 (by decide) (by decide)
    rw [crossbuckref02_Digits.l0, ey, Option.bind_some, if_pos (by rw [ez]; exact c1), em, if_pos rfl]
    congr 1
    unfold D
    rw [dec_small hm']
    apply ByteArray.ext
    apply Array.toList_inj.mp
    unfold strOfNums B
    rw [ByteArray.data_append, Array.toList_append]
    rfl
  | succ d ih =>
    intro m x5 hm hm2 hs
    by_cases hm' : m < 10
    · exact crossbuckref02_Digits.mono_l _ _ _ _ (ih m x5 (Nat.lt_of_lt_of_le hm' (by rw [Nat.pow_succ]; have := Nat.pow_pos (n := d) (show 0 < 10 by decide); omega)) hm2 (by omega))
    · have hlt : m / 10 < 10 ^ (d + 1) := by
        rw [Nat.pow_succ] at hm
        omega
      have c1 : 1 + x5.size ≤ 9223372036854775807 := by omega
      have c2 : ¬ (((m / 10 : Nat) : Int) = 0) := by omega
      have c3 : m / 10 ≤ 65535 := by omega
      have e2 : (m : Int) / 10 = ((m / 10 : Nat) : Int) := by omega
      have ez : (strOfNums [((48 + m % 10 : Nat) : Int)]).size = 1 := by simp [strOfNums, ByteArray.size]
      have c4 : (strOfNums [((48 + m % 10 : Nat) : Int)] ++ x5).size + d ≤ 100 := by rw [ByteArray.size_append, ez]; omega
      have ey : wrap64 (48 + Int.tmod m 10) % 256 = (48 + m % 10 : Nat) := by
        rw [Int.tmod_eq_emod_of_nonneg (Int.natCast_nonneg _), wrap64_id _ (by omega) (by omega)]
        omega
      have em : wrap64 (Int.tdiv m 10) = ((m / 10 : Nat) : Int) := by
        rw [Int.tdiv_eq_ediv_of_nonneg (Int.natCast_nonneg _), e2, wrap64_id _ (by clear ey; omega) (by clear ey; omega)]
      rw [show k + (d + 1) + 1 = (k + d + 1) + 1 from rfl, crossbuckref02_Digits.l0, ey, Option.bind_some, if_pos (by rw [ez]; exact c1), em, if_neg c2, ih (m / 10) _ hlt c3 c4]
      congr 1
      unfold D
      rw [dec_big hm', ByteArray.data_append, Array.toList_append, List.append_assoc]
      rfl
theorem digits_eq (k n : Nat) (h : n ≤ 65535) : crossbuckref02_Digits.f (k + 5) (n : Int) = some (B (D n)) := by
  unfold crossbuckref02_Digits.f
  have := digits_go k 4 n ⟨#[]⟩ (by have : (10 : Nat) ^ (4 + 1) = 100000 := rfl; omega) h (by show 0 + 4 ≤ 100; omega)
  rw [show (⟨#[]⟩ : ByteArray).data.toList = [] from rfl, List.append_nil] at this
  exact this
theorem sp_none (c : UInt8) : ∀ l : List UInt8, c ∉ l → sp c l = [l]
  | [], _ => rfl
  | b :: l, h => by
    have h1 : ¬ b = c := by intro e; subst e; exact h (List.mem_cons_self ..)
    rw [sp, if_neg h1, sp_none c l (fun m => h (List.mem_cons_of_mem _ m))]
theorem sp_mid (c : UInt8) : ∀ l r : List UInt8, c ∉ l → sp c (l ++ c :: r) = l :: sp c r
  | [], r, _ => by rw [List.nil_append, sp, if_pos rfl]
  | b :: l, r, h => by
    have h1 : ¬ b = c := by intro e; subst e; exact h (List.mem_cons_self ..)
    rw [List.cons_append, sp, if_neg h1, sp_mid c l r (fun m => h (List.mem_cons_of_mem _ m))]
theorem num_read (n : Nat) (h : n ≤ 65535) (most : Int) (hm : (n : Int) ≤ most) : hdr_Number.f (B (D n)) most = some ((n : Int), 0) := by
  rw [number_dec n h (B (D n)) rfl most, if_neg (by omega)]
/-! ### Addresses -/
def addrB (n1 n2 n3 n4 : Nat) : List UInt8 := D n1 ++ 46 :: (D n2 ++ 46 :: (D n3 ++ 46 :: D n4))
theorem addr_len {n1 n2 n3 n4 : Nat} (h1 : n1 ≤ 255) (h2 : n2 ≤ 255) (h3 : n3 ≤ 255) (h4 : n4 ≤ 255) : (addrB n1 n2 n3 n4).length ≤ 23 := by
  have := D_len (n := n1) (by omega)
  have := D_len (n := n2) (by omega)
  have := D_len (n := n3) (by omega)
  have := D_len (n := n4) (by omega)
  simp [addrB]
  omega
theorem addr_read (k : Nat) {n1 n2 n3 n4 : Nat} (h1 : n1 ≤ 255) (h2 : n2 ≤ 255) (h3 : n3 ≤ 255) (h4 : n4 ≤ 255) :
    hdr_ParseAddr.f (k + 5) (B (addrB n1 n2 n3 n4)) = some ((((((n1 * 256 + n2) * 256 + n3) * 256 + n4 : Nat) : Int)), 0) := by
  have hl := addr_len h1 h2 h3 h4
  obtain ⟨l, g1, _, _⟩ := split_both (B (addrB n1 n2 n3 n4)) (by rw [B_size]; omega) 46 0
  have hm : l.map (·.data.toList) = [D n1, D n2, D n3, D n4] := by
    have g1' := g1
    unfold strings_Split.f at g1'
    rw [if_pos ⟨by rw [B_size]; omega, by simp [ByteArray.size]⟩] at g1'
    have e := Option.some.inj g1'
    rw [← e, Lib.splitB_data, show (⟨#[46]⟩ : ByteArray).data.toList = [46] from rfl, B_data]
    unfold Lib.countB
    rw [show (⟨#[46]⟩ : ByteArray).data.toList = [46] from rfl, B_data, Lib.count_one, splitK_sp]
    unfold addrB
    rw [sp_mid 46 _ _ (D_not n1 (by decide)), sp_mid 46 _ _ (D_not n2 (by decide)), sp_mid 46 _ _ (D_not n3 (by decide)), sp_none 46 _ (D_not n4 (by decide))]
  have hl4 : l = [B (D n1), B (D n2), B (D n3), B (D n4)] := map_inj _ _ (by rw [hm]; rfl)
  subst hl4
  unfold hdr_ParseAddr.f
  rw [g1, Option.bind_some]
  have num : ∀ n : Nat, n ≤ 255 → hdr_Number.f (B (D n)) 255 = some ((n : Int), 0) := fun n h => num_read n (by omega) 255 (by omega)
  have r0 : rdOf ByteArray.empty [B (D n1), B (D n2), B (D n3), B (D n4)] (0 : Int) = B (D n1) := rfl
  have r1 : rdOf ByteArray.empty [B (D n1), B (D n2), B (D n3), B (D n4)] (1 : Int) = B (D n2) := rfl
  have r2 : rdOf ByteArray.empty [B (D n1), B (D n2), B (D n3), B (D n4)] (2 : Int) = B (D n3) := rfl
  have r3 : rdOf ByteArray.empty [B (D n1), B (D n2), B (D n3), B (D n4)] (3 : Int) = B (D n4) := rfl
  have l4 : (([B (D n1), B (D n2), B (D n3), B (D n4)] : List ByteArray).length : Int) = 4 := rfl
  have w1 : wrap64 ((0 : Int) + 1) = 1 := wrap64_id _ (by decide) (by decide)
  have w2 : wrap64 ((1 : Int) + 1) = 2 := wrap64_id _ (by decide) (by decide)
  have w3 : wrap64 ((2 : Int) + 1) = 3 := wrap64_id _ (by decide) (by decide)
  have w4 : wrap64 ((3 : Int) + 1) = 4 := wrap64_id _ (by decide) (by decide)
  have o1 := (or_add (v := 0) (n := n1) (by decide) (by decide) (by omega) (by omega)).1
  have o2 := (or_add (v := (n1 : Int)) (n := n2) (by omega) (by omega) (by omega) (by omega)).1
  have o3 := (or_add (v := ((n1 * 256 + n2 : Nat) : Int)) (n := n3) (by omega) (by omega) (by omega) (by omega)).1
  have o4 := (or_add (v := (((n1 * 256 + n2) * 256 + n3 : Nat) : Int)) (n := n4) (by omega) (by omega) (by omega) (by omega)).1
  rw [l4, if_pos rfl, hdr_ParseAddr.l0, if_pos (by decide), if_pos (by decide), l4, if_pos (by decide), r0, num n1 h1, Option.bind_some, if_pos rfl, w1, o1,
    show ((0 : Int) * 256 % 4294967296 + (n1 : Int) % 4294967296) % 4294967296 = (n1 : Int) by omega,
    hdr_ParseAddr.l0, if_pos (by decide), if_pos (by decide), l4, if_pos (by decide), r1, num n2 h2, Option.bind_some, if_pos rfl, w2, o2,
    show ((n1 : Int) * 256 % 4294967296 + (n2 : Int) % 4294967296) % 4294967296 = ((n1 * 256 + n2 : Nat) : Int) by omega,
    hdr_ParseAddr.l0, if_pos (by decide), if_pos (by decide), l4, if_pos (by decide), r2, num n3 h3, Option.bind_some, if_pos rfl, w3, o3,
    show (((n1 * 256 + n2 : Nat) : Int) * 256 % 4294967296 + (n3 : Int) % 4294967296) % 4294967296 = (((n1 * 256 + n2) * 256 + n3 : Nat) : Int) by omega,
    hdr_ParseAddr.l0, if_pos (by decide), if_pos (by decide), l4, if_pos (by decide), r3, num n4 h4, Option.bind_some, if_pos rfl, w4, o4,
    show ((((n1 * 256 + n2) * 256 + n3 : Nat) : Int) * 256 % 4294967296 + (n4 : Int) % 4294967296) % 4294967296 = ((((n1 * 256 + n2) * 256 + n3) * 256 + n4 : Nat) : Int) by omega,
    hdr_ParseAddr.l0, if_neg (by decide)]
theorem and_255 (x : Nat) (h : x < 4294967296) (s : Nat) (hs : s < 32) : wrap64 (Go.bits .and .u32 (shr .u32 (x : Int) (s : Int)) 255) = ((x / 2 ^ s % 256 : Nat) : Int) := by
  unfold shr
  have e : (32 : Nat) = IntKind.bits .u32 := rfl
  rw [← e, Int.toNat_natCast, Nat.min_eq_left (by omega)]
  have e2 : ((x : Int) / 2 ^ s) = ((x / 2 ^ s : Nat) : Int) := by simp
  have hle : x / 2 ^ s ≤ x := Nat.div_le_self _ _
  rw [e2]
  generalize x / 2 ^ s = y at hle
  have := bits_mask .u32 32 (by decide) wraps_u32 8 (by decide) (y : Int) (by omega) (by have e3 : (2 : Int) ^ 32 = 4294967296 := rfl; omega)
  rw [show (255 : Int) = 2 ^ 8 - 1 from rfl, this, wrap64_id _ (by omega) (by omega)]
  simp
theorem join_four (a b c d : List UInt8) (h : (a ++ 46 :: (b ++ 46 :: (c ++ 46 :: d))).length ≤ 1000) : strings_Join.f ([] ++ [B a] ++ [B b] ++ [B c] ++ [B d]) ⟨#[46]⟩ = some (B (a ++ 46 :: (b ++ 46 :: (c ++ 46 :: d)))) := by
  unfold strings_Join.f
  have e : Lib.join (List.map (fun z : ByteArray => z.data.toList) ([] ++ [B a] ++ [B b] ++ [B c] ++ [B d])) (⟨#[46]⟩ : ByteArray).data.toList = a ++ 46 :: (b ++ 46 :: (c ++ 46 :: d)) := by
    show [46].intercalate [a, b, c, d] = _
    simp [List.intercalate, List.intersperse]
  rw [e, if_pos ⟨by omega, by simp⟩]
  rfl
theorem addr_print (k x : Nat) (h : x < 4294967296) : hdr_Addr.f (k + 5) (x : Int) = some (B (addrB (x / 16777216 % 256) (x / 65536 % 256) (x / 256 % 256) (x % 256))) := by
  unfold hdr_Addr.f
  have a1 : wrap64 (Go.bits .and .u32 (shr .u32 (x : Int) 24) 255) = ((x / 16777216 % 256 : Nat) : Int) := and_255 x h 24 (by decide)
  have a2 : wrap64 (Go.bits .and .u32 (shr .u32 (x : Int) 16) 255) = ((x / 65536 % 256 : Nat) : Int) := and_255 x h 16 (by decide)
  have a3 : wrap64 (Go.bits .and .u32 (shr .u32 (x : Int) 8) 255) = ((x / 256 % 256 : Nat) : Int) := and_255 x h 8 (by decide)
  have a4 : wrap64 (Go.bits .and .u32 (shr .u32 (x : Int) 0) 255) = ((x % 256 : Nat) : Int) := by
    have := and_255 x h 0 (by decide)
    rw [Nat.pow_zero, Nat.div_one] at this
    exact this
  have hl := addr_len (n1 := x / 16777216 % 256) (n2 := x / 65536 % 256) (n3 := x / 256 % 256) (n4 := x % 256) (by clear a1 a2 a3 a4; omega) (by clear a1 a2 a3 a4; omega) (by clear a1 a2 a3 a4; omega) (by clear a1 a2 a3 a4; omega)
  have lt : ∀ y : Nat, y % 256 ≤ 65535 := fun y => by clear a1 a2 a3 a4; omega
  have w1 : wrap64 ((24 : Int) - 8) = 16 := wrap64_id _ (by decide) (by decide)
  have w2 : wrap64 ((16 : Int) - 8) = 8 := wrap64_id _ (by decide) (by decide)
  have w3 : wrap64 ((8 : Int) - 8) = 0 := wrap64_id _ (by decide) (by decide)
  have w4 : wrap64 ((0 : Int) - 8) = -8 := wrap64_id _ (by decide) (by decide)
  rw [hdr_Addr.l0, if_pos (by decide), if_pos (by decide), a1, itoa_eq _ (lt _), Option.bind_some, if_pos (by decide), w1,
    hdr_Addr.l0, if_pos (by decide), if_pos (by decide), a2, itoa_eq _ (lt _), Option.bind_some, if_pos (by simp), w2,
    hdr_Addr.l0, if_pos (by decide), if_pos (by decide), a3, itoa_eq _ (lt _), Option.bind_some, if_pos (by simp), w3,
    hdr_Addr.l0, if_pos (by decide), if_pos (by decide), a4, itoa_eq _ (lt _), Option.bind_some, if_pos (by simp), w4,
    hdr_Addr.l0, if_neg (by decide), join_four _ _ _ _ (by unfold addrB at hl; exact Nat.le_trans hl (by decide))]
  rfl
theorem addr_ref (k x : Nat) (h : x < 4294967296) : crossbuckref02_Addr.f (k + 5) (x : Int) = some (B (addrB (x / 16777216 % 256) (x / 65536 % 256) (x / 256 % 256) (x % 256))) := by
  unfold crossbuckref02_Addr.f
  have nn : (0 : Int) ≤ (x : Int) := Int.natCast_nonneg _
  have b1 : (Int.tdiv (x : Int) 16777216) % 4294967296 = ((x / 16777216 % 256 : Nat) : Int) := by rw [Int.tdiv_eq_ediv_of_nonneg nn]; omega
  have b2 : (Int.tdiv (x : Int) 65536) % 256 = ((x / 65536 % 256 : Nat) : Int) := by rw [Int.tdiv_eq_ediv_of_nonneg nn]; omega
  have b3 : (Int.tdiv (x : Int) 256) % 256 = ((x / 256 % 256 : Nat) : Int) := by rw [Int.tdiv_eq_ediv_of_nonneg nn]; omega
  have e4 : (x : Int) % 256 = ((x % 256 : Nat) : Int) := by omega
  have q1 : x / 16777216 % 256 ≤ 65535 := by omega
  have q2 : x / 65536 % 256 ≤ 65535 := by omega
  have q3 : x / 256 % 256 ≤ 65535 := by omega
  have q4 : x % 256 ≤ 65535 := by omega
  have l1 := D_len q1
  have l2 := D_len q2
  have l3 := D_len q3
  have l4 := D_len q4
  have b4 : wrap64 (Int.tmod (x : Int) 256) = ((x % 256 : Nat) : Int) := by rw [Int.tmod_eq_emod_of_nonneg nn, e4, wrap64_id _ (by omega) (by omega)]
  rw [b1, b2, b3, b4]
  clear b1 b2 b3 b4 e4
  unfold addrB
  generalize x / 16777216 % 256 = n1 at *
  generalize x / 65536 % 256 = n2 at *
  generalize x / 256 % 256 = n3 at *
  generalize x % 256 = n4 at *
  have z46 : ([46] : List UInt8).length = 1 := rfl
  rw [digits_eq k n1 q1, Option.bind_some, if_pos (by rw [B_size]; omega), digits_eq k n2 q2, Option.bind_some, B_46, B_add, if_pos (by simp only [B_size, List.length_append]; omega), B_add, if_pos (by simp only [B_size, List.length_append]; omega),
    digits_eq k n3 q3, Option.bind_some, B_add, if_pos (by simp only [B_size, List.length_append]; omega), B_add, if_pos (by simp only [B_size, List.length_append]; omega), digits_eq k n4 q4, Option.bind_some, B_add, if_pos (by simp only [B_size, List.length_append]; omega), B_add]
  simp

end Go.Proofs.YtloclimoffhbhaaDoor.Pure
