/- Headers as five numbers: one bit, a flip, the order. No condition of its own. -/
import Derived.Test.YtloclimoffhbhaaDoorBits
import Derived.Test.YtloclimoffhbhaaDoorPAllx110
import Derived.Test.YtloclimoffhbhaaDoorPAllx113
import Derived.Test.YtloclimoffhbhaaDoorPAllx90
namespace Go.Proofs.YtloclimoffhbhaaDoor.Hdr
open Go Go.RowKit Go.Proofs.YtloclimoffhbhaaDoor.PAll Go.Proofs.YtloclimoffhbhaaDoorW.PrintWords Go.Proofs.YtloclimoffhbhaaDoorW.PrintLast Go.Proofs.YtloclimoffhbhaaDoorW.PrintMore Go.Proofs.YtloclimoffhbhaaDoor.Bits
set_option linter.unusedVariables false

/-! ### One field -/
def fb (x n : Int) : Bool := x.toNat.testBit n.toNat
def flip (x n : Int) : Int := ((x.toNat ^^^ 2 ^ n.toNat : Nat) : Int)
/-- The kinds of the fields. -/
def Un (k : IntKind) : Prop := ∀ n : Int, k.wrap n = n % 2 ^ k.bits
theorem un8 : Un .u8 := fun n => by rw [wrap_u8]; rfl
theorem un16 : Un .u16 := fun n => by rw [wrap_u16]; rfl
theorem un32 : Un .u32 := fun n => by rw [IntKind.wrap_u32]; rfl
theorem Un.fit {k : IntKind} (u : Un k) (n : Int) (h0 : 0 ≤ n) (h1 : n < 2 ^ k.bits) : k.wrap n = n := by rw [u, Int.emod_eq_of_lt h0 h1]

theorem bit_of {k : IntKind} (u : Un k) (hb : 1 ≤ k.bits) (x y : Int) (h0 : 0 ≤ x) (h1 : x < 2 ^ k.bits) (y0 : 0 ≤ y) (y1 : y < k.bits) : (bits .and k (shr k x y) 1 == 1) = fb x y := by
  unfold shr fb
  rw [Nat.min_eq_left (by omega)]
  obtain ⟨a, rfl⟩ := Int.eq_ofNat_of_zero_le h0
  obtain ⟨n, rfl⟩ := Int.eq_ofNat_of_zero_le y0
  simp only [Int.toNat_natCast]
  have ha : a < 2 ^ k.bits := by exact_mod_cast h1
  have e : ((a : Int) / 2 ^ n) = ((a / 2 ^ n : Nat) : Int) := by simp
  have hn : a / 2 ^ n < 2 ^ k.bits := Nat.lt_of_le_of_lt (Nat.div_le_self _ _) ha
  have h2 : (1 : Nat) < 2 ^ k.bits := Nat.one_lt_two_pow (by omega)
  rw [e, show (1 : Int) = ((1 : Nat) : Int) from rfl, (bits_nat k k.bits (Nat.le_refl _) u.fit _ 1 hn h2).1, Nat.and_one_is_mod, Nat.testBit_eq_decide_div_mod_eq]
  rw [Bool.eq_iff_iff, beq_iff_eq, decide_eq_true_eq]
  exact_mod_cast Iff.rfl

theorem flip_of {k : IntKind} (u : Un k) (x y : Int) (h0 : 0 ≤ x) (h1 : x < 2 ^ k.bits) (y0 : 0 ≤ y) (y1 : y < k.bits) : bits .xor k x (shl k 1 y) = flip x y := by
  unfold shl flip
  rw [Nat.min_eq_left (by omega)]
  obtain ⟨a, rfl⟩ := Int.eq_ofNat_of_zero_le h0
  obtain ⟨n, rfl⟩ := Int.eq_ofNat_of_zero_le y0
  simp only [Int.toNat_natCast, Int.one_mul]
  have ha : a < 2 ^ k.bits := by exact_mod_cast h1
  have hn : n < k.bits := by exact_mod_cast y1
  have hp : 2 ^ n < 2 ^ k.bits := Nat.pow_lt_pow_right (by decide) hn
  rw [u.fit _ (by exact_mod_cast Nat.zero_le _) (by exact_mod_cast hp)]
  show k.wrap ((BitVec.ofInt k.bits (a : Int) ^^^ BitVec.ofInt k.bits ((2 : Int) ^ n)).toNat : Int) = _
  rw [show ((2 : Int) ^ n) = ((2 ^ n : Nat) : Int) by simp, BitVec.ofInt_natCast, BitVec.ofInt_natCast, BitVec.toNat_xor, BitVec.toNat_ofNat, BitVec.toNat_ofNat, Nat.mod_eq_of_lt ha, Nat.mod_eq_of_lt hp]
  exact u.fit _ (Int.natCast_nonneg _) (by exact_mod_cast Nat.xor_lt_two_pow ha hp)

theorem flip_lo (x n : Int) : 0 ≤ flip x n := Int.natCast_nonneg _
theorem flip_hi {x n : Int} {B : Nat} (h0 : 0 ≤ x) (h1 : x < 2 ^ B) (y1 : n < B) (hB : 0 < B) : flip x n < 2 ^ B := by
  unfold flip
  obtain ⟨a, rfl⟩ := Int.eq_ofNat_of_zero_le h0
  rw [Int.toNat_natCast]
  have hx : a < 2 ^ B := by exact_mod_cast h1
  have hn : n.toNat < B := by omega
  exact_mod_cast Nat.xor_lt_two_pow hx (Nat.pow_lt_pow_right (by decide) hn)
theorem nat_flip (x n : Nat) : x ^^^ 2 ^ n = if x.testBit n then x - 2 ^ n else x + 2 ^ n := by
  have hp := Nat.two_pow_pos n
  have h1 : (x ^^^ 2 ^ n) / 2 ^ n = x / 2 ^ n ^^^ 1 := by rw [Nat.xor_div_two_pow, Nat.div_self hp]
  have h2 : (x ^^^ 2 ^ n) % 2 ^ n = x % 2 ^ n := by rw [Nat.xor_mod_two_pow, Nat.mod_self, Nat.xor_zero]
  have h3 := Nat.div_add_mod (x ^^^ 2 ^ n) (2 ^ n)
  have h4 := Nat.div_add_mod x (2 ^ n)
  rw [h1, h2] at h3
  have h5 : (x / 2 ^ n ^^^ 1) / 2 = x / 2 ^ n / 2 := by have := Nat.xor_div_two_pow (a := x / 2 ^ n) (b := 1) (n := 1); simpa using this
  have h6 : (x / 2 ^ n ^^^ 1) % 2 = (x / 2 ^ n % 2) ^^^ 1 := by have := Nat.xor_mod_two_pow (a := x / 2 ^ n) (b := 1) (n := 1); simpa using this
  rw [Nat.testBit_eq_decide_div_mod_eq]
  generalize x / 2 ^ n = q at h1 h3 h4 h5 h6 ⊢
  by_cases c : q % 2 = 1
  · rw [c, show (1 ^^^ 1 : Nat) = 0 from rfl] at h6
    have e : (q ^^^ 1) = q - 1 := by omega
    rw [e] at h3
    obtain ⟨r, rfl⟩ : ∃ r, q = r + 1 := ⟨q - 1, by omega⟩
    rw [Nat.add_sub_cancel] at h3
    rw [Nat.mul_add, Nat.mul_one] at h4
    simp only [c, decide_true, if_true]
    omega
  · have c0 : q % 2 = 0 := by omega
    rw [c0, show (0 ^^^ 1 : Nat) = 1 from rfl] at h6
    have e : (q ^^^ 1) = q + 1 := by omega
    rw [e, Nat.mul_add, Nat.mul_one] at h3
    rw [decide_eq_false c, if_neg (by decide)]
    omega
theorem fb_flip (x n m : Int) (h0 : 0 ≤ n) (h1 : 0 ≤ m) : fb (flip x n) m = if m = n then !fb x m else fb x m := by
  unfold fb flip
  rw [Int.toNat_natCast, Nat.testBit_xor, Nat.testBit_two_pow]
  by_cases e : m = n
  · subst e; simp
  · have : ¬ n.toNat = m.toNat := by omega
    simp [e, this]
theorem flip_flip (x n : Int) (h0 : 0 ≤ x) : flip (flip x n) n = x := by
  unfold flip
  rw [Int.toNat_natCast, Nat.xor_assoc, Nat.xor_self, Nat.xor_zero]
  omega
theorem flip_up {x n : Int} (h0 : 0 ≤ x) (h : fb x n = false) : x < flip x n := by
  unfold flip
  unfold fb at h
  have hp := Nat.two_pow_pos n.toNat
  rw [nat_flip, h, if_neg (by decide)]
  omega
theorem flip_down {x n : Int} (h0 : 0 ≤ x) (h : fb x n = true) : flip x n < x := by
  unfold flip
  unfold fb at h
  have hp := Nat.two_pow_pos n.toNat
  have := Nat.ge_two_pow_of_testBit h
  rw [nat_flip, h, if_pos rfl]
  omega

/-! ### The whole header -/
structure V (x0 x1 x2 x3 x4 : Int) : Prop where
  a0 : 0 ≤ x0
  b0 : x0 < 2 ^ 32
  a1 : 0 ≤ x1
  b1 : x1 < 2 ^ 32
  a2 : 0 ≤ x2
  b2 : x2 < 2 ^ 8
  a3 : 0 ≤ x3
  b3 : x3 < 2 ^ 16
  a4 : 0 ≤ x4
  b4 : x4 < 2 ^ 16

def bitAt (x0 x1 x2 x3 x4 i : Int) : Bool :=
  if i < 0 then false else if i ≥ 104 then false else if i < 32 then fb x0 (31 - i) else if i < 64 then fb x1 (63 - i) else if i < 72 then fb x2 (71 - i) else if i < 88 then fb x3 (87 - i) else fb x4 (103 - i)
def flipAt (x0 x1 x2 x3 x4 i : Int) : Int × Int × Int × Int × Int :=
  if i < 32 then (flip x0 (31 - i), x1, x2, x3, x4) else if i < 64 then (x0, flip x1 (63 - i), x2, x3, x4) else if i < 72 then (x0, x1, flip x2 (71 - i), x3, x4) else if i < 88 then (x0, x1, x2, flip x3 (87 - i), x4) else (x0, x1, x2, x3, flip x4 (103 - i))
def withAt (x0 x1 x2 x3 x4 i : Int) (b : Bool) : Int × Int × Int × Int × Int :=
  if i < 0 then (x0, x1, x2, x3, x4) else if i ≥ 104 then (x0, x1, x2, x3, x4) else if bitAt x0 x1 x2 x3 x4 i = b then (x0, x1, x2, x3, x4) else flipAt x0 x1 x2 x3 x4 i

theorem w64 {n : Int} (h0 : 0 ≤ n) (h1 : n ≤ 104) : wrap64 n = n := wrap64_id n (by omega) (by omega)
theorem w31 {x : Int} (h0 : 0 ≤ x) (h1 : x < 32) : wrap64 (31 - x) = 31 - x := w64 (by omega) (by omega)
theorem w63 {x : Int} (h0 : ¬ x < 32) (h1 : x < 64) : wrap64 (31 - wrap64 (x - 32)) = 63 - x := by rw [w64 (n := x - 32) (by omega) (by omega), w64 (by omega) (by omega)]; omega
theorem w71 {x : Int} (h0 : ¬ x < 64) (h1 : x < 72) : wrap64 (7 - wrap64 (x - 64)) = 71 - x := by rw [w64 (n := x - 64) (by omega) (by omega), w64 (by omega) (by omega)]; omega
theorem w87 {x : Int} (h0 : ¬ x < 72) (h1 : x < 88) : wrap64 (15 - wrap64 (x - 72)) = 87 - x := by rw [w64 (n := x - 72) (by omega) (by omega), w64 (by omega) (by omega)]; omega
theorem w103 {x : Int} (h0 : ¬ x < 88) (h1 : x < 104) : wrap64 (15 - wrap64 (x - 88)) = 103 - x := by rw [w64 (n := x - 88) (by omega) (by omega), w64 (by omega) (by omega)]; omega

theorem bit_eq (k : Nat) {x0 x1 x2 x3 x4 : Int} (v : V x0 x1 x2 x3 x4) (i : Int) : hdr_Bit.f (k + 1) x0 x1 x2 x3 x4 i = some (bitAt x0 x1 x2 x3 x4 i) := by
  unfold hdr_Bit.f bitAt
  by_cases c : i < 0
  · rw [if_pos c, if_pos c]; simp [hdr_Bit.j0]
  rw [if_neg c, if_neg c]
  by_cases d : i ≥ 104
  · rw [if_pos d, hdr_Bit.j0, if_pos (by simpa using d)]
  rw [if_neg d, hdr_Bit.j0, if_neg (by simpa using d)]
  by_cases e : i < 32
  · rw [if_pos e, if_pos e, w31 (by omega) e, if_pos (by omega), bit_of un32 (by decide) _ _ v.a0 v.b0 (by omega) (by show _ < (32 : Int); omega)]
  rw [if_neg e, if_neg e]
  by_cases e1 : i < 64
  · rw [if_pos e1, if_pos e1, w63 e e1, if_pos (by omega), bit_of un32 (by decide) _ _ v.a1 v.b1 (by omega) (by show _ < (32 : Int); omega)]
  rw [if_neg e1, if_neg e1]
  by_cases e2 : i < 72
  · rw [if_pos e2, if_pos e2, w71 e1 e2, if_pos (by omega), bit_of un8 (by decide) _ _ v.a2 v.b2 (by omega) (by show _ < (8 : Int); omega)]
  rw [if_neg e2, if_neg e2]
  by_cases e3 : i < 88
  · rw [if_pos e3, if_pos e3, w87 e2 e3, if_pos (by omega), bit_of un16 (by decide) _ _ v.a3 v.b3 (by omega) (by show _ < (16 : Int); omega)]
  rw [if_neg e3, if_neg e3, w103 e3 (by omega), if_pos (by omega), bit_of un16 (by decide) _ _ v.a4 v.b4 (by omega) (by show _ < (16 : Int); omega)]

theorem with_eq (k : Nat) {x0 x1 x2 x3 x4 : Int} (v : V x0 x1 x2 x3 x4) (i : Int) (b : Bool) : hdr_With.f (k + 1) x0 x1 x2 x3 x4 i b = some (withAt x0 x1 x2 x3 x4 i b) := by
  unfold hdr_With.f withAt
  by_cases c : i < 0
  · rw [if_pos c, if_pos c]; simp [hdr_With.j0]
  rw [if_neg c, if_neg c]
  by_cases d : i ≥ 104
  · rw [if_pos d, if_pos d, hdr_With.j0, if_pos rfl]
  rw [if_neg d, if_neg d, bit_eq k v i, Option.bind_some, hdr_With.j0]
  by_cases h : bitAt x0 x1 x2 x3 x4 i = b
  · rw [if_pos (by simpa using h), if_pos h]
  rw [if_neg (by simpa using h), if_neg h]
  unfold flipAt
  by_cases e : i < 32
  · rw [if_pos e, if_pos e, w31 (by omega) e, if_pos (by omega), flip_of un32 _ _ v.a0 v.b0 (by omega) (by show _ < (32 : Int); omega)]
  rw [if_neg e, if_neg e]
  by_cases e1 : i < 64
  · rw [if_pos e1, if_pos e1, w63 e e1, if_pos (by omega), flip_of un32 _ _ v.a1 v.b1 (by omega) (by show _ < (32 : Int); omega)]
  rw [if_neg e1, if_neg e1]
  by_cases e2 : i < 72
  · rw [if_pos e2, if_pos e2, w71 e1 e2, if_pos (by omega), flip_of un8 _ _ v.a2 v.b2 (by omega) (by show _ < (8 : Int); omega)]
  rw [if_neg e2, if_neg e2]
  by_cases e3 : i < 88
  · rw [if_pos e3, if_pos e3, w87 e2 e3, if_pos (by omega), flip_of un16 _ _ v.a3 v.b3 (by omega) (by show _ < (16 : Int); omega)]
  rw [if_neg e3, if_neg e3, w103 e3 (by omega), if_pos (by omega), flip_of un16 _ _ v.a4 v.b4 (by omega) (by show _ < (16 : Int); omega)]

/-- A flipped header is a header; every other bit stays. -/
theorem V.flip {x0 x1 x2 x3 x4 : Int} (v : V x0 x1 x2 x3 x4) (i : Int) (h0 : 0 ≤ i) (h1 : i < 104) :
    V (flipAt x0 x1 x2 x3 x4 i).1 (flipAt x0 x1 x2 x3 x4 i).2.1 (flipAt x0 x1 x2 x3 x4 i).2.2.1 (flipAt x0 x1 x2 x3 x4 i).2.2.2.1 (flipAt x0 x1 x2 x3 x4 i).2.2.2.2 := by
  obtain ⟨a0, b0, a1, b1, a2, b2, a3, b3, a4, b4⟩ := v
  unfold flipAt
  split
  · exact ⟨flip_lo _ _, flip_hi a0 b0 (by show _ < (32 : Int); omega) (by decide), a1, b1, a2, b2, a3, b3, a4, b4⟩
  split
  · exact ⟨a0, b0, flip_lo _ _, flip_hi a1 b1 (by show _ < (32 : Int); omega) (by decide), a2, b2, a3, b3, a4, b4⟩
  split
  · exact ⟨a0, b0, a1, b1, flip_lo _ _, flip_hi a2 b2 (by show _ < (8 : Int); omega) (by decide), a3, b3, a4, b4⟩
  split
  · exact ⟨a0, b0, a1, b1, a2, b2, flip_lo _ _, flip_hi a3 b3 (by show _ < (16 : Int); omega) (by decide), a4, b4⟩
  · exact ⟨a0, b0, a1, b1, a2, b2, a3, b3, flip_lo _ _, flip_hi a4 b4 (by show _ < (16 : Int); omega) (by decide)⟩

def bitT (h : Int × Int × Int × Int × Int) (i : Int) : Bool := bitAt h.1 h.2.1 h.2.2.1 h.2.2.2.1 h.2.2.2.2 i
theorem bit_flip {x0 x1 x2 x3 x4 : Int} (i j : Int) (h0 : 0 ≤ i) (h1 : i < 104) (g0 : 0 ≤ j) (g1 : j < 104) :
    bitT (flipAt x0 x1 x2 x3 x4 i) j = if j = i then !bitAt x0 x1 x2 x3 x4 j else bitAt x0 x1 x2 x3 x4 j := by
  unfold bitT bitAt flipAt
  rw [if_neg (by omega), if_neg (by omega), if_neg (by omega : ¬ j < 0), if_neg (by omega : ¬ j ≥ 104)]
  by_cases e : i = j
  · subst e
    rw [if_pos rfl]
    split
    · rw [fb_flip _ _ _ (by omega) (by omega), if_pos rfl]
    split
    · rw [fb_flip _ _ _ (by omega) (by omega), if_pos rfl]
    split
    · rw [fb_flip _ _ _ (by omega) (by omega), if_pos rfl]
    split
    · rw [fb_flip _ _ _ (by omega) (by omega), if_pos rfl]
    · rw [fb_flip _ _ _ (by omega) (by omega), if_pos rfl]
  · rw [if_neg (Ne.symm e)]
    by_cases c1 : i < 32
    · simp only [if_pos c1]
      split
      · rw [fb_flip _ _ _ (by omega) (by omega), if_neg (by omega)]
      · rfl
    simp only [if_neg c1]
    by_cases c2 : i < 64
    · simp only [if_pos c2]
      by_cases d1 : j < 32
      · rw [if_pos d1, if_pos d1]
      rw [if_neg d1, if_neg d1]
      split
      · rw [fb_flip _ _ _ (by omega) (by omega), if_neg (by omega)]
      · rfl
    simp only [if_neg c2]
    by_cases c3 : i < 72
    · simp only [if_pos c3]
      by_cases d1 : j < 32
      · rw [if_pos d1, if_pos d1]
      rw [if_neg d1, if_neg d1]
      by_cases d2 : j < 64
      · rw [if_pos d2, if_pos d2]
      rw [if_neg d2, if_neg d2]
      split
      · rw [fb_flip _ _ _ (by omega) (by omega), if_neg (by omega)]
      · rfl
    simp only [if_neg c3]
    by_cases c4 : i < 88
    · simp only [if_pos c4]
      by_cases d1 : j < 32
      · rw [if_pos d1, if_pos d1]
      rw [if_neg d1, if_neg d1]
      by_cases d2 : j < 64
      · rw [if_pos d2, if_pos d2]
      rw [if_neg d2, if_neg d2]
      by_cases d3 : j < 72
      · rw [if_pos d3, if_pos d3]
      rw [if_neg d3, if_neg d3]
      split
      · rw [fb_flip _ _ _ (by omega) (by omega), if_neg (by omega)]
      · rfl
    simp only [if_neg c4]
    by_cases d1 : j < 32
    · rw [if_pos d1, if_pos d1]
    rw [if_neg d1, if_neg d1]
    by_cases d2 : j < 64
    · rw [if_pos d2, if_pos d2]
    rw [if_neg d2, if_neg d2]
    by_cases d3 : j < 72
    · rw [if_pos d3, if_pos d3]
    rw [if_neg d3, if_neg d3]
    by_cases d4 : j < 88
    · rw [if_pos d4, if_pos d4]
    rw [if_neg d4, if_neg d4, fb_flip _ _ _ (by omega) (by omega), if_neg (by omega)]

theorem flip_back {x0 x1 x2 x3 x4 : Int} (v : V x0 x1 x2 x3 x4) (i : Int) :
    flipAt (flipAt x0 x1 x2 x3 x4 i).1 (flipAt x0 x1 x2 x3 x4 i).2.1 (flipAt x0 x1 x2 x3 x4 i).2.2.1 (flipAt x0 x1 x2 x3 x4 i).2.2.2.1 (flipAt x0 x1 x2 x3 x4 i).2.2.2.2 i = (x0, x1, x2, x3, x4) := by
  unfold flipAt
  by_cases c1 : i < 32
  · simp only [if_pos c1, flip_flip _ _ v.a0]
  simp only [if_neg c1]
  by_cases c2 : i < 64
  · simp only [if_pos c2, flip_flip _ _ v.a1]
  simp only [if_neg c2]
  by_cases c3 : i < 72
  · simp only [if_pos c3, flip_flip _ _ v.a2]
  simp only [if_neg c3]
  by_cases c4 : i < 88
  · simp only [if_pos c4, flip_flip _ _ v.a3]
  simp only [if_neg c4, flip_flip _ _ v.a4]

/-! ### The order -/
def sg (a b : Int) : Int := if a < b then -1 else if a > b then 1 else 0
def num (x0 x1 x2 x3 x4 : Int) : Int := (((x0 * 4294967296 + x1) * 256 + x2) * 65536 + x3) * 65536 + x4
theorem c32 (a b : Int) : cmp_Compare_uint32.f a b = some (sg a b) := by simp [cmp_Compare_uint32.f, cmp_isNaN_uint32.f, sg]; split <;> (try rfl) <;> split <;> rfl
theorem c16 (a b : Int) : cmp_Compare_uint16.f a b = some (sg a b) := by simp [cmp_Compare_uint16.f, cmp_isNaN_uint16.f, sg]; split <;> (try rfl) <;> split <;> rfl
theorem c8 (a b : Int) : cmp_Compare_uint8.f a b = some (sg a b) := by simp [cmp_Compare_uint8.f, cmp_isNaN_uint8.f, sg]; split <;> (try rfl) <;> split <;> rfl
def or5 (a b c d e : Int) : Int := if a = 0 then if b = 0 then if c = 0 then if d = 0 then e else d else c else b else a
theorem or_go (k : Nat) (l : List Int) (i : Nat) (h : i < l.length) (hl : l.length ≤ 5) : cmp_Or_int.l0 (k + 1) 0 l (l.length : Int) (i : Int) = if l[i] = 0 then cmp_Or_int.l0 k 0 l (l.length : Int) ((i + 1 : Nat) : Int) else some l[i] := by
  rw [cmp_Or_int.l0, if_pos (by omega), if_pos (by omega), if_pos (by omega)]
  have e : rd l (i : Int) = l[i] := by simp [rd, h]
  rw [e, w64 (by omega) (by omega)]
  rfl
theorem or_eq (k : Nat) (a b c d e : Int) : cmp_Or_int.f (k + 6) [a, b, c, d, e] = some (or5 a b c d e) := by
  unfold cmp_Or_int.f or5
  rw [show (0 : Int) = ((0 : Nat) : Int) from rfl, show k + 6 = (k + 5) + 1 from rfl]
  rw [show (((0 : Nat) : Int)) = (0 : Int) from rfl, show cmp_Or_int.l0 (k + 5 + 1) 0 [a, b, c, d, e] (([a, b, c, d, e] : List Int).length : Int) 0 = _ from or_go (k + 5) [a, b, c, d, e] 0 (by simp) (by simp)]
  simp only [List.getElem_cons_zero]
  split
  · rw [or_go (k + 4) [a, b, c, d, e] 1 (by simp) (by simp)]
    simp only [List.getElem_cons_zero, List.getElem_cons_succ]
    split
    · rw [or_go (k + 3) [a, b, c, d, e] 2 (by simp) (by simp)]
      simp only [List.getElem_cons_zero, List.getElem_cons_succ]
      split
      · rw [or_go (k + 2) [a, b, c, d, e] 3 (by simp) (by simp)]
        simp only [List.getElem_cons_zero, List.getElem_cons_succ]
        split
        · rw [or_go (k + 1) [a, b, c, d, e] 4 (by simp) (by simp)]
          simp only [List.getElem_cons_zero, List.getElem_cons_succ]
          split
          · rename_i h; rw [cmp_Or_int.l0, if_neg (by simp), h]
          · rfl
        · rfl
      · rfl
    · rfl
  · rfl
theorem or5_sg {x0 x1 x2 x3 x4 y0 y1 y2 y3 y4 : Int} (v : V x0 x1 x2 x3 x4) (u : V y0 y1 y2 y3 y4) : or5 (sg x0 y0) (sg x1 y1) (sg x2 y2) (sg x3 y3) (sg x4 y4) = sg (num x0 x1 x2 x3 x4) (num y0 y1 y2 y3 y4) := by
  obtain ⟨a0, b0, a1, b1, a2, b2, a3, b3, a4, b4⟩ := v
  obtain ⟨c0, d0, c1, d1, c2, d2, c3, d3, c4, d4⟩ := u
  unfold or5 sg num
  rcases Int.lt_trichotomy x0 y0 with h | h | h
  · rw [if_neg (by rw [if_pos h]; decide), if_pos h, if_pos (by omega)]
  · rw [if_pos (by rw [if_neg (by omega), if_neg (by omega)])]
    rcases Int.lt_trichotomy x1 y1 with h1 | h1 | h1
    · rw [if_neg (by rw [if_pos h1]; decide), if_pos h1, if_pos (by omega)]
    · rw [if_pos (by rw [if_neg (by omega), if_neg (by omega)])]
      rcases Int.lt_trichotomy x2 y2 with h2 | h2 | h2
      · rw [if_neg (by rw [if_pos h2]; decide), if_pos h2, if_pos (by omega)]
      · rw [if_pos (by rw [if_neg (by omega), if_neg (by omega)])]
        rcases Int.lt_trichotomy x3 y3 with h3 | h3 | h3
        · rw [if_neg (by rw [if_pos h3]; decide), if_pos h3, if_pos (by omega)]
        · rw [if_pos (by rw [if_neg (by omega), if_neg (by omega)])]
          rcases Int.lt_trichotomy x4 y4 with h4 | h4 | h4
          · rw [if_pos h4, if_pos (by omega)]
          · rw [if_neg (by omega), if_neg (by omega), if_neg (by omega), if_neg (by omega)]
          · rw [if_neg (by omega), if_pos (by omega), if_neg (by omega), if_pos (by omega)]
        · rw [if_neg (by rw [if_neg (by omega), if_pos (by omega)]; decide), if_neg (by omega), if_pos (by omega), if_neg (by omega), if_pos (by omega)]
      · rw [if_neg (by rw [if_neg (by omega), if_pos (by omega)]; decide), if_neg (by omega), if_pos (by omega), if_neg (by omega), if_pos (by omega)]
    · rw [if_neg (by rw [if_neg (by omega), if_pos (by omega)]; decide), if_neg (by omega), if_pos (by omega), if_neg (by omega), if_pos (by omega)]
  · rw [if_neg (by rw [if_neg (by omega), if_pos (by omega)]; decide), if_neg (by omega), if_pos (by omega), if_neg (by omega), if_pos (by omega)]
theorem compare_eq (k : Nat) {x0 x1 x2 x3 x4 y0 y1 y2 y3 y4 : Int} (v : V x0 x1 x2 x3 x4) (u : V y0 y1 y2 y3 y4) : hdr_Compare.f (k + 6) x0 x1 x2 x3 x4 y0 y1 y2 y3 y4 = some (sg (num x0 x1 x2 x3 x4) (num y0 y1 y2 y3 y4)) := by
  unfold hdr_Compare.f
  simp only [c32, c16, c8, Option.bind_some, or_eq, or5_sg v u]
theorem num_eq {x0 x1 x2 x3 x4 y0 y1 y2 y3 y4 : Int} (v : V x0 x1 x2 x3 x4) (u : V y0 y1 y2 y3 y4) : num x0 x1 x2 x3 x4 = num y0 y1 y2 y3 y4 ↔ (x0 = y0 ∧ x1 = y1 ∧ x2 = y2 ∧ x3 = y3 ∧ x4 = y4) := by
  obtain ⟨a0, b0, a1, b1, a2, b2, a3, b3, a4, b4⟩ := v
  obtain ⟨c0, d0, c1, d1, c2, d2, c3, d3, c4, d4⟩ := u
  unfold num
  constructor
  · intro h; omega
  · rintro ⟨rfl, rfl, rfl, rfl, rfl⟩; rfl

theorem awake6 : crossbucklaw02_awake.f 6 = some true := by
  have h1 : hdr_Addr.f 6 167772161 = some ⟨#[49, 48, 46, 48, 46, 48, 46, 49]⟩ := by decide +kernel
  unfold crossbucklaw02_awake.f
  rw [h1, Option.bind_some, if_pos (by rw [ByteArray.toList_eq])]
  decide +kernel
theorem awake (k : Nat) : crossbucklaw02_awake.f (k + 6) = some true := by
  induction k with
  | zero => exact awake6
  | succ k ih => exact crossbucklaw02_awake.mono _ _ ih
theorem wf_u32 {a : Int} (h : (Lit.int .u32 a).wf = true) : 0 ≤ a ∧ a < 2 ^ 32 := by
  simp [Lit.wf, IntKind.min, IntKind.max, IntKind.signed, IntKind.bits] at h
  have e : (2 : Int) ^ 32 = 4294967296 := rfl
  rw [e]
  exact ⟨by omega, by omega⟩
theorem wf_u16 {a : Int} (h : (Lit.int .u16 a).wf = true) : 0 ≤ a ∧ a < 2 ^ 16 := by
  simp [Lit.wf, IntKind.min, IntKind.max, IntKind.signed, IntKind.bits] at h
  have e : (2 : Int) ^ 16 = 65536 := rfl
  rw [e]
  exact ⟨by omega, by omega⟩
theorem wf_u8 {a : Int} (h : (Lit.int .u8 a).wf = true) : 0 ≤ a ∧ a < 2 ^ 8 := by
  simp [Lit.wf, IntKind.min, IntKind.max, IntKind.signed, IntKind.bits] at h
  have e : (2 : Int) ^ 8 = 256 := rfl
  rw [e]
  exact ⟨by omega, by omega⟩
theorem V.of {x0 x1 x2 x3 x4 : Int} (h0 : (Lit.int .u32 x0).wf = true) (h1 : (Lit.int .u32 x1).wf = true) (h2 : (Lit.int .u8 x2).wf = true) (h3 : (Lit.int .u16 x3).wf = true) (h4 : (Lit.int .u16 x4).wf = true) : V x0 x1 x2 x3 x4 :=
  ⟨(wf_u32 h0).1, (wf_u32 h0).2, (wf_u32 h1).1, (wf_u32 h1).2, (wf_u8 h2).1, (wf_u8 h2).2, (wf_u16 h3).1, (wf_u16 h3).2, (wf_u16 h4).1, (wf_u16 h4).2⟩

end Go.Proofs.YtloclimoffhbhaaDoor.Hdr
