/- crossbucklaw02.HdrBits answers true for every two headers and every place: as numbers. No condition of its own. -/
import Derived.Test.YtloclimoffhbhaaDoorHdrBits
import Derived.Test.YtloclimoffhbhaaDoorPureHdrTurns
import Derived.Test.YtloclimoffhbhaaDoorPAllx114
namespace Go.Proofs.YtloclimoffhbhaaDoor.Pure
open Go Go.RowKit Go.Proofs.YtloclimoffhbhaaDoor.PAll Go.Proofs.YtloclimoffhbhaaDoorW.PrintWords Go.Proofs.YtloclimoffhbhaaDoorW.PrintLast Go.Proofs.YtloclimoffhbhaaDoorW.PrintMore Go.Proofs.YtloclimoffhbhaaDoor.Bits Go.Proofs.YtloclimoffhbhaaDoor.Hdr
set_option linter.unusedVariables false

theorem with_V {x0 x1 x2 x3 x4 : Int} (v : V x0 x1 x2 x3 x4) (i : Int) (h0 : 0 ≤ i) (h1 : i < 104) (b : Bool) :
    V (withAt x0 x1 x2 x3 x4 i b).1 (withAt x0 x1 x2 x3 x4 i b).2.1 (withAt x0 x1 x2 x3 x4 i b).2.2.1 (withAt x0 x1 x2 x3 x4 i b).2.2.2.1 (withAt x0 x1 x2 x3 x4 i b).2.2.2.2 := by
  unfold withAt
  rw [if_neg (by omega), if_neg (by omega)]
  split
  · exact v
  · exact v.flip i h0 h1
theorem with_bit {x0 x1 x2 x3 x4 : Int} (i j : Int) (h0 : 0 ≤ i) (h1 : i < 104) (g0 : 0 ≤ j) (g1 : j < 104) (b : Bool) :
    bitT (withAt x0 x1 x2 x3 x4 i b) j = if j = i then b else bitAt x0 x1 x2 x3 x4 j := by
  unfold withAt
  rw [if_neg (by omega), if_neg (by omega)]
  by_cases c : bitAt x0 x1 x2 x3 x4 i = b
  · rw [if_pos c]
    by_cases e : j = i
    · subst e; rw [if_pos rfl]; exact c
    · rw [if_neg e]; rfl
  · rw [if_neg c, bit_flip i j h0 h1 g0 g1]
    by_cases e : j = i
    · subst e
      rw [if_pos rfl, if_pos rfl]
      revert c
      cases bitAt x0 x1 x2 x3 x4 j <;> cases b <;> simp
    · rw [if_neg e, if_neg e]
theorem back_set (k : Nat) {x0 x1 x2 x3 x4 : Int} (v : V x0 x1 x2 x3 x4) (i : Nat) (h1 : i < 104) (b : Bool) :
    crossbuckref02_Back.f (k + 33) ((bl x0 x1 x2 x3 x4).set i b) = some (withAt x0 x1 x2 x3 x4 i b) := by
  refine back_eq k (with_V v i (by omega) (by omega) b) _ fun j hj => ?_
  have := with_bit (x0 := x0) (x1 := x1) (x2 := x2) (x3 := x3) (x4 := x4) (i : Int) (j : Int) (by omega) (by omega) (by omega) (by omega) b
  unfold bitT at this
  rw [this]
  by_cases e : j = i
  · subst e
    rw [if_pos rfl, List.getElem?_set_self (by rw [bl_length]; exact hj)]
  · rw [if_neg (by omega), List.getElem?_set_ne (Ne.symm e), bl_get _ _ _ _ _ j hj]
theorem rd_bl {x0 x1 x2 x3 x4 : Int} (i : Nat) (h : i < 104) : rdOf false (bl x0 x1 x2 x3 x4) (i : Int) = bitAt x0 x1 x2 x3 x4 i := by
  unfold rdOf
  rw [Int.toNat_natCast]
  simp only [List.getD, bl_get _ _ _ _ _ i h]
  rfl

theorem bits_out (k : Nat) {a0 a1 a2 a3 a4 : Int} (v : V a0 a1 a2 a3 a4) (x7 : List Bool) (i : Int) (h : i < 0 ∨ i ≥ 104) :
    crossbucklaw02_HdrBits.j3 (k + 34) i x7 true a0 a1 a2 a3 a4 = some true := by
  have hb : bitAt a0 a1 a2 a3 a4 i = false := by
    unfold bitAt
    rcases h with h | h
    · rw [if_pos h]
    · rw [if_neg (by omega), if_pos h]
  have hw : ∀ b, withAt a0 a1 a2 a3 a4 i b = (a0, a1, a2, a3, a4) := by
    intro b
    unfold withAt
    rcases h with h | h
    · rw [if_pos h]
    · rw [if_neg (by omega), if_pos h]
  rw [crossbucklaw02_HdrBits.j3, if_pos rfl, awake, Option.bind_some, if_pos rfl, bit_eq _ v, Option.bind_some, hb, if_neg (by decide), with_eq _ v, Option.bind_some, hw, five_eq, if_pos (by simp), with_eq _ v, Option.bind_some, hw, five_eq]
  simp
theorem bits_in (k : Nat) {a0 a1 a2 a3 a4 : Int} (v : V a0 a1 a2 a3 a4) (i : Nat) (h : i < 104) :
    crossbucklaw02_HdrBits.j3 (k + 34) i (bl a0 a1 a2 a3 a4) false a0 a1 a2 a3 a4 = some true := by
  have hw : withAt a0 a1 a2 a3 a4 i (bitAt a0 a1 a2 a3 a4 i) = (a0, a1, a2, a3, a4) := by
    unfold withAt
    rw [if_neg (by omega), if_neg (by omega), if_pos rfl]
  rw [crossbucklaw02_HdrBits.j3, if_neg (by decide), if_pos (by omega), if_pos (by rw [bl_length]; omega), Option.bind_some, Int.toNat_natCast, back_set k v i h true, Option.bind_some, awake, Option.bind_some, if_pos rfl, with_eq _ v, Option.bind_some, five_eq, if_pos (by simp),
    with_eq _ v, Option.bind_some, List.set_set, back_set k v i h false, Option.bind_some, five_eq, if_pos (by simp), rd_bl i h, with_eq _ v, Option.bind_some, hw, five_eq]
  simp
theorem bits_tail (k : Nat) {a0 a1 a2 a3 a4 : Int} (v : V a0 a1 a2 a3 a4) (i : Int) :
    crossbucklaw02_HdrBits.j2 (k + 35) i (bl a0 a1 a2 a3 a4) false a0 a1 a2 a3 a4 = some true := by
  rw [crossbucklaw02_HdrBits.j2, if_neg (by decide)]
  by_cases c : i < 0
  · rw [if_pos c]; exact bits_out k v _ i (.inl c)
  · rw [if_neg c]
    by_cases d : i ≥ 104
    · rw [decide_eq_true d]; exact bits_out k v _ i (.inr d)
    · rw [decide_eq_false d]
      obtain ⟨n, rfl⟩ := Int.eq_ofNat_of_zero_le (by omega : 0 ≤ i)
      exact bits_in k v n (by omega)

theorem sg_lt {x y : Int} (h : x < y) : sg x y = -1 := by unfold sg; rw [if_pos h]
theorem sg_gt {x y : Int} (h : y < x) : sg x y = 1 := by unfold sg; rw [if_neg (by omega), if_pos h]
theorem sg_self (x : Int) : sg x x = 0 := by unfold sg; rw [if_neg (by omega), if_neg (by omega)]
theorem sg_step (p q : Nat) (a b : Bool) :
    sg ((p * 2 + (if a then 1 else 0) : Nat) : Int) ((q * 2 + (if b then 1 else 0) : Nat) : Int) = if sg p q = 0 then (if (a != b) = true then (if b = true then -1 else 1) else 0) else sg p q := by
  rcases Nat.lt_trichotomy p q with h | h | h
  · rw [sg_lt (x := (p : Int)) (by omega), if_neg (show ¬ ((-1 : Int) = 0) by decide), sg_lt]
    cases a <;> cases b <;> simp <;> omega
  · subst h
    rw [sg_self, if_pos rfl]
    cases a <;> cases b
    · simp [sg_self]
    · rw [sg_lt (by simp; omega)]; rfl
    · rw [sg_gt (by simp; omega)]; rfl
    · simp [sg_self]
  · rw [sg_gt (x := (p : Int)) (by omega), if_neg (show ¬ ((1 : Int) = 0) by decide), sg_gt]
    cases a <;> cases b <;> simp <;> omega

theorem bits_loop {a0 a1 a2 a3 a4 b0 b1 b2 b3 b4 : Int} (v : V a0 a1 a2 a3 a4) (u : V b0 b1 b2 b3 b4) (n : Int) (A B : Nat)
    (hA : num a0 a1 a2 a3 a4 = A) (hB : num b0 b1 b2 b3 b4 = B) (gA : ∀ j : Nat, j < 104 → bitAt a0 a1 a2 a3 a4 j = A.testBit (103 - j)) (gB : ∀ j : Nat, j < 104 → bitAt b0 b1 b2 b3 b4 j = B.testBit (103 - j)) (k : Nat) :
    ∀ (d i : Nat), i + d = 104 → crossbucklaw02_HdrBits.l0 (k + 36 + 2 * d) n (bl a0 a1 a2 a3 a4) (bl b0 b1 b2 b3 b4) (sg ((A / 2 ^ d : Nat) : Int) ((B / 2 ^ d : Nat) : Int)) 104 i a0 a1 a2 a3 a4 b0 b1 b2 b3 b4 = some true := by
  intro d
  induction d with
  | zero =>
    intro i h
    rw [Nat.mul_zero, Nat.add_zero, crossbucklaw02_HdrBits.l0, if_neg (by omega), compare_eq (k + 29) v u, Option.bind_some, Nat.pow_zero, Nat.div_one, Nat.div_one, hA, hB, if_pos rfl, back_eq (k + 2) v (bl a0 a1 a2 a3 a4) (bl_get _ _ _ _ _), Option.bind_some, five_ne, decide_eq_false (by simp)]
    exact bits_tail k v n
  | succ d ih =>
    intro i h
    have hi : i < 104 := by omega
    have ih' := ih (i + 1) (by omega)
    have ea := gA i hi
    have eb := gB i hi
    rw [show 103 - i = d by omega] at ea eb
    rw [half A d, half B d, sg_step, ← ea, ← eb] at ih'
    have ew : wrap64 ((i : Int) + 1) = ((i + 1 : Nat) : Int) := by rw [wrap64_id _ (by omega) (by omega)]; simp
    have c0 : (i : Int) < 104 := by omega
    have c1 : (0 : Int) ≤ i := by omega
    rw [show k + 36 + 2 * (d + 1) = (k + 36 + 2 * d) + 1 + 1 from rfl, crossbucklaw02_HdrBits.l0, if_pos c0, bit_eq _ v, Option.bind_some, if_pos c1, if_pos (by rw [bl_length]; exact c0), rd_bl i hi, if_neg (by simp)]
    generalize sg ((A / 2 ^ (d + 1) : Nat) : Int) ((B / 2 ^ (d + 1) : Nat) : Int) = s at ih' ⊢
    by_cases hs : s = 0
    · rw [if_pos hs] at ih' ⊢
      rw [if_pos (by rw [bl_length]; exact c0), rd_bl i hi, crossbucklaw02_HdrBits.j1]
      by_cases hc : (bitAt a0 a1 a2 a3 a4 i != bitAt b0 b1 b2 b3 b4 i) = true
      · rw [if_pos hc] at ih' ⊢
        rw [if_pos c1, if_pos (by rw [bl_length]; exact c0), rd_bl i hi, ew]
        by_cases hb : bitAt b0 b1 b2 b3 b4 i = true
        · rw [if_pos hb] at ih' ⊢; exact ih'
        · rw [if_neg hb] at ih' ⊢; exact ih'
      · rw [if_neg hc] at ih' ⊢
        rw [ew, hs]; exact ih'
    · rw [if_neg hs] at ih' ⊢
      rw [crossbucklaw02_HdrBits.j1, if_neg (by decide), ew]
      exact ih'

theorem HdrBits (a0 a1 a2 a3 a4 b0 b1 b2 b3 b4 n : Int)
    (w0 : (Lit.int .u32 a0).wf = true) (w1 : (Lit.int .u32 a1).wf = true) (w2 : (Lit.int .u8 a2).wf = true) (w3 : (Lit.int .u16 a3).wf = true) (w4 : (Lit.int .u16 a4).wf = true)
    (x0 : (Lit.int .u32 b0).wf = true) (x1 : (Lit.int .u32 b1).wf = true) (x2 : (Lit.int .u8 b2).wf = true) (x3 : (Lit.int .u16 b3).wf = true) (x4 : (Lit.int .u16 b4).wf = true)
    (wn : (Lit.int .i64 n).wf = true) : ∃ k, crossbucklaw02_HdrBits.f k a0 a1 a2 a3 a4 b0 b1 b2 b3 b4 n = some true := by
  have v := V.of w0 w1 w2 w3 w4
  have u := V.of x0 x1 x2 x3 x4
  obtain ⟨A, hA, hA2, gA⟩ := num_nat v
  obtain ⟨B, hB, hB2, gB⟩ := num_nat u
  refine ⟨0 + 36 + 2 * 104, ?_⟩
  have := bits_loop v u n A B hA hB gA gB 0 104 0 rfl
  rw [Nat.div_eq_of_lt hA2, Nat.div_eq_of_lt hB2] at this
  unfold crossbucklaw02_HdrBits.f
  rw [bits_eq (0 + 3 + 2 * 104) v, Option.bind_some, bits_eq (0 + 3 + 2 * 104) u, Option.bind_some, bl_length]
  exact this
end Go.Proofs.YtloclimoffhbhaaDoor.Pure
