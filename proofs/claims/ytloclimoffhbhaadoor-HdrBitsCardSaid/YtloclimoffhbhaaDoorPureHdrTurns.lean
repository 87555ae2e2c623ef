/- crossbucklaw02.HdrTurns answers true for every three headers and every bit: as numbers. No condition of its own. -/
import Derived.Test.YtloclimoffhbhaaDoorHdr
import Derived.Test.YtloclimoffhbhaaDoorPAllx115
namespace Go.Proofs.YtloclimoffhbhaaDoor.Pure
open Go Go.RowKit Go.Proofs.YtloclimoffhbhaaDoor.PAll Go.Proofs.YtloclimoffhbhaaDoorW.PrintWords Go.Proofs.YtloclimoffhbhaaDoorW.PrintLast Go.Proofs.YtloclimoffhbhaaDoorW.PrintMore Go.Proofs.YtloclimoffhbhaaDoor.Bits Go.Proofs.YtloclimoffhbhaaDoor.Hdr

set_option linter.unusedVariables false
theorem num_flip {x0 x1 x2 x3 x4 y0 y1 y2 y3 y4 : Int} (v : V x0 x1 x2 x3 x4) (u : V y0 y1 y2 y3 y4) {i : Int} (h0 : 0 ≤ i) (h1 : i < 104) (e : flipAt x0 x1 x2 x3 x4 i = (y0, y1, y2, y3, y4)) :
    if bitAt x0 x1 x2 x3 x4 i = true then num y0 y1 y2 y3 y4 < num x0 x1 x2 x3 x4 else num x0 x1 x2 x3 x4 < num y0 y1 y2 y3 y4 := by
  obtain ⟨c0, d0, c1, d1, c2, d2, c3, d3, c4, d4⟩ := u
  unfold bitAt num
  unfold flipAt at e
  rw [if_neg (by omega : ¬ i < 0), if_neg (by omega : ¬ i ≥ 104)]
  have key : ∀ x n : Int, 0 ≤ x → (fb x n = true → flip x n < x) ∧ (fb x n = false → x < flip x n) := fun x n h => ⟨flip_down h, flip_up h⟩
  by_cases c : i < 32
  · rw [if_pos c] at e ⊢
    simp only [Prod.mk.injEq] at e
    obtain ⟨rfl, rfl, rfl, rfl, rfl⟩ := e
    have := key x0 (31 - i) v.a0
    split <;> rename_i hb
    · have := this.1 hb; omega
    · have := this.2 (Bool.eq_false_iff.2 hb); omega
  rw [if_neg c] at e ⊢
  by_cases c : i < 64
  · rw [if_pos c] at e ⊢
    simp only [Prod.mk.injEq] at e
    obtain ⟨rfl, rfl, rfl, rfl, rfl⟩ := e
    have := key x1 (63 - i) v.a1
    split <;> rename_i hb
    · have := this.1 hb; omega
    · have := this.2 (Bool.eq_false_iff.2 hb); omega
  rw [if_neg c] at e ⊢
  by_cases c : i < 72
  · rw [if_pos c] at e ⊢
    simp only [Prod.mk.injEq] at e
    obtain ⟨rfl, rfl, rfl, rfl, rfl⟩ := e
    have := key x2 (71 - i) v.a2
    split <;> rename_i hb
    · have := this.1 hb; omega
    · have := this.2 (Bool.eq_false_iff.2 hb); omega
  rw [if_neg c] at e ⊢
  by_cases c : i < 88
  · rw [if_pos c] at e ⊢
    simp only [Prod.mk.injEq] at e
    obtain ⟨rfl, rfl, rfl, rfl, rfl⟩ := e
    have := key x3 (87 - i) v.a3
    split <;> rename_i hb
    · have := this.1 hb; omega
    · have := this.2 (Bool.eq_false_iff.2 hb); omega
  rw [if_neg c] at e ⊢
  simp only [Prod.mk.injEq] at e
  obtain ⟨rfl, rfl, rfl, rfl, rfl⟩ := e
  have := key x4 (103 - i) v.a4
  split <;> rename_i hb
  · have := this.1 hb; omega
  · have := this.2 (Bool.eq_false_iff.2 hb); omega

theorem five_eq (a b c d e a' b' c' d' e' : Int) : (a == a' && (b == b' && (c == c' && (d == d' && (e == e'))))) = decide (a = a' ∧ b = b' ∧ c = c' ∧ d = d' ∧ e = e') := by
  rw [Bool.eq_iff_iff]; simp
theorem five_ne (a b c d e a' b' c' d' e' : Int) : (!(a == a') || (!(b == b') || (!(c == c') || (!(d == d') || (!(e == e')))))) = decide ¬ (a = a' ∧ b = b' ∧ c = c' ∧ d = d' ∧ e = e') := by
  rw [Bool.eq_iff_iff]; simp

theorem turns_end (k : Nat) {a0 a1 a2 a3 a4 b0 b1 b2 b3 b4 c0 c1 c2 c3 c4 : Int} (v : V a0 a1 a2 a3 a4) (u : V b0 b1 b2 b3 b4) (t : V c0 c1 c2 c3 c4) :
    crossbucklaw02_HdrTurns.j0 (k + 7) (sg (num a0 a1 a2 a3 a4) (num b0 b1 b2 b3 b4)) (sg (num b0 b1 b2 b3 b4) (num c0 c1 c2 c3 c4)) (sg (num a0 a1 a2 a3 a4) (num c0 c1 c2 c3 c4)) false a0 a1 a2 a3 a4 b0 b1 b2 b3 b4 = some true := by
  have hz : (sg (num a0 a1 a2 a3 a4) (num b0 b1 b2 b3 b4) = 0) ↔ (a0 = b0 ∧ a1 = b1 ∧ a2 = b2 ∧ a3 = b3 ∧ a4 = b4) := by
    rw [← num_eq v u]
    unfold sg
    constructor
    · intro h; split at h
      · exact absurd h (by decide)
      · split at h
        · exact absurd h (by decide)
        · omega
    · intro h; rw [if_neg (by omega), if_neg (by omega)]
  rw [crossbucklaw02_HdrTurns.j0, if_neg (by decide), awake (k := k), Option.bind_some, if_pos rfl, compare_eq k u v, Option.bind_some, five_eq]
  generalize num a0 a1 a2 a3 a4 = x at hz ⊢
  generalize num b0 b1 b2 b3 b4 = y at hz ⊢
  generalize num c0 c1 c2 c3 c4 = z
  have h1 : sg y x = wrap64 (-sg x y) := by
    unfold sg
    rcases Int.lt_trichotomy x y with h | h | h
    · rw [if_neg (by omega), if_pos h, if_pos h]; decide +kernel
    · rw [if_neg (by omega), if_neg (by omega), if_neg (by omega), if_neg (by omega)]; decide +kernel
    · rw [if_pos h, if_neg (by omega), if_pos h]; decide +kernel
  rw [if_pos h1, if_pos (by
    rw [beq_iff_eq, Bool.eq_iff_iff, beq_iff_eq, decide_eq_true_eq]; exact hz)]
  unfold sg
  rcases Int.lt_trichotomy x y with h | h | h
  · rw [if_pos h, if_neg (by decide)]
    rcases Int.lt_trichotomy y z with g | g | g
    · rw [if_pos g, if_neg (by decide), if_pos (by omega)]; rfl
    · rw [if_neg (by omega : ¬ y < z), if_neg (by omega : ¬ y > z), if_neg (by decide), if_pos (by omega)]; rfl
    · rw [if_neg (by omega : ¬ y < z), if_pos g, if_pos (by decide)]
  · rw [if_neg (by omega : ¬ x < y), if_neg (by omega : ¬ x > y), if_neg (by decide)]
    rcases Int.lt_trichotomy y z with g | g | g
    · rw [if_pos g, if_neg (by decide), if_pos (by omega)]; rfl
    · rw [if_neg (by omega : ¬ y < z), if_neg (by omega : ¬ y > z), if_neg (by decide), if_neg (by omega), if_neg (by omega)]; rfl
    · rw [if_neg (by omega : ¬ y < z), if_pos g, if_pos (by decide)]
  · rw [if_neg (by omega : ¬ x < y), if_pos h, if_pos (by decide)]

theorem HdrTurns (a0 a1 a2 a3 a4 b0 b1 b2 b3 b4 c0 c1 c2 c3 c4 n : Int)
    (w0 : (Lit.int .u32 a0).wf = true) (w1 : (Lit.int .u32 a1).wf = true) (w2 : (Lit.int .u8 a2).wf = true) (w3 : (Lit.int .u16 a3).wf = true) (w4 : (Lit.int .u16 a4).wf = true)
    (x0 : (Lit.int .u32 b0).wf = true) (x1 : (Lit.int .u32 b1).wf = true) (x2 : (Lit.int .u8 b2).wf = true) (x3 : (Lit.int .u16 b3).wf = true) (x4 : (Lit.int .u16 b4).wf = true)
    (z0 : (Lit.int .u32 c0).wf = true) (z1 : (Lit.int .u32 c1).wf = true) (z2 : (Lit.int .u8 c2).wf = true) (z3 : (Lit.int .u16 c3).wf = true) (z4 : (Lit.int .u16 c4).wf = true)
    (wn : (Lit.int .u8 n).wf = true) : ∃ k, crossbucklaw02_HdrTurns.f k a0 a1 a2 a3 a4 b0 b1 b2 b3 b4 c0 c1 c2 c3 c4 n = some true := by
  have v := V.of w0 w1 w2 w3 w4
  have u := V.of x0 x1 x2 x3 x4
  have t := V.of z0 z1 z2 z3 z4
  have hn := wf_u8 wn
  have e8 : (2 : Int) ^ 8 = 256 := rfl
  have ei : wrap64 (Int.tmod n 104) = n % 104 := by
    rw [Int.tmod_eq_emod_of_nonneg hn.1]; exact w64 (by omega) (by omega)
  refine ⟨0 + 7, ?_⟩
  unfold crossbucklaw02_HdrTurns.f
  have i0 : 0 ≤ n % 104 := by omega
  have i1 : n % 104 < 104 := by omega
  rw [ei]
  generalize n % 104 = i at i0 i1 ⊢
  rcases hf : flipAt a0 a1 a2 a3 a4 i with ⟨y0, y1, y2, y3, y4⟩
  have vy : V y0 y1 y2 y3 y4 := by have := v.flip i i0 i1; rw [hf] at this; exact this
  have hb : bitAt y0 y1 y2 y3 y4 i = !bitAt a0 a1 a2 a3 a4 i := by have := bit_flip (x0 := a0) (x1 := a1) (x2 := a2) (x3 := a3) (x4 := a4) i i i0 i1 i0 i1; rw [hf, if_pos rfl] at this; exact this
  have hback : flipAt y0 y1 y2 y3 y4 i = (a0, a1, a2, a3, a4) := by have := flip_back v i; rw [hf] at this; exact this
  have hnum := num_flip v vy i0 i1 hf
  have hw1 : withAt a0 a1 a2 a3 a4 i (!bitAt a0 a1 a2 a3 a4 i) = (y0, y1, y2, y3, y4) := by
    unfold withAt
    rw [if_neg (by omega), if_neg (by omega), if_neg (by cases bitAt a0 a1 a2 a3 a4 i <;> decide), hf]
  have hw2 : withAt y0 y1 y2 y3 y4 i (bitAt a0 a1 a2 a3 a4 i) = (a0, a1, a2, a3, a4) := by
    unfold withAt
    rw [if_neg (by omega), if_neg (by omega), if_neg (by rw [hb]; cases bitAt a0 a1 a2 a3 a4 i <;> decide), hback]
  rw [compare_eq 1 v u, Option.bind_some, compare_eq 1 u t, Option.bind_some, compare_eq 1 v t, Option.bind_some, bit_eq 6 v, Option.bind_some, with_eq 6 v, Option.bind_some, hw1]
  simp only []
  rw [bit_eq 6 vy, Option.bind_some, Option.bind_some, hb, if_neg (by cases bitAt a0 a1 a2 a3 a4 i <;> decide), Option.bind_some, with_eq 6 vy, Option.bind_some, hw2]
  simp only [five_ne]
  rw [if_neg (by simp), compare_eq 1 vy v, Option.bind_some]
  have hj : (decide (sg (num y0 y1 y2 y3 y4) (num a0 a1 a2 a3 a4) > 0) != (!bitAt a0 a1 a2 a3 a4 i)) = false := by
    unfold sg
    cases hc : bitAt a0 a1 a2 a3 a4 i
    · rw [hc, if_neg (by decide)] at hnum
      rw [if_neg (by omega), if_pos (by omega)]; rfl
    · rw [hc, if_pos rfl] at hnum
      rw [if_pos (by omega)]; rfl
  rw [if_neg (by
    unfold sg
    cases hc : bitAt a0 a1 a2 a3 a4 i
    · rw [hc, if_neg (by decide)] at hnum
      rw [if_neg (by omega), if_pos (by omega)]; decide
    · rw [hc, if_pos rfl] at hnum
      rw [if_pos (by omega)]; decide), Option.bind_some, Option.bind_some, hj]
  exact turns_end 0 v u t
end Go.Proofs.YtloclimoffhbhaaDoor.Pure
