/- Words read: the document's own Number answers as the program's. No condition of its own. -/
import Derived.Test.YtloclimoffhbhaaDoorBits
import Derived.Lib.IndexBytes
import Derived.Lib.SplitLaws
import Derived.Lib.CountLaws
import Derived.Test.YtloclimoffhbhaaDoorPFxx0
import Derived.Test.YtloclimoffhbhaaDoorPFxx1
import Derived.Test.YtloclimoffhbhaaDoorPFxx6
namespace Go.Proofs.YtloclimoffhbhaaDoor.Text
open Go Go.RowKit Go.Proofs.YtloclimoffhbhaaDoor.PFx Go.Proofs.YtloclimoffhbhaaDoorW.PrintWords Go.Proofs.YtloclimoffhbhaaDoorW.PrintLast Go.Proofs.YtloclimoffhbhaaDoorW.PrintMore Go.Proofs.YtloclimoffhbhaaDoor.Bits
set_option linter.unusedVariables false

theorem bt_eq (s : ByteArray) (p : Nat) (h : p < s.size) : bt s (p : Int) = (s[p].toNat : Int) := by
  unfold bt
  rw [dif_pos (by simpa using h)]
  rfl
theorem drop_at (s : ByteArray) (p : Nat) (h : p < s.size) : s.data.toList.drop p = s[p] :: s.data.toList.drop (p + 1) := by
  rw [List.drop_eq_getElem_cons (by simpa using h)]; rfl
theorem drop_end (s : ByteArray) (p : Nat) (h : ¬ p < s.size) : s.data.toList.drop p = [] := List.drop_eq_nil_of_le (by simp; omega)
theorem wrap_digit (y b : Int) : wrap64 (wrap64 (y + b) - 48) = wrap64 (y + (b - 48)) := by unfold wrap64; omega
theorem wrap_b (c : UInt8) : wrap64 (c.toNat : Int) = c.toNat := by have := c.toNat_lt; exact wrap64_id _ (by omega) (by omega)
theorem w64n {n : Nat} (h : n < 1000000) : wrap64 ((n : Int) + 1) = ((n + 1 : Nat) : Int) := by rw [wrap64_id _ (by omega) (by omega)]; simp

/-! ### Number -/
theorem number_go (s : ByteArray) (hs : s.size < 100000) (most : Int) (k : Nat) : ∀ (d p : Nat) (v : Int), p + d = s.size → crossbuckref02_Number.l0 (k + 2 * d + 1) s most v p = some (numberGo most (s.data.toList.drop p) v) := by
  intro d
  induction d with
  | zero =>
    intro p v h
    rw [Nat.mul_zero, Nat.add_zero, crossbuckref02_Number.l0, if_neg (by omega), drop_end s p (by omega)]
    rfl
  | succ d ih =>
    intro p v h
    have hp : p < s.size := by omega
    have c1 : (p : Int) < (s.size : Int) := by omega
    have c0 : (0 : Int) ≤ (p : Int) := by omega
    have ih' := fun v => ih (p + 1) v (by omega)
    have ew := w64n (n := p) (by omega)
    have e2 : ∀ v : Int, wrap64 (wrap64 (wrap64 (v * 10) + wrap64 (s[p].toNat : Int)) - 48) = wrap64 (wrap64 (v * 10) + ((s[p].toNat : Int) - 48)) := fun v => by rw [wrap_b, wrap_digit]
    rw [show k + 2 * (d + 1) + 1 = (k + 2 * d + 1) + 1 + 1 from rfl, crossbuckref02_Number.l0, if_pos c1, if_pos c0, bt_eq s p hp, drop_at s p hp, numberGo]
    by_cases a : s[p].toNat < 48
    · have a' : (s[p].toNat : Int) < 48 := by clear ew e2; omega
      rw [if_pos a', if_pos (.inl a), crossbuckref02_Number.j2, if_pos rfl]
    · have a' : ¬ (s[p].toNat : Int) < 48 := by clear ew e2; omega
      rw [if_neg a', crossbuckref02_Number.j2]
      by_cases b : 57 < s[p].toNat
      · have b' : (s[p].toNat : Int) > 57 := by clear ew e2; omega
        rw [decide_eq_true b', if_pos rfl, if_pos (.inr b)]
      · have b' : ¬ (s[p].toNat : Int) > 57 := by clear ew e2; omega
        rw [decide_eq_false b', if_neg (by decide), if_pos c0, if_pos c1, bt_eq s p hp, e2, ew, if_neg (not_or.2 ⟨a, b⟩)]
        by_cases g : wrap64 (wrap64 (v * 10) + ((s[p].toNat : Int) - 48)) > most
        · rw [if_pos g, if_pos g]
        · rw [if_neg g, if_neg g]
          exact ih' _
theorem number_eq (s : ByteArray) (hs : s.size ≤ 300) (most : Int) (k : Nat) : crossbuckref02_Number.f (k + 700) s most = hdr_Number.f s most := by
  have hgo : crossbuckref02_Number.l0 (k + 699) s most 0 0 = some (numberGo most s.data.toList 0) := by
    have := number_go s (by omega) most (k + 698 - 2 * s.size) s.size 0 0 (by omega)
    rw [show k + 698 - 2 * s.size + 2 * s.size + 1 = k + 699 by omega] at this
    exact this
  have hj : ∀ b, crossbuckref02_Number.j0 (k + 700) s most b = if b = true then some (0, 6) else some (numberGo most s.data.toList 0) := by
    intro b
    rw [crossbuckref02_Number.j0]
    cases b
    · rw [if_neg (by decide), if_neg (by decide)]; exact hgo
    · rw [if_pos rfl, if_pos rfl]
  unfold crossbuckref02_Number.f hdr_Number.f
  have hl : s.data.toList.length = s.size := by simp
  by_cases c : s.size = 0
  · rw [if_pos (by omega), hj, if_pos rfl]
    have : s.data.toList = [] := List.eq_nil_of_length_eq_zero (by omega)
    rw [this]
    rfl
  · have h0 : 0 < s.size := by omega
    have hd := drop_at s 0 h0
    rw [List.drop_zero] at hd
    have hb := bt_eq s 0 h0
    rw [show (((0 : Nat)) : Int) = 0 from rfl] at hb
    rw [if_neg (by omega), if_pos (by omega), hb]
    have hbad : numberBad s.data.toList = (decide (1 < s.size) && (s[0] == 48)) := by
      unfold numberBad
      rw [hl, hd]
      rfl
    rw [hbad]
    by_cases e : (s[0].toNat : Int) = 48
    · have e' : s[0] = 48 := by apply UInt8.toNat_inj.1; rw [show (48 : UInt8).toNat = 48 from rfl]; omega
      rw [if_pos e, hj, e']
      by_cases g : s.size > 1
      · rw [decide_eq_true (by omega : (s.size : Int) > 1), if_pos rfl, decide_eq_true (by omega), if_pos (by decide)]
      · rw [decide_eq_false (by omega : ¬ (s.size : Int) > 1), if_neg (by decide), decide_eq_false (by omega), if_neg (by decide)]
    · have e' : (s[0] == 48) = false := by
        rw [beq_eq_false_iff_ne]
        intro h
        rw [h] at e
        exact e rfl
      rw [if_neg e, hj, if_neg (by decide), e', Bool.and_false, if_neg (by decide)]
theorem go_range (most : Int) (h1 : most ≤ 70000) : ∀ (l : List UInt8) (v : Int), 0 ≤ v → v ≤ most → (numberGo most l v).2 = 0 → 0 ≤ (numberGo most l v).1 ∧ (numberGo most l v).1 ≤ most
  | [], v, a, b, _ => ⟨a, b⟩
  | c :: l, v, a, b, h => by
    rw [numberGo] at h ⊢
    by_cases x : c.toNat < 48 ∨ 57 < c.toNat
    · rw [if_pos x] at h; exact absurd h (by decide)
    · rw [if_neg x] at h ⊢
      have e : wrap64 (wrap64 (v * 10) + ((c.toNat : Int) - 48)) = v * 10 + ((c.toNat : Int) - 48) := by
        rw [wrap64_id (v * 10) (by omega) (by omega), wrap64_id _ (by omega) (by omega)]
      rw [e] at h ⊢
      by_cases g : v * 10 + ((c.toNat : Int) - 48) > most
      · rw [if_pos g] at h; exact absurd h (by decide)
      · rw [if_neg g] at h ⊢
        exact go_range most h1 l _ (by omega) (by omega) h
theorem number_range {s : ByteArray} {most : Int} (h0 : 0 ≤ most) (h1 : most ≤ 70000) {r : Int × Int} (h : hdr_Number.f s most = some r) (e : r.2 = 0) : 0 ≤ r.1 ∧ r.1 ≤ most := by
  unfold hdr_Number.f at h
  have h := Option.some.inj h
  subst h
  split at e
  · exact absurd e (by decide)
  · rename_i hb
    rw [if_neg hb]
    exact go_range most h1 _ 0 (by decide) h0 e

end Go.Proofs.YtloclimoffhbhaaDoor.Text
