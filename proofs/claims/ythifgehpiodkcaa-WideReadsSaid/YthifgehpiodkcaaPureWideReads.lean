/- crossbucklaw01.WideReads answers true for every text; the document's own reading is the program's. No condition of its own. -/
import Derived.Test.YthifgehpiodkcaaWideTR
import Derived.Test.YthifgehpiodkcaaAwake01
import Derived.Test.YthifgehpiodkcaaPAllx32
import Derived.Test.YthifgehpiodkcaaPAllx33
namespace Go.Proofs.Ythifgehpiodkcaa.Wide
open Go Go.RowKit Go.Proofs.Ythifgehpiodkcaa.PAll Go.Proofs.YthifgehpiodkcaaW.PrintWords Go.Proofs.YthifgehpiodkcaaW.PrintLast Go.Proofs.YthifgehpiodkcaaW.PrintMore Go.Proofs.Ythifgehpiodkcaa.Bits
set_option linter.unusedVariables false


theorem bt_eq (s : ByteArray) (p : Nat) (h : p < s.size) : bt s (p : Int) = (s[p].toNat : Int) := by
  unfold bt
  rw [dif_pos (by simpa using h)]
  rfl
theorem drop_at (s : ByteArray) (p : Nat) (h : p < s.size) : s.data.toList.drop p = s[p] :: s.data.toList.drop (p + 1) := by
  rw [List.drop_eq_getElem_cons (by simpa using h)]; rfl
theorem drop_end (s : ByteArray) (p : Nat) (h : ¬ p < s.size) : s.data.toList.drop p = [] := List.drop_eq_nil_of_le (by simp; omega)
theorem w64n {n : Nat} (h : n < 1000000) : wrap64 ((n : Int) + 1) = ((n + 1 : Nat) : Int) := by rw [wrap64_id _ (by omega) (by omega)]; simp
/-- Ten times a count, and a digit, sum by sum; what is over is seen. -/
theorem ref_ten (s : ByteArray) (k p : Nat) (hp : p < 1000) {n : Nat} (hn : n < 340282366920938463463374607431768211456) : ∀ (j i m : Nat), i + j = 10 → m < 340282366920938463463374607431768211456 →
    crossbuckref01_Parse.l1 (k + j + 1) s p i (hiW n : Nat) (loW n : Nat) (hiW m : Nat) (loW m : Nat) = if 340282366920938463463374607431768211456 ≤ m + j * n then some (0, 0, 5) else crossbuckref01_Parse.l0 k s ((p + 1 : Nat) : Int) (hiW (m + j * n) : Nat) (loW (m + j * n) : Nat) := by
  intro j
  induction j with
  | zero =>
    intro i m h hm
    have ew := w64n (n := p) (by omega)
    rw [Nat.add_zero, crossbuckref01_Parse.l1, if_neg (by clear ew; omega), ew, Nat.zero_mul, if_neg (by clear ew; omega)]
    rfl
  | succ j ih =>
    intro i m h hm
    have ew := w64n (n := i) (by omega)
    have ea := radd_eq (hi_lt m) (lo_lt m) (hi_lt n) (lo_lt n)
    rw [words_of hm, words_of hn] at ea
    have el := less_eq (hi_lt (m + n)) (lo_lt (m + n)) (hi_lt m) (lo_lt m)
    rw [vl_words, words_of hm] at el
    have ex : m + (j + 1) * n = m + n + j * n := by rw [Nat.succ_mul]; clear ew; omega
    rw [show k + (j + 1) + 1 = (k + j + 1) + 1 from rfl, crossbuckref01_Parse.l1, if_pos (by clear ew; omega), ea, Option.bind_some]
    show (crossbuckref01_Less.f ((hiW (m + n) : Nat) : Int) ((loW (m + n) : Nat) : Int) _ _).bind _ = _
    rw [el, Option.bind_some, ex]
    by_cases g : 340282366920938463463374607431768211456 ≤ m + n
    · rw [decide_eq_true (by clear ew; omega), if_pos rfl, if_pos (by clear ew; exact Nat.le_trans g (Nat.le_add_right _ _))]
    · rw [decide_eq_false (by clear ew; omega), if_neg (by decide), ew]
      exact ih (i + 1) (m + n) (by clear ew; omega) (by clear ew; omega)
theorem ref_go (s : ByteArray) (hs : s.size ≤ 200) (k : Nat) : ∀ (d p n : Nat), p + d = s.size → n < 340282366920938463463374607431768211456 →
    crossbuckref01_Parse.l0 (k + 13 * d + 1) s p (hiW n : Nat) (loW n : Nat) = wideGo (s.data.toList.drop p) (hiW n : Nat) (loW n : Nat) := by
  intro d
  induction d with
  | zero =>
    intro p n h hn
    rw [Nat.mul_zero, Nat.add_zero, crossbuckref01_Parse.l0, if_neg (by omega), drop_end s p (by omega), wideGo]
  | succ d ih =>
    intro p n h hn
    have hp : p < s.size := by omega
    rw [show k + 13 * (d + 1) + 1 = (k + 13 * d + 12 + 1) + 1 by omega, crossbuckref01_Parse.l0, if_pos (by omega), if_pos (by omega), bt_eq s p hp, drop_at s p hp]
    by_cases a : s[p].toNat < 48
    · rw [if_pos (by omega), crossbuckref01_Parse.j2, if_pos rfl, wide_bad (.inl a)]
    · rw [if_neg (by omega)]
      by_cases b : 57 < s[p].toNat
      · rw [decide_eq_true (by omega), crossbuckref01_Parse.j2, if_pos rfl, wide_bad (.inr b)]
      · have hd : ((s[p].toNat : Int) - 48) % 256 = ((loW (s[p].toNat - 48) : Nat) : Int) := by unfold loW; omega
        have h0 : (0 : Int) = ((hiW (s[p].toNat - 48) : Nat) : Int) := by unfold hiW; omega
        have ht := ref_ten s (k + 13 * d + 1) p (by omega) hn 10 0 (s[p].toNat - 48) rfl (by omega)
        rw [wide_step hn (by omega) (by omega), decide_eq_false (by omega), crossbuckref01_Parse.j2, if_neg (by decide), if_pos (by omega), if_pos (by omega), bt_eq s p hp, hd]
        have hl : crossbuckref01_Parse.l1 (k + 13 * d + 12) s p 0 (hiW n : Nat) (loW n : Nat) 0 (loW (s[p].toNat - 48) : Nat) = crossbuckref01_Parse.l1 (k + 13 * d + 1 + 10 + 1) s p ((0 : Nat) : Int) (hiW n : Nat) (loW n : Nat) (hiW (s[p].toNat - 48) : Nat) (loW (s[p].toNat - 48) : Nat) := by
          rw [← h0]
          rfl
        rw [hl, ht, show s[p].toNat - 48 + 10 * n = n * 10 + (s[p].toNat - 48) by omega]
        by_cases g : 340282366920938463463374607431768211456 ≤ n * 10 + (s[p].toNat - 48)
        · rw [if_pos g, if_pos g]
        · rw [if_neg g, if_neg g]
          exact ih (p + 1) _ (by omega) (by omega)
theorem ref_parse (s : ByteArray) (hs : s.size ≤ 200) (k : Nat) : crossbuckref01_Parse.f (k + 2602) s = wide_Parse.f s := by
  have hgo : crossbuckref01_Parse.l0 (k + 2601) s 0 0 0 = wideGo s.data.toList 0 0 := by
    have := ref_go s hs (k + 2600 - 13 * s.size) s.size 0 0 (by omega) (by decide)
    rw [show k + 2600 - 13 * s.size + 13 * s.size + 1 = k + 2601 by omega, List.drop_zero] at this
    exact this
  have hj : ∀ b, crossbuckref01_Parse.j0 (k + 2602) s b = if b = true then some (0, 0, 6) else wideGo s.data.toList 0 0 := by
    intro b
    rw [crossbuckref01_Parse.j0]
    cases b
    · rw [if_neg (by decide), if_neg (by decide)]; exact hgo
    · rw [if_pos rfl, if_pos rfl]
  unfold crossbuckref01_Parse.f wide_Parse.f
  have hl : s.data.toList.length = s.size := by simp
  by_cases c : s.size = 0
  · rw [if_pos (by omega), hj, if_pos rfl]
    have : s.data.toList = [] := List.eq_nil_of_length_eq_zero (by omega)
    rw [this]
    rfl
  · have h0 : 0 < s.size := by omega
    have hd := drop_at s 0 h0
    rw [List.drop_zero] at hd
    have hb := bt_eq s 0 h0
    rw [show (((0 : Nat)) : Int) = 0 from rfl] at hb
    have hbad : numberBad s.data.toList = (decide (1 < s.size) && (s[0] == 48)) := by
      unfold numberBad
      rw [hl, hd]
      rfl
    rw [if_neg (by omega), hbad]
    by_cases g : s.size > 1
    · rw [if_pos (by omega), if_pos (by omega), hb, hj, decide_eq_true g, Bool.true_and]
      by_cases e : s[0] = 48
      · rw [e]; rfl
      · have e2 : ¬ (s[0].toNat : Int) = 48 := fun h => e (UInt8.toNat_inj.1 (by rw [show (48 : UInt8).toNat = 48 from rfl]; omega))
        rw [beq_eq_false_iff_ne.2 e2, beq_eq_false_iff_ne.2 e]
    · rw [if_neg (by omega), hj, decide_eq_false (by omega), Bool.false_and]
end Go.Proofs.Ythifgehpiodkcaa.Wide
namespace Go.Proofs.Ythifgehpiodkcaa.Pure
open Go Go.RowKit Go.Proofs.Ythifgehpiodkcaa.PAll Go.Proofs.YthifgehpiodkcaaW.PrintWords Go.Proofs.YthifgehpiodkcaaW.PrintLast Go.Proofs.YthifgehpiodkcaaW.PrintMore Go.Proofs.Ythifgehpiodkcaa.Bits Go.Proofs.Ythifgehpiodkcaa.Wide
set_option linter.unusedVariables false


theorem wideGo_some : ∀ (l : List UInt8) (n : Nat), n < 340282366920938463463374607431768211456 → ∃ r, wideGo l (hiW n : Nat) (loW n : Nat) = some r
  | [], n, _ => ⟨_, by rw [wideGo]⟩
  | c :: l, n, hn => by
    by_cases g : c.toNat < 48 ∨ 57 < c.toNat
    · exact ⟨_, wide_bad g⟩
    · rw [wide_step hn (by omega) (by omega)]
      by_cases e : 340282366920938463463374607431768211456 ≤ n * 10 + (c.toNat - 48)
      · exact ⟨_, if_pos e⟩
      · rw [if_neg e]
        exact wideGo_some l _ (by omega)
theorem parse_some (s : ByteArray) : ∃ r, wide_Parse.f s = some r := by
  unfold wide_Parse.f
  by_cases hb : numberBad s.data.toList = true
  · exact ⟨_, if_pos hb⟩
  · rw [if_neg hb]
    exact wideGo_some _ 0 (by decide)
theorem WideReads : crossbucklaw01_WideReads.Pure := by
  intro s ws
  refine ⟨0 + 2602, ?_⟩
  unfold crossbucklaw01_WideReads.f
  by_cases c : (s.size : Int) > 200
  · rw [if_pos c, awake01 (by omega), Option.bind_some]
  · have hs : s.size ≤ 200 := by omega
    rw [if_neg c]
    obtain ⟨⟨x, y, e⟩, hr⟩ := parse_some s
    rw [ref_parse s hs 0, hr, Option.bind_some, Option.bind_some, awake01 (by omega), Option.bind_some, if_pos rfl, if_pos rfl]
    unfold crossbucklaw01_to.f
    rw [Option.bind_some]
    simp only [beq_self_eq_true, Bool.and_self, if_true]
    by_cases z : e = 0
    · subst z
      obtain ⟨m, hm, rfl, rfl, rfl⟩ := parse_text hr
      rw [if_pos rfl, show 0 + 2602 = 2557 + 45 from rfl, print_eq 2557 hm, Option.bind_some, beq_self_eq_true]
    · rw [if_neg z]
end Go.Proofs.Ythifgehpiodkcaa.Pure
