/- crossbucklaw16.RegionTouches answers true for every shift and list of address blocks: as numbers and lists. No condition of its own. -/
import Derived.Test.YtbnjbjjbfbbdcaaFactsR
import Derived.Test.YtbnjbjjbfbbdcaaFactsC
import Derived.Test.YtbnjbjjbfbbdcaaPAllx26
import Derived.Test.YtbnjbjjbfbbdcaaPAllx27
import Derived.Test.YtbnjbjjbfbbdcaaPAllx28
import Derived.Test.YtbnjbjjbfbbdcaaPAllx29
import Derived.Test.YtbnjbjjbfbbdcaaPAllx30
import Derived.Test.YtbnjbjjbfbbdcaaPAllx31
import Derived.Test.YtbnjbjjbfbbdcaaPAllx32
namespace Go.Proofs.Ytbnjbjjbfbbdcaa.Pure
open Go Go.RowKit Go.Proofs.Ytbnjbjjbfbbdcaa.PAll Go.Proofs.YtbnjbjjbfbbdcaaW.PrintWords Go.Proofs.YtbnjbjjbfbbdcaaW.PrintLast Go.Proofs.YtbnjbjjbfbbdcaaW.PrintMore Go.Proofs.Ytbnjbjjbfbbdcaa.Bits Go.Proofs.Ytbnjbjjbfbbdcaa.Facts

abbrev Pf := S37
def Pf.ok (p : Pf) : Prop := 0 ≤ p.f0 ∧ p.f0 < 4294967296
theorem tright_eq {a b : Int} (h0 : 0 ≤ a) (h1 : a < 4294967296) : cidr_Right.f a b = some (rightB a b) := by
  unfold cidr_Right.f rightB
  by_cases c : b ≥ 0
  · by_cases d : b ≤ 32
    · rw [if_pos c, if_pos d, mask_eq c d]
      simp only [Option.bind_some]
      unfold sz
      rw [andNot_hi a _ h0 h1 (by omega)]
      simp [c, d]
    · rw [if_pos c, if_neg d]; simp [d]
  · rw [if_neg c]; simp [c]
/-- Whether a block has an address of region i. -/
def touchB (s : Int) (p : Pf) (i : Nat) : Bool := rightB p.f0 p.f1 && meetB p.f0 p.f1 (i * sz s) s
/-- The first n places, those that pass. -/
def sel (g : Nat → Bool) (n : Nat) : List Int := ((List.range n).filter g).map Int.ofNat
theorem sel_succ (g : Nat → Bool) (n : Nat) : sel g (n + 1) = sel g n ++ (if g n = true then [(n : Int)] else []) := by
  unfold sel
  rw [List.range_succ, List.filter_append, List.map_append]
  congr 1
  cases h : g n <;> simp [h]
theorem sel_len (g : Nat → Bool) (n : Nat) : (sel g n).length ≤ n := by
  unfold sel
  rw [List.length_map]
  exact Nat.le_trans (List.length_filter_le _ _) (by simp)

theorem reg_bd {s : Int} {i : Nat} (h : okS s) (hi : (i : Int) < cnt s) : 0 ≤ (i : Int) * sz s ∧ (i : Int) * sz s < 4294967296 := by
  have hz := sz_pos s
  have hm := cnt_sz h
  have := Int.mul_lt_mul_of_pos_right hi hz
  exact ⟨Int.mul_nonneg (by omega) (by omega), by omega⟩

theorem touched_loop (s : Int) (p : Pf) (hp : p.ok) (hs : okS s) (d : Nat) : ∀ (k n : Nat), (n : Int) + d = cnt s → d < k → region_Touched.l0 k s (sel (touchB s p) n) (cnt s) n p.f0 p.f1 = some (sel (touchB s p) (n + d)) := by
  induction d with
  | zero =>
    intro k n hn hk
    obtain ⟨k, rfl⟩ : ∃ m, k = m + 1 := ⟨k - 1, by omega⟩
    rw [region_Touched.l0, if_neg (by omega)]
    rfl
  | succ d ih =>
    intro k n hn hk
    obtain ⟨k, rfl⟩ : ∃ m, k = m + 1 := ⟨k - 1, by omega⟩
    have hl := cnt_le s
    have hb := reg_bd hs (show (n : Int) < cnt s by omega)
    have hlen := sel_len (touchB s p) n
    have hnx := ih k (n + 1) (by omega) (by omega)
    rw [show n + 1 + d = n + (d + 1) by omega, sel_succ] at hnx
    rw [region_Touched.l0, if_pos (by omega), tright_eq hp.1 hp.2, show wrap64 ((n : Int) + 1) = ((n + 1 : Nat) : Int) from wrap64_id _ (by omega) (by omega)]
    simp only [Option.bind_some]
    have hs0 := hs.1
    have hs1 := hs.2
    by_cases c : rightB p.f0 p.f1 = true
    · obtain ⟨b0, b1, _⟩ := rightB_iff.1 c
      rw [if_pos c, prefix_in (by omega) (by omega)]
      simp only [Option.bind_some]
      rw [meet_eq b0 b1 hs0 (by omega) hp.1 hp.2 hb.1 hb.2]
      simp only [Option.bind_some]
      have e : touchB s p n = meetB p.f0 p.f1 (n * sz s) s := by unfold touchB; rw [c]; rfl
      rw [e] at hnx
      by_cases m : meetB p.f0 p.f1 (n * sz s) s = true
      · rw [if_pos m, if_pos (by omega)]
        rw [if_pos m] at hnx
        exact hnx
      · rw [if_neg m]
        rw [if_neg m, List.append_nil] at hnx
        exact hnx
    · rw [if_neg c]
      have e : touchB s p n = false := by unfold touchB; simp [c]
      rw [e, if_neg (by decide), List.append_nil] at hnx
      exact hnx
/-- The regions that a block touches. -/
def touchedL (s : Int) (p : Pf) : List Int := sel (touchB s p) (cnt s).toNat
theorem touched_eq {k : Nat} {s : Int} {p : Pf} (hk : 20 ≤ k) (hp : p.ok) : region_Touched.f k s p.f0 p.f1 = some (touchedL s p) := by
  have hl := cnt_le s
  unfold region_Touched.f touchedL
  rw [count_eq]
  simp only [Option.bind_some]
  by_cases h : okS s
  · have := touched_loop s p hp h (cnt s).toNat k 0 (by omega) (by omega)
    rw [Nat.zero_add] at this
    exact this
  · obtain ⟨k, rfl⟩ : ∃ m, k = m + 1 := ⟨k - 1, by omega⟩
    rw [cnt_zero h, region_Touched.l0, if_neg (by omega)]; rfl

/-! ### The document's. -/
theorem last_eq {k : Nat} {a b : Int} (hk : 33 ≤ k) (h : rightB a b = true) (h0 : 0 ≤ a) (h1 : a < 4294967296) : crossbuckref03_Last.f k a b = some (a + sz b - 1) ∧ a + sz b ≤ 4294967296 := by
  obtain ⟨b0, b1, hm⟩ := rightB_iff.1 h
  have hz := sz_pos b
  have hle : a + sz b ≤ 4294967296 := by
    obtain ⟨m, hm0, hms⟩ := sz_split b0 b1
    have e : sz 0 = 4294967296 := by decide
    rw [e] at hms
    have e1 := Int.ediv_mul_add_emod a (sz b)
    rw [hm] at e1
    have h3 : a / sz b < m := Int.ediv_lt_of_lt_mul hz (by rw [Int.mul_comm]; omega)
    have := Int.mul_le_mul_of_nonneg_right (show a / sz b + 1 ≤ m by omega) (show 0 ≤ sz b by omega)
    rw [Int.add_mul, Int.one_mul, Int.mul_comm m] at this
    omega
  have hzl := sz_le b0
  refine ⟨?_, hle⟩
  unfold crossbuckref03_Last.f
  rw [size_eq hk b0 b1]
  simp only [Option.bind_some]
  rw [wrap_u64_id a h0 (by omega), wrap_u64_id (a + sz b) (by omega) (by omega), wrap_u64_id _ (by omega) (by omega), Int.emod_eq_of_lt (by omega) (by omega)]

/-- A block touches region i just if i lies between its first and its last address's. -/
theorem touch_iff {s : Int} {p : Pf} {i : Nat} (hs : okS s) (h : rightB p.f0 p.f1 = true) : touchB s p i = true ↔ p.f0 / sz s ≤ i ∧ (i : Int) ≤ (p.f0 + sz p.f1 - 1) / sz s := by
  obtain ⟨b0, b1, hm⟩ := rightB_iff.1 h
  have hz := sz_pos s
  have hzb := sz_pos p.f1
  have e1 := Int.ediv_mul_add_emod p.f0 (sz p.f1)
  rw [hm] at e1
  unfold touchB
  rw [h, Bool.true_and, meetB_iff, hasB_iff, hasB_iff, Int.mul_ediv_cancel _ (by omega)]
  have hs1 := hs.2
  by_cases c : s ≤ p.f1
  · obtain ⟨m, m0, ms⟩ := sz_split c b1
    -- the block lies in one region
    have key : (p.f0 + sz p.f1 - 1) / sz s = p.f0 / sz s := by
      generalize hq : p.f0 / sz p.f1 = q at e1
      have ea : p.f0 = sz p.f1 * q := by rw [Int.mul_comm]; omega
      rw [ms, ← Int.ediv_ediv_of_nonneg (by omega), ← Int.ediv_ediv_of_nonneg (by omega), hq]
      congr 1
      rw [Int.ediv_eq_iff_of_pos hzb]
      rw [Int.mul_comm] at ea
      omega
    rw [key]
    constructor
    · rintro (⟨_, e⟩ | ⟨d, e⟩)
      · omega
      · have : p.f1 = s := by omega
        rw [this, Int.mul_ediv_cancel _ (by omega)] at e
        omega
    · rintro ⟨d1, d2⟩
      exact .inl ⟨c, by omega⟩
  · obtain ⟨m, m0, ms⟩ := sz_split (show p.f1 ≤ s by omega) (by omega)
    generalize hq : p.f0 / sz p.f1 = q at e1
    have ea : p.f0 = sz s * (m * q) := by rw [← Int.mul_assoc, ← ms, Int.mul_comm]; omega
    have e2 : p.f0 / sz s = m * q := by rw [ea, Int.mul_ediv_cancel_left _ (by omega)]
    have e3 : (p.f0 + sz p.f1 - 1) / sz s = m * q + m - 1 := by
      rw [Int.ediv_eq_iff_of_pos hz, ea, ms]
      have e4 : sz s * (m * q + m - 1 + 1) = sz s * (m * q) + sz s * m := by rw [show m * q + m - 1 + 1 = m * q + m by omega, Int.mul_add]
      have e5 : (m * q + m - 1) * sz s = sz s * (m * q) + sz s * m - sz s := by rw [Int.mul_comm, show m * q + m - 1 = m * q + m + (-1) by omega, Int.mul_add, Int.mul_add]; omega
      omega
    rw [e2, e3]
    have e6 : (i : Int) * sz s / sz p.f1 = i / m := by rw [ms, ← Int.ediv_ediv_of_nonneg (by omega), Int.mul_ediv_cancel _ (by omega)]
    rw [e6]
    constructor
    · rintro (⟨d, _⟩ | ⟨_, e⟩)
      · omega
      · rw [Int.ediv_eq_iff_of_pos m0, Int.mul_comm q] at e
        omega
    · rintro ⟨d1, d2⟩
      refine .inr ⟨by omega, ?_⟩
      rw [Int.ediv_eq_iff_of_pos m0, Int.mul_comm q]
      omega

theorem sel_congr {g g' : Nat → Bool} {n : Nat} (h : ∀ i, i < n → g i = g' i) : sel g n = sel g' n := by
  unfold sel
  congr 1
  exact List.filter_congr (fun i hi => h i (List.mem_range.1 hi))
/-- From lo to hi, one by one. -/
theorem refTouched_loop (s : Int) (p : Pf) (hp : p.ok) (h : rightB p.f0 p.f1 = true) (hs : okS s) (g : Nat → Bool) (lo hi : Nat) (hg : ∀ i : Nat, g i = (decide (lo ≤ i) && decide (i ≤ hi))) (hhi : ((hi : Nat) : Int) = (p.f0 + sz p.f1 - 1) / sz s) (hl8 : hi ≤ 8) (d : Nat) :
    ∀ (k n : Nat), n + d = hi + 1 → lo ≤ n → 40 + d < k → crossbuckref16_Touched.l0 k s (sel g n) n p.f0 p.f1 = some (sel g (hi + 1)) := by
  obtain ⟨l1, l2⟩ := last_eq (k := 33) (by omega) h hp.1 hp.2
  have hz := sz_pos p.f1
  have hp0 := hp.1
  induction d with
  | zero =>
    intro k n hn hlo hk
    obtain ⟨k, rfl⟩ : ∃ m, k = m + 1 := ⟨k - 1, by omega⟩
    rw [crossbuckref16_Touched.l0, (last_eq (k := k) (by omega) h hp.1 hp.2).1]
    simp only [Option.bind_some]
    rw [ref16Index_eq (by omega) (by omega)]
    simp only [Option.bind_some]
    rw [idx_ok hs, ← hhi, if_neg (by omega)]
    obtain rfl : n = hi + 1 := by omega
    rfl
  | succ d ih =>
    intro k n hn hlo hk
    obtain ⟨k, rfl⟩ : ∃ m, k = m + 1 := ⟨k - 1, by omega⟩
    have hlen := sel_len g n
    have hnx := ih k (n + 1) (by omega) (by omega) (by omega)
    rw [sel_succ, hg n, if_pos (by simp; omega)] at hnx
    rw [crossbuckref16_Touched.l0, (last_eq (k := k) (by omega) h hp.1 hp.2).1]
    simp only [Option.bind_some]
    rw [ref16Index_eq (by omega) (by omega)]
    simp only [Option.bind_some]
    rw [idx_ok hs, ← hhi, if_pos (by omega), if_pos (by omega), show wrap64 ((n : Int) + 1) = ((n + 1 : Nat) : Int) from wrap64_id _ (by omega) (by omega)]
    exact hnx
theorem sel_none {g : Nat → Bool} {n : Nat} (h : ∀ i, i < n → g i = false) : sel g n = [] := by
  unfold sel
  rw [List.filter_eq_nil_iff.2 (fun i hi => by rw [h i (List.mem_range.1 hi)]; decide)]
  rfl
theorem sel_stop {g : Nat → Bool} (n d : Nat) (h : ∀ i, n ≤ i → i < n + d → g i = false) : sel g (n + d) = sel g n := by
  induction d with
  | zero => rfl
  | succ d ih => rw [← Nat.add_assoc, sel_succ, h (n + d) (by omega) (by omega), if_neg (by decide), List.append_nil, ih (fun i h1 h2 => h i h1 (by omega))]

theorem refTouched_eq {k : Nat} {s : Int} {p : Pf} (hk : 100 ≤ k) (hp : p.ok) : crossbuckref16_Touched.f k s p.f0 p.f1 = some (touchedL s p) := by
  have hl := cnt_le s
  obtain ⟨hp0, hp1⟩ := id hp
  unfold crossbuckref16_Touched.f
  rw [refRight_eq (by omega) hp0 hp1]
  simp only [Option.bind_some]
  have hT : touchedL s p = [] → crossbuckref16_Touched.j0 k s [] true p.f0 p.f1 = some (touchedL s p) := by
    intro e
    obtain ⟨k, rfl⟩ : ∃ m, k = m + 1 := ⟨k - 1, by omega⟩
    rw [crossbuckref16_Touched.j0, if_pos rfl, e]
  by_cases c : rightB p.f0 p.f1 = true
  · rw [if_pos c, ref16Count_eq]
    simp only [Option.bind_some]
    by_cases o : okS s
    · have hc := cnt_pos o
      obtain ⟨k, rfl⟩ : ∃ m, k = m + 1 := ⟨k - 1, by omega⟩
      rw [beq_eq_false_iff_ne.2 (by omega), crossbuckref16_Touched.j0, if_neg (by decide), ref16Index_eq hp0 hp1]
      simp only [Option.bind_some]
      rw [idx_ok o]
      obtain ⟨_, l2⟩ := last_eq (k := 33) (by omega) c hp0 hp1
      have hz := sz_pos p.f1
      have d1 := idx_bd o hp0 hp1
      have d2 := idx_bd o (show 0 ≤ p.f0 + sz p.f1 - 1 by omega) (by omega)
      have d3 : p.f0 / sz s ≤ (p.f0 + sz p.f1 - 1) / sz s := Int.ediv_le_ediv (sz_pos s) (by omega)
      obtain ⟨lo, hlo⟩ := Int.eq_ofNat_of_zero_le d1.1
      obtain ⟨hi, hhi⟩ := Int.eq_ofNat_of_zero_le d2.1
      rw [hlo] at d3 d1 ⊢
      rw [hhi] at d3 d2
      have hg : ∀ i : Nat, touchB s p i = (decide (lo ≤ i) && decide (i ≤ hi)) := by
        intro i
        rw [Bool.eq_iff_iff, touch_iff o c, hlo, hhi]
        simp
      have hs0 : sel (touchB s p) lo = [] := sel_none (fun i hi => by rw [hg]; simp; omega)
      have := refTouched_loop s p hp c o (touchB s p) lo hi hg hhi.symm (by omega) (hi + 1 - lo) k lo (by omega) (Nat.le_refl _) (by omega)
      rw [hs0] at this
      rw [this]
      congr 1
      unfold touchedL
      have e := sel_stop (g := touchB s p) (hi + 1) ((cnt s).toNat - (hi + 1)) (fun i h1 h2 => by rw [hg]; simp; omega)
      rw [show hi + 1 + ((cnt s).toNat - (hi + 1)) = (cnt s).toNat by omega] at e
      exact e.symm
    · rw [cnt_zero o]
      refine hT ?_
      unfold touchedL
      rw [cnt_zero o]; rfl
  · rw [if_neg c]
    exact hT (sel_none (fun i _ => by unfold touchB; simp [c]))

/-! ### The same numbers. -/
theorem same_loop (l : List Int) (hl : l.length ≤ 1000) (d : Nat) : ∀ (k n : Nat), n + d = l.length → d < k → crossbucklaw16_same.l0 k l l (l.length : Int) n = some true := by
  induction d with
  | zero =>
    intro k n hn hk
    obtain ⟨k, rfl⟩ : ∃ m, k = m + 1 := ⟨k - 1, by omega⟩
    rw [crossbucklaw16_same.l0, if_neg (by omega)]
  | succ d ih =>
    intro k n hn hk
    obtain ⟨k, rfl⟩ : ∃ m, k = m + 1 := ⟨k - 1, by omega⟩
    rw [crossbucklaw16_same.l0, if_pos (by omega), if_pos (by omega), if_pos (by omega), if_pos (by omega), if_pos rfl, show wrap64 ((n : Int) + 1) = ((n + 1 : Nat) : Int) from wrap64_id _ (by omega) (by omega)]
    exact ih k (n + 1) (by omega) (by omega)
theorem same_eq {k : Nat} {l : List Int} (hl : l.length ≤ 1000) (hk : 1001 ≤ k) : crossbucklaw16_same.f k l l = some true := by
  unfold crossbucklaw16_same.f
  rw [if_pos rfl]
  exact same_loop l hl l.length k 0 (by omega) (by omega)

/-! ### All of several. -/
theorem all_at {xs l : List Pf} {b : Pf} {i : Nat} (h : xs.drop i = b :: l) : rd_T37 xs (i : Int) = b ∧ xs.drop (i + 1) = l ∧ i < xs.length := by
  have hi : i < xs.length := by
    rcases Nat.lt_or_ge i xs.length with c | c
    · exact c
    · rw [List.drop_eq_nil_of_le c] at h; cases h
  have e := List.drop_eq_getElem_cons hi
  rw [h] at e
  injection e with e1 e2
  refine ⟨?_, e2.symm, hi⟩
  unfold rd_T37
  rw [Int.toNat_natCast, List.getD_eq_getElem?_getD, List.getElem?_eq_getElem hi, Option.getD_some]
  exact e1.symm
/-- Whether one of several touches region i. -/
def anyB (s : Int) (l : List Pf) (i : Nat) : Bool := l.any (fun p => touchB s p i)
theorem all_l1 (s : Int) (full : List Pf) (hs : okS s) (hf : full.length ≤ 20) (hok : ∀ p ∈ full, p.ok) (n : Nat) (hn : (n : Int) < cnt s) (acc : List Int) (ha : acc.length ≤ 8) : ∀ (l : List Pf) (k i : Nat), full.drop i = l → l.length < k → 
    ∃ k', k ≤ k' + l.length + 1 ∧ region_All.l1 k s full acc n (cnt s) n full (full.length : Int) i = region_All.l0 k' s full (acc ++ (if anyB s l n = true then [(n : Int)] else [])) (cnt s) ((n + 1 : Nat) : Int) := by
  intro l
  induction l with
  | nil =>
    intro k i hd hk
    obtain ⟨k, rfl⟩ : ∃ m, k = m + 1 := ⟨k - 1, by omega⟩
    have hi : full.length ≤ i := List.drop_eq_nil_iff.1 hd
    have hl := cnt_le s
    refine ⟨k, by simp, ?_⟩
    rw [region_All.l1, if_neg (by omega), show wrap64 ((n : Int) + 1) = ((n + 1 : Nat) : Int) from wrap64_id _ (by omega) (by omega)]
    simp [anyB]
  | cons b l ih =>
    intro k i hd hk
    obtain ⟨k, rfl⟩ : ∃ m, k = m + 1 := ⟨k - 1, by omega⟩
    obtain ⟨e1, e2, hi⟩ := all_at hd
    have hl := cnt_le s
    have hb : b.ok := hok b (List.mem_of_mem_drop (by rw [hd]; exact List.mem_cons_self))
    obtain ⟨b0, b1⟩ := id hb
    have hr := reg_bd hs hn
    have hs0 := hs.1
    have hs1 := hs.2
    have hno : touchB s b n = false → ∃ k', k + 1 ≤ k' + (b :: l).length + 1 ∧ region_All.l1 k s full acc n (cnt s) n full (full.length : Int) (wrap64 ((i : Int) + 1)) = region_All.l0 k' s full (acc ++ (if anyB s (b :: l) n = true then [(n : Int)] else [])) (cnt s) ((n + 1 : Nat) : Int) := by
      intro e
      obtain ⟨k', h1, h2⟩ := ih k (i + 1) e2 (by simp only [List.length_cons] at hk; omega)
      refine ⟨k', by simp only [List.length_cons]; omega, ?_⟩
      rw [show wrap64 ((i : Int) + 1) = ((i + 1 : Nat) : Int) from wrap64_id _ (by omega) (by omega), h2]
      simp [anyB, e]
    rw [region_All.l1, if_pos (by omega), if_pos (by omega), if_pos (by omega), e1, tright_eq b0 b1]
    simp only [Option.bind_some]
    by_cases c : rightB b.f0 b.f1 = true
    · obtain ⟨c0, c1, _⟩ := rightB_iff.1 c
      rw [if_pos c, prefix_in (by omega) hn]
      simp only [Option.bind_some]
      rw [meet_eq c0 c1 hs0 (by omega) b0 b1 hr.1 hr.2]
      simp only [Option.bind_some]
      have e : touchB s b n = meetB b.f0 b.f1 (n * sz s) s := by unfold touchB; rw [c]; rfl
      by_cases m : meetB b.f0 b.f1 (n * sz s) s = true
      · rw [if_pos m, if_pos (by omega)]
        refine ⟨k, by omega, ?_⟩
        rw [show wrap64 ((n : Int) + 1) = ((n + 1 : Nat) : Int) from wrap64_id _ (by omega) (by omega)]
        simp [anyB, e, m]
      · rw [if_neg m]
        exact hno (by rw [e]; simpa using m)
    · rw [if_neg c]
      exact hno (by unfold touchB; simp [c])
theorem all_l0 (s : Int) (full : List Pf) (hs : okS s) (hf : full.length ≤ 20) (hok : ∀ p ∈ full, p.ok) (d : Nat) : ∀ (k n : Nat), (n : Int) + d = cnt s → 30 * d < k → region_All.l0 k s full (sel (anyB s full) n) (cnt s) n = some (sel (anyB s full) (n + d)) := by
  induction d with
  | zero =>
    intro k n hn hk
    obtain ⟨k, rfl⟩ : ∃ m, k = m + 1 := ⟨k - 1, by omega⟩
    rw [region_All.l0, if_neg (by omega)]; rfl
  | succ d ih =>
    intro k n hn hk
    obtain ⟨k, rfl⟩ : ∃ m, k = m + 1 := ⟨k - 1, by omega⟩
    have hl := cnt_le s
    have hlen := sel_len (anyB s full) n
    obtain ⟨k', h1, h2⟩ := all_l1 s full hs hf hok n (by omega) (sel (anyB s full) n) (by omega) full k 0 rfl (by omega)
    rw [region_All.l0, if_pos (by omega)]
    rw [show ((0 : Nat) : Int) = 0 from rfl] at h2
    rw [h2, ← sel_succ, ih k' (n + 1) (by omega) (by omega)]
    rw [show n + 1 + d = n + (d + 1) by omega]
theorem all_eq {k : Nat} {s : Int} {l : List Pf} (hk : 300 ≤ k) (hf : l.length ≤ 20) (hok : ∀ p ∈ l, p.ok) : region_All.f k s l = some (sel (anyB s l) (cnt s).toNat) := by
  have hl := cnt_le s
  unfold region_All.f
  rw [count_eq]
  simp only [Option.bind_some]
  by_cases h : okS s
  · have := all_l0 s l h hf hok (cnt s).toNat k 0 (by omega) (by omega)
    rw [Nat.zero_add] at this
    exact this
  · obtain ⟨k, rfl⟩ : ∃ m, k = m + 1 := ⟨k - 1, by omega⟩
    rw [cnt_zero h, region_All.l0, if_neg (by omega)]; rfl

/-! ### The law. -/
def mapG (g : Nat → Bool) (c : Nat) : List Bool := (List.range c).map g
theorem mapG_len (g : Nat → Bool) (c : Nat) : (mapG g c).length = c := by unfold mapG; simp
theorem mapG_set (g : Nat → Bool) (c n : Nat) : (mapG g c).set n true = mapG (fun j => g j || j == n) c := by
  unfold mapG
  apply List.ext_getElem?
  intro j
  rw [List.getElem?_set]
  by_cases h : n = j
  · subst h
    rw [if_pos rfl, List.getElem?_map, List.length_map, List.length_range]
    by_cases hc : n < c
    · rw [if_pos hc, List.getElem?_range hc]; simp
    · rw [if_neg hc, List.getElem?_eq_none (by simpa using hc)]; rfl
  · rw [if_neg h, List.getElem?_map, List.getElem?_map]
    by_cases hc : j < c
    · rw [List.getElem?_range hc]
      have : (j == n) = false := beq_eq_false_iff_ne.2 (fun e => h e.symm)
      simp [this]
    · rw [List.getElem?_eq_none (by simpa using hc)]; rfl
theorem mapG_congr {g g' : Nat → Bool} {c : Nat} (h : ∀ j, j < c → g j = g' j) : mapG g c = mapG g' c :=
  List.map_congr_left (fun j hj => h j (List.mem_range.1 hj))
theorem mark_at {xs l : List Int} {b : Int} {i : Nat} (h : xs.drop i = b :: l) : rd xs (i : Int) = b ∧ xs.drop (i + 1) = l ∧ i < xs.length := by
  have hi : i < xs.length := by
    rcases Nat.lt_or_ge i xs.length with c | c
    · exact c
    · rw [List.drop_eq_nil_of_le c] at h; cases h
  have e := List.drop_eq_getElem_cons hi
  rw [h] at e
  injection e with e1 e2
  refine ⟨?_, e2.symm, hi⟩
  unfold rd
  rw [Int.toNat_natCast, List.getD_eq_getElem?_getD, List.getElem?_eq_getElem hi, Option.getD_some]
  exact e1.symm
theorem mark_loop (s : Int) (full : List Pf) (c : Nat) (t : List Int) (ht : ∀ v ∈ t, 0 ≤ v ∧ v < c) (hl : t.length ≤ 8) (i0 : Nat) (hi0 : i0 ≤ 20) (r : Bool) : ∀ (rest : List Int) (k i : Nat) (g : Nat → Bool), t.drop i = rest →
    crossbucklaw16_RegionTouches.l0 k s full (mapG (fun j => g j || rest.any (fun v => v == (j : Int))) c) full (full.length : Int) ((i0 + 1 : Nat) : Int) = some r →
    crossbucklaw16_RegionTouches.l1 (k + rest.length + 1) s full (mapG g c) full (full.length : Int) i0 t (t.length : Int) i = some r := by
  intro rest
  induction rest with
  | nil =>
    intro k i g hd h
    have hi : t.length ≤ i := List.drop_eq_nil_iff.1 hd
    rw [crossbucklaw16_RegionTouches.l1, if_neg (by omega), show wrap64 ((i0 : Int) + 1) = ((i0 + 1 : Nat) : Int) from wrap64_id _ (by omega) (by omega)]
    simpa using h
  | cons b rest ih =>
    intro k i g hd h
    obtain ⟨e1, e2, hi⟩ := mark_at hd
    obtain ⟨b0, b1⟩ := ht b (List.mem_of_mem_drop (by rw [hd]; exact List.mem_cons_self))
    obtain ⟨n, rfl⟩ := Int.eq_ofNat_of_zero_le b0
    rw [crossbucklaw16_RegionTouches.l1, if_pos (by omega), if_pos (by omega), if_pos (by omega), e1, if_pos (by omega), if_pos (by rw [mapG_len]; omega), Int.toNat_natCast, mapG_set, show wrap64 ((i : Int) + 1) = ((i + 1 : Nat) : Int) from wrap64_id _ (by omega) (by omega)]
    have := ih k (i + 1) (fun j => g j || j == n) e2 (by
      rw [mapG_congr (g' := fun j => g j || ((n : Int) :: rest).any (fun v => v == (j : Int)))]
      · exact h
      · intro j _
        have : (j == n) = ((n : Int) == (j : Int)) := by
          rw [Bool.eq_iff_iff, beq_iff_eq, beq_iff_eq]; omega
        simp [this, Bool.or_assoc])
    exact this
theorem touched_mem {s : Int} {p : Pf} {v : Int} (h : v ∈ touchedL s p) : 0 ≤ v ∧ v < (cnt s).toNat := by
  unfold touchedL sel at h
  obtain ⟨n, hn, rfl⟩ := List.mem_map.1 h
  have := List.mem_range.1 (List.mem_filter.1 hn).1
  exact ⟨Int.natCast_nonneg n, by show (n : Int) < _; omega⟩
theorem touched_any {s : Int} {p : Pf} {j : Nat} (h : j < (cnt s).toNat) : (touchedL s p).any (fun v => v == (j : Int)) = touchB s p j := by
  unfold touchedL sel
  rw [Bool.eq_iff_iff, List.any_eq_true]
  constructor
  · rintro ⟨v, hv, e⟩
    obtain ⟨n, hn, rfl⟩ := List.mem_map.1 hv
    have e2 : (n : Int) = j := beq_iff_eq.1 e
    have : n = j := by omega
    subst this
    exact (List.mem_filter.1 hn).2
  · intro ht
    exact ⟨(j : Int), List.mem_map.2 ⟨j, List.mem_filter.2 ⟨List.mem_range.2 h, ht⟩, rfl⟩, beq_self_eq_true _⟩

theorem want_loop (s : Int) (full : List Pf) (hf : full.length ≤ 20) (hok : ∀ p ∈ full, p.ok) (g : Nat → Bool) (hg : ∀ j, j < (cnt s).toNat → g j = anyB s full j) (d : Nat) : ∀ (k n : Nat), n + d = (cnt s).toNat → 1100 + d < k →
    crossbucklaw16_RegionTouches.l2 k s full (sel g n) (mapG g (cnt s).toNat) (((mapG g (cnt s).toNat).length : Nat) : Int) n = some true := by
  have hl := cnt_le s
  induction d with
  | zero =>
    intro k n hn hk
    obtain ⟨k, rfl⟩ : ∃ m, k = m + 1 := ⟨k - 1, by omega⟩
    obtain rfl : n = (cnt s).toNat := by omega
    have hlen := sel_len (anyB s full) (cnt s).toNat
    rw [crossbucklaw16_RegionTouches.l2, if_neg (by rw [mapG_len]; omega), awake16]
    simp only [Option.bind_some]
    rw [if_pos trivial, all_eq (by omega) hf hok, sel_congr hg]
    simp only [Option.bind_some]
    rw [same_eq (by omega) (by omega)]; rfl
  | succ d ih =>
    intro k n hn hk
    obtain ⟨k, rfl⟩ : ∃ m, k = m + 1 := ⟨k - 1, by omega⟩
    have hlen := sel_len g n
    have hnx := ih k (n + 1) (by omega) (by omega)
    rw [sel_succ] at hnx
    have e : rdOf false (mapG g (cnt s).toNat) (n : Int) = g n := by
      unfold rdOf mapG
      rw [Int.toNat_natCast, List.getD_eq_getElem?_getD, List.getElem?_map, List.getElem?_range (by omega)]
      rfl
    rw [crossbucklaw16_RegionTouches.l2, if_pos (by rw [mapG_len]; omega), if_pos (by omega), if_pos (by rw [mapG_len]; omega), e, show wrap64 ((n : Int) + 1) = ((n + 1 : Nat) : Int) from wrap64_id _ (by omega) (by omega)]
    by_cases c : g n = true
    · rw [if_pos c, if_pos (by omega)]
      rw [if_pos c] at hnx
      exact hnx
    · rw [if_neg c]
      rw [if_neg c, List.append_nil] at hnx
      exact hnx

theorem touches_loop (s : Int) (full : List Pf) (hf : full.length ≤ 20) (hok : ∀ p ∈ full, p.ok) : ∀ (rest : List Pf) (k i : Nat) (g : Nat → Bool), full.drop i = rest → (∀ j, j < (cnt s).toNat → (g j || rest.any (fun p => touchB s p j)) = anyB s full j) → 1200 + 20 * rest.length < k →
    crossbucklaw16_RegionTouches.l0 k s full (mapG g (cnt s).toNat) full (full.length : Int) i = some true := by
  have hl := cnt_le s
  intro rest
  induction rest with
  | nil =>
    intro k i g hd hg hk
    obtain ⟨k, rfl⟩ : ∃ m, k = m + 1 := ⟨k - 1, by omega⟩
    have hi : full.length ≤ i := List.drop_eq_nil_iff.1 hd
    rw [crossbucklaw16_RegionTouches.l0, if_neg (by omega)]
    exact want_loop s full hf hok g (fun j hj => by simpa using hg j hj) (cnt s).toNat k 0 (by omega) (by simp at hk; omega)
  | cons b rest ih =>
    intro k i g hd hg hk
    simp only [List.length_cons] at hk
    obtain ⟨k, rfl⟩ : ∃ m, k = m + 1 := ⟨k - 1, by omega⟩
    obtain ⟨e1, e2, hi⟩ := all_at hd
    have hb : b.ok := hok b (List.mem_of_mem_drop (by rw [hd]; exact List.mem_cons_self))
    have hlen := sel_len (touchB s b) (cnt s).toNat
    rw [crossbucklaw16_RegionTouches.l0, if_pos (by omega), if_pos (by omega), if_pos (by omega), e1, touched_eq (by omega) hb]
    simp only [Option.bind_some]
    rw [refTouched_eq (by omega) hb]
    simp only [Option.bind_some]
    have hlen2 : (touchedL s b).length ≤ 8 := by unfold touchedL; omega
    rw [same_eq (by omega) (by omega)]
    simp only [Option.bind_some]
    rw [if_pos trivial]
    have hm := mark_loop s full (cnt s).toNat (touchedL s b) (fun v hv => touched_mem hv) hlen2 i (by omega) true (touchedL s b) (k - (touchedL s b).length - 1) 0 g rfl (by
      refine ih _ (i + 1) _ e2 (fun j hj => ?_) (by omega)
      have := hg j hj
      rw [List.any_cons] at this
      rw [touched_any hj, ← this, Bool.or_assoc])
    rw [show k - (touchedL s b).length - 1 + (touchedL s b).length + 1 = k by omega] at hm
    exact hm

theorem touch_u32 {a : Int} (h : (Lit.int .u32 a).wf = true) : 0 ≤ a ∧ a < 4294967296 := by
  simp [Lit.wf, IntKind.min, IntKind.max, IntKind.signed, IntKind.bits] at h
  exact ⟨by omega, by omega⟩
theorem RegionTouches (s : Int) (l : List S37) (_ : (Lit.int .i64 s).wf = true) (w1 : ∀ p ∈ l, (Lit.int .u32 p.f0).wf = true ∧ (Lit.int .i64 p.f1).wf = true) : ∃ k, crossbucklaw16_RegionTouches.f k s l = some true := by
  refine ⟨2000, ?_⟩
  have hl := cnt_le s
  unfold crossbucklaw16_RegionTouches.f
  by_cases c : (l.length : Int) > 20
  · rw [if_pos c, awake16]; rfl
  · rw [if_neg c, ref16Count_eq]
    simp only [Option.bind_some]
    rw [if_pos hl.1, if_pos (by omega)]
    have e : List.replicate (cnt s).toNat false = mapG (fun _ => false) (cnt s).toNat := by
      unfold mapG
      rw [List.map_const', List.length_range]
    rw [e]
    exact touches_loop s l (by omega) (fun p hp => touch_u32 (w1 p hp).1) l 2000 0 _ rfl (fun j _ => by simp [anyB]) (by omega)
end Go.Proofs.Ytbnjbjjbfbbdcaa.Pure
