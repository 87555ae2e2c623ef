/- The plain law of a trie: what putting and taking do to its nodes. -/
import Derived.Test.YtbmibakhpealjaaTrA
namespace Go.Proofs.Ytbmibakhpealjaa.TrieP
set_option linter.unusedVariables false
set_option linter.unusedSimpArgs false
theorem X_vals (l : List En) (b n : Nat) : (X l b n).getD [] = (l.filter (atN b n)).map En.v := by
  cases h : X l b n with
  | some vs => exact X_some h
  | none =>
    have e := X_none h
    have : l.filter (atN b n) = [] := by
      rw [List.filter_eq_nil_iff] at e ⊢
      exact fun x hx hw => e x hx (at_win hw)
    rw [this]
    rfl
theorem X_get {l : List En} {b n : Nat} (h : X l b n ≠ none) : X l b n = some ((l.filter (atN b n)).map En.v) := by
  cases hX : X l b n with
  | some vs => rw [X_some hX]
  | none => exact (h hX).elim
theorem X_has {l : List En} {b n : Nat} {x : En} (hx : x ∈ l) (hw : win b n x = true) : X l b n = some ((l.filter (atN b n)).map En.v) := by
  unfold X
  rw [if_pos (.inr (List.any_eq_true.2 ⟨x, hx, hw⟩))]
theorem X_root (l : List En) : X l 0 0 = some ((l.filter (atN 0 0)).map En.v) := by unfold X; rw [if_pos (.inl ⟨rfl, rfl⟩)]
theorem X_way {l : List En} {e : En} (he : e ∈ l) {b : Nat} (hb : b ≤ e.b) : X l b (nk e.a b) ≠ none := by
  rw [X_has he (win_iff.2 ⟨hb, rfl⟩)]
  exact fun h => by cases h
/-- A node's way is there. -/
theorem X_up {l : List En} (hr : Rts l) {b : Nat} {n : Nat} (hb : b < 32) {m : Nat} (hm : m / 2 = n) (h : X l (b + 1) m ≠ none) : X l b n ≠ none := by
  unfold X at h
  split at h
  · rename_i hc
    rcases hc with hc | hc
    · omega
    · obtain ⟨x, hx, hw⟩ := List.any_eq_true.1 hc
      rw [win_iff] at hw
      rw [X_has hx (win_iff.2 ⟨by omega, by rw [nk_half hb, hw.2, hm]⟩)]
      exact fun h => by cases h
  · exact (h rfl).elim
theorem X_deep {l : List En} (hr : Rts l) {b n : Nat} (hb : 32 < b) : X l b n = none := by
  unfold X
  rw [if_neg]
  rintro (h | h)
  · omega
  · obtain ⟨x, hx, hw⟩ := List.any_eq_true.1 h
    have := (hr x hx).1
    rw [win_iff] at hw
    omega
theorem X_ins {l : List En} {e : En} (hs : Srt l) (hr : Rts l) (he : rt e) (hn : e ∉ l) (b n : Nat) :
    X (ins e l) b n = if b = e.b ∧ n = nk e.a e.b then some (insI e.v ((X l b n).getD [])) else if (b ≤ e.b ∧ n = nk e.a b) ∧ X l b n = none then some [] else X l b n := by
  rw [X_vals]
  by_cases h1 : b = e.b ∧ n = nk e.a e.b
  · rw [if_pos h1]
    obtain ⟨rfl, rfl⟩ := h1
    rw [X_has (mem_ins.2 (.inl rfl)) (win_iff.2 ⟨Nat.le_refl _, rfl⟩), ins_vals hs hr he hn _ _ (atN_iff.2 ⟨rfl, rfl⟩)]
  · rw [if_neg h1]
    have ha : atN b n e = false := by
      rw [Bool.eq_false_iff]
      intro h
      rw [atN_iff] at h
      obtain ⟨rfl, rfl⟩ := h
      exact h1 ⟨rfl, rfl⟩
    by_cases h2 : b ≤ e.b ∧ n = nk e.a b
    · have hw : win b n e = true := win_iff.2 ⟨h2.1, h2.2.symm⟩
      rw [X_has (mem_ins.2 (.inl rfl)) hw, ins_other _ _ ha]
      by_cases h3 : X l b n = none
      · rw [if_pos ⟨h2, h3⟩]
        have := X_vals l b n
        rw [h3] at this
        rw [← this]
        rfl
      · rw [if_neg (fun h => h3 h.2), X_get h3]
    · rw [if_neg (fun h => h2 h.1)]
      have hw : win b n e = false := by
        rw [Bool.eq_false_iff]
        intro h
        rw [win_iff] at h
        exact h2 ⟨h.1, h.2.symm⟩
      unfold X
      rw [ins_any, hw, ins_other _ _ ha, Bool.false_or]
/-! ### Values in a row -/
theorem insI_take {v : Int} : ∀ {xs : List Int} {i : Nat}, i ≤ xs.length → (∀ x ∈ xs.take i, x < v) → (∀ x ∈ xs.drop i, ¬ x < v) → insI v xs = xs.take i ++ v :: xs.drop i
  | [], i, hi, _, _ => by
    obtain rfl : i = 0 := by simpa using hi
    rfl
  | x :: xs, 0, _, _, h => by
    rw [insI, if_neg (h x (by simp))]
    rfl
  | x :: xs, i + 1, hi, h1, h2 => by
    rw [insI, if_pos (h1 x (by simp)), insI_take (by simpa using hi) (fun y hy => h1 y (by simp [hy])) (fun y hy => h2 y (by simpa using hy))]
    rfl
theorem del_at {v : Int} {xs : List Int} (hs : xs.Pairwise (· < ·)) {i : Nat} (hi : i < xs.length) (hv : xs[i] = v) : xs.filter (fun x => decide (x ≠ v)) = xs.take i ++ xs.drop (i + 1) := by
  induction xs generalizing i with
  | nil => simp at hi
  | cons x xs ih =>
    obtain ⟨h1, h2⟩ := List.pairwise_cons.1 hs
    cases i with
    | zero =>
      simp only [List.getElem_cons_zero] at hv
      subst hv
      rw [List.filter_cons, if_neg (by simp)]
      simp only [List.take_zero, List.nil_append, Nat.zero_add, List.drop_succ_cons, List.drop_zero]
      rw [List.filter_eq_self]
      intro y hy
      have := h1 y hy
      simp only [decide_eq_true_eq]
      omega
    | succ i =>
      have hi' : i < xs.length := by simpa using hi
      have hv' : xs[i] = v := by simpa using hv
      have hx : x ≠ v := by
        have := h1 xs[i] (List.getElem_mem hi')
        omega
      rw [List.filter_cons, if_pos (by simpa using hx), ih h2 hi' hv']
      rfl
theorem del_vals {l : List En} {e : En} (hr : Rts l) (he : rt e) (b n : Nat) (h : atN b n e = true) : ((del e l).filter (atN b n)).map En.v = ((l.filter (atN b n)).map En.v).filter (fun x => decide (x ≠ e.v)) := by
  unfold del
  rw [List.filter_map, List.filter_filter, List.filter_filter]
  congr 1
  refine List.filter_congr (fun x hx => ?_)
  rw [Bool.eq_iff_iff]
  simp only [Bool.and_eq_true, Function.comp, decide_eq_true_eq]
  constructor
  · rintro ⟨h1, h2⟩
    refine ⟨fun hv => h2 ?_, h1⟩
    have e1 := at_addr h1 (hr x hx)
    have e2 := at_addr h he
    rw [e1, e2, hv]
  · rintro ⟨h1, h2⟩
    exact ⟨h2, fun hv => h1 (by rw [hv])⟩
theorem del_other {l : List En} {e : En} (b n : Nat) (h : atN b n e = false) : (del e l).filter (atN b n) = l.filter (atN b n) := by
  unfold del
  rw [List.filter_filter]
  refine List.filter_congr (fun x hx => ?_)
  rw [Bool.eq_iff_iff]
  simp only [Bool.and_eq_true, decide_eq_true_eq]
  constructor
  · exact fun h => h.1
  · intro h1
    refine ⟨h1, ?_⟩
    rintro rfl
    rw [h1] at h
    cases h
/-- The tree while a value is taken: the value is gone, and the nodes below depth i on its way. -/
def G (l : List En) (e : En) (i b n : Nat) : Option (List Int) :=
  if i < b ∧ b ≤ e.b ∧ n = nk e.a b then none else if b = e.b ∧ n = nk e.a e.b then some (((l.filter (atN b n)).map En.v).filter (fun x => decide (x ≠ e.v))) else X l b n
/-- Nothing else lies under the nodes that are gone. -/
def Gone (l : List En) (e : En) (i : Nat) : Prop := ∀ c, i < c → c ≤ e.b → (del e l).filter (win c (nk e.a c)) = []
theorem G_start (l : List En) (e : En) (b n : Nat) : G l e e.b b n = if b = e.b ∧ n = nk e.a e.b then some (((l.filter (atN b n)).map En.v).filter (fun x => decide (x ≠ e.v))) else X l b n := by
  unfold G
  rw [if_neg (by omega)]
theorem gone_start (l : List En) (e : En) : Gone l e e.b := fun c h1 h2 => by omega
theorem off_del {l : List En} {e : En} {b n : Nat} (h : win b n e = false) : (del e l).any (win b n) = l.any (win b n) := by
  rw [Bool.eq_iff_iff]
  simp only [List.any_eq_true]
  constructor
  · rintro ⟨x, hx, hw⟩
    exact ⟨x, (mem_del.1 hx).1, hw⟩
  · rintro ⟨x, hx, hw⟩
    refine ⟨x, mem_del.2 ⟨hx, ?_⟩, hw⟩
    rintro rfl
    rw [h] at hw
    cases hw
/-- One more node is taken away. -/
theorem gone_step {l : List En} {e : En} (hr : Rts l) (he : rt e) (hel : e ∈ l) {i : Nat} (hi : i + 1 ≤ e.b) (hg : Gone l e (i + 1)) (hv : G l e (i + 1) (i + 1) (nk e.a (i + 1)) = some [])
    (h0 : G l e (i + 1) (i + 2) (2 * nk e.a (i + 1)) = none) (h1 : G l e (i + 1) (i + 2) (2 * nk e.a (i + 1) + 1) = none) : Gone l e i := by
  intro c c1 c2
  by_cases hc : c = i + 1
  · subst hc
    rw [List.filter_eq_nil_iff]
    intro x hx hw
    obtain ⟨hxl, hxe⟩ := mem_del.1 hx
    obtain ⟨w1, w2⟩ := win_iff.1 hw
    by_cases hb : x.b = i + 1
    · have ha : atN (i + 1) (nk e.a (i + 1)) x = true := atN_iff.2 ⟨hb, w2⟩
      have hm : x.v ∈ ((del e l).filter (atN (i + 1) (nk e.a (i + 1)))).map En.v := List.mem_map.2 ⟨x, List.mem_filter.2 ⟨hx, ha⟩, rfl⟩
      unfold G at hv
      rw [if_neg (by omega)] at hv
      split at hv
      · rename_i h
        have hae : atN (i + 1) (nk e.a (i + 1)) e = true := atN_iff.2 ⟨by omega, rfl⟩
        rw [del_vals hr he _ _ hae, Option.some.inj hv] at hm
        cases hm
      · rename_i h
        have hae : atN (i + 1) (nk e.a (i + 1)) e = false := by
          rw [Bool.eq_false_iff]
          intro h'
          rw [atN_iff] at h'
          exact h ⟨h'.1.symm, by rw [h'.1]⟩
        rw [del_other _ _ hae, ← X_some hv] at hm
        cases hm
    · have hx32 := (hr x hxl).1
      have hk : nk x.a (i + 1) = nk x.a (i + 2) / 2 := nk_half (by omega)
      have hkid : G l e (i + 1) (i + 2) (nk x.a (i + 2)) = none := by
        rcases (show nk x.a (i + 2) = 2 * nk e.a (i + 1) ∨ nk x.a (i + 2) = 2 * nk e.a (i + 1) + 1 by omega) with hh | hh
        · rw [hh]; exact h0
        · rw [hh]; exact h1
      have hwx : win (i + 2) (nk x.a (i + 2)) x = true := win_iff.2 ⟨by omega, rfl⟩
      unfold G at hkid
      split at hkid
      · rename_i h
        have := hg (i + 2) (by omega) h.2.1
        rw [← h.2.2, List.filter_eq_nil_iff] at this
        exact this x hx hwx
      · split at hkid
        · cases hkid
        · have := X_none hkid
          rw [List.filter_eq_nil_iff] at this
          exact this x hxl hwx
  · exact hg c (by omega) c2
theorem G_step {l : List En} {e : En} {i : Nat} (hi : i + 1 ≤ e.b) (b n : Nat) : G l e i b n = if b = i + 1 ∧ n = nk e.a (i + 1) then none else G l e (i + 1) b n := by
  unfold G
  by_cases h : b = i + 1 ∧ n = nk e.a (i + 1)
  · rw [if_pos h]
    obtain ⟨rfl, rfl⟩ := h
    rw [if_pos ⟨by omega, hi, rfl⟩]
  · rw [if_neg h]
    by_cases h2 : i < b ∧ b ≤ e.b ∧ n = nk e.a b
    · rw [if_pos h2, if_pos]
      refine ⟨?_, h2.2⟩
      apply Classical.byContradiction
      intro hc
      obtain rfl : b = i + 1 := by omega
      exact h ⟨rfl, h2.2.2⟩
    · rw [if_neg h2, if_neg (show ¬ (i + 1 < b ∧ b ≤ e.b ∧ n = nk e.a b) from fun hc => h2 ⟨by omega, hc.2⟩)]
/-- The loop has come to its end. -/
theorem G_done {l : List En} {e : En} (hr : Rts l) (he : rt e) (hel : e ∈ l) {i : Nat} (hi : i ≤ e.b) (hg : Gone l e i)
    (hstop : i = 0 ∨ (∃ v vs, G l e i i (nk e.a i) = some (v :: vs)) ∨ ∃ m, m / 2 = nk e.a i ∧ G l e i (i + 1) m ≠ none) (b n : Nat) : G l e i b n = X (del e l) b n := by
  have e32 := he.1
  have e0 := nk_zero he.2.1
  -- an entry that is left under the node at depth i
  have hleft : i ≠ 0 → ∃ x, x ∈ del e l ∧ win i (nk e.a i) x = true := by
    intro h0
    rcases hstop with hstop | ⟨v, vs, hstop⟩ | ⟨m, hm, hstop⟩
    · exact (h0 hstop).elim
    · have hm : ∃ x, x ∈ (del e l).filter (atN i (nk e.a i)) := by
        unfold G at hstop
        rw [if_neg (by omega)] at hstop
        have hmem : v ∈ ((del e l).filter (atN i (nk e.a i))).map En.v := by
          split at hstop
          · rename_i h
            rw [del_vals hr he _ _ (atN_iff.2 ⟨h.1.symm, rfl⟩), Option.some.inj hstop]
            exact List.mem_cons_self
          · rename_i h
            have hae : atN i (nk e.a i) e = false := by
              rw [Bool.eq_false_iff]
              intro h'
              rw [atN_iff] at h'
              exact h ⟨h'.1.symm, by rw [h'.1]⟩
            rw [del_other _ _ hae, ← X_some hstop]
            exact List.mem_cons_self
        obtain ⟨x, hx, _⟩ := List.mem_map.1 hmem
        exact ⟨x, hx⟩
      obtain ⟨x, hx⟩ := hm
      obtain ⟨x1, x2⟩ := List.mem_filter.1 hx
      exact ⟨x, x1, at_win x2⟩
    · unfold G at hstop
      split at hstop
      · exact (hstop rfl).elim
      · rename_i hno
        split at hstop
        · rename_i h
          exact (hno ⟨by omega, by omega, by rw [h.1]; exact h.2⟩).elim
        · have hx : ∃ x, x ∈ l ∧ win (i + 1) m x = true := by
            unfold X at hstop
            split at hstop
            · rename_i hc
              rcases hc with hc | hc
              · omega
              · exact List.any_eq_true.1 hc
            · exact (hstop rfl).elim
          obtain ⟨x, hx, hw⟩ := hx
          obtain ⟨w1, w2⟩ := win_iff.1 hw
          have hx32 := (hr x hx).1
          refine ⟨x, mem_del.2 ⟨hx, ?_⟩, win_iff.2 ⟨by omega, by rw [nk_half (by omega), w2, hm]⟩⟩
          rintro rfl
          exact hno ⟨by omega, w1, w2.symm⟩
  by_cases hw : win b n e = true
  · obtain ⟨w1, w2⟩ := win_iff.1 hw
    subst w2
    by_cases hib : i < b
    · have h1 : G l e i b (nk e.a b) = none := by unfold G; rw [if_pos ⟨hib, w1, rfl⟩]
      rw [h1]
      unfold X
      rw [if_neg]
      rintro (h | h)
      · omega
      · obtain ⟨x, hx, hwx⟩ := List.any_eq_true.1 h
        have := hg b hib w1
        rw [List.filter_eq_nil_iff] at this
        exact this x hx hwx
    · have hX : X (del e l) b (nk e.a b) = some (((del e l).filter (atN b (nk e.a b))).map En.v) := by
        by_cases hi0 : i = 0
        · obtain rfl : b = 0 := by omega
          rw [e0]
          exact X_root _
        · obtain ⟨x, hx, hwx⟩ := hleft hi0
          refine X_has hx (win_iff.2 ⟨?_, ?_⟩)
          · have := (win_iff.1 hwx).1
            omega
          · exact nk_le (by omega) (by omega) (win_iff.1 hwx).2
      rw [hX]
      unfold G
      rw [if_neg (fun h => hib h.1)]
      by_cases hb : b = e.b
      · subst hb
        rw [if_pos ⟨rfl, rfl⟩, del_vals hr he _ _ (atN_iff.2 ⟨rfl, rfl⟩)]
      · rw [if_neg (fun h => hb h.1), X_has hel hw, del_other]
        rw [Bool.eq_false_iff]
        intro h'
        rw [atN_iff] at h'
        exact hb h'.1.symm
  · have hwf : win b n e = false := by simpa using hw
    have haf : atN b n e = false := by
      rw [Bool.eq_false_iff]
      exact fun h => hw (at_win h)
    unfold G
    rw [if_neg (fun h => hw (win_iff.2 ⟨h.2.1, h.2.2.symm⟩)), if_neg]
    · unfold X
      rw [off_del hwf, del_other _ _ haf]
    · rintro ⟨h1, h2⟩
      refine hw (win_iff.2 ⟨by omega, ?_⟩)
      rw [h1]
      exact h2.symm
end Go.Proofs.Ytbmibakhpealjaa.TrieP
