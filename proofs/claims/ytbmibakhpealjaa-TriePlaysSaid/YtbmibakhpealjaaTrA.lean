/- The plain law of a trie of entries: what its nodes hold, out of a sorted list. No program, no memory. -/
namespace Go.Proofs.Ytbmibakhpealjaa.TrieP
set_option linter.unusedVariables false
set_option linter.unusedSimpArgs false
structure En where
  a : Nat
  b : Nat
  v : Int
theorem En.ext_ {x y : En} (h1 : x.a = y.a) (h2 : x.b = y.b) (h3 : x.v = y.v) : x = y := by
  cases x; cases y; cases h1; cases h2; cases h3; rfl
instance : DecidableEq En := fun x y => if h : x.a = y.a ∧ x.b = y.b ∧ x.v = y.v then .isTrue (En.ext_ h.1 h.2.1 h.2.2) else .isFalse (fun e => h (by cases e; exact ⟨rfl, rfl, rfl⟩))
def rt (e : En) : Prop := e.b ≤ 32 ∧ e.a < 2 ^ 32 ∧ e.a % 2 ^ (32 - e.b) = 0
def bef (x y : En) : Bool := decide (x.a < y.a ∨ (x.a = y.a ∧ (x.b < y.b ∨ (x.b = y.b ∧ x.v < y.v))))
theorem bef_iff {x y : En} : bef x y = true ↔ x.a < y.a ∨ (x.a = y.a ∧ (x.b < y.b ∨ (x.b = y.b ∧ x.v < y.v))) := by simp [bef]
theorem bef_asymm {x y : En} (h : bef x y = true) (k : bef y x = true) : False := by rw [bef_iff] at h k; omega
theorem bef_trans {x y z : En} (h : bef x y = true) (k : bef y z = true) : bef x z = true := by rw [bef_iff] at *; omega
theorem bef_tri {x y : En} (h : bef x y = false) (k : bef y x = false) : x = y := by
  have h' : ¬ bef x y = true := by simp [h]
  have k' : ¬ bef y x = true := by simp [k]
  rw [bef_iff] at h' k'
  exact En.ext_ (by omega) (by omega) (by omega)
def Srt (l : List En) : Prop := l.Pairwise (fun x y => bef x y = true)
def Rts (l : List En) : Prop := ∀ e ∈ l, rt e
/-- The number of an address' node at depth i. -/
def nk (a i : Nat) : Nat := a / 2 ^ (32 - i)
theorem pow_step {i : Nat} (h : i < 32) : 2 ^ (32 - i) = 2 ^ (32 - (i + 1)) * 2 := by
  rw [← Nat.pow_succ]
  congr 1
  omega
theorem nk_half {a i : Nat} (h : i < 32) : nk a i = nk a (i + 1) / 2 := by
  unfold nk
  rw [pow_step h, Nat.div_div_eq_div_mul]
theorem nk_le {a c i : Nat} : ∀ {j : Nat}, i ≤ j → j ≤ 32 → nk a j = nk c j → nk a i = nk c i := by
  intro j
  induction j with
  | zero =>
    intro h _ e
    obtain rfl : i = 0 := by omega
    exact e
  | succ j ih =>
    intro h hj e
    by_cases hi : i = j + 1
    · subst hi; exact e
    · refine ih (by omega) (by omega) ?_
      rw [nk_half (by omega), nk_half (a := c) (by omega), e]
theorem nk_zero {a : Nat} (h : a < 2 ^ 32) : nk a 0 = 0 := Nat.div_eq_of_lt h
theorem nk_full (a : Nat) : nk a 32 = a := by simp [nk]
/-- Within a node. -/
def win (b n : Nat) (e : En) : Bool := decide (b ≤ e.b) && decide (nk e.a b = n)
/-- At a node. -/
def atN (b n : Nat) (e : En) : Bool := decide (e.b = b) && decide (nk e.a b = n)
theorem win_iff {b n : Nat} {e : En} : win b n e = true ↔ b ≤ e.b ∧ nk e.a b = n := by simp [win]
theorem atN_iff {b n : Nat} {e : En} : atN b n e = true ↔ e.b = b ∧ nk e.a b = n := by simp [atN]
theorem at_win {b n : Nat} {e : En} (h : atN b n e = true) : win b n e = true := by
  rw [atN_iff] at h
  rw [win_iff]
  exact ⟨by omega, h.2⟩
theorem at_addr {b n : Nat} {e : En} (h : atN b n e = true) (hr : rt e) : e = ⟨n * 2 ^ (32 - b), b, e.v⟩ := by
  obtain ⟨h1, h2⟩ := atN_iff.1 h
  obtain ⟨_, _, h3⟩ := hr
  rw [h1] at h3
  unfold nk at h2
  refine En.ext_ ?_ h1 rfl
  have := Nat.div_add_mod e.a (2 ^ (32 - b))
  rw [h2, h3] at this
  show e.a = n * 2 ^ (32 - b)
  rw [Nat.mul_comm]
  omega
theorem win_addr {b n : Nat} {e : En} (h : win b n e = true) : n * 2 ^ (32 - b) ≤ e.a := by
  obtain ⟨_, h2⟩ := win_iff.1 h
  unfold nk at h2
  subst h2
  exact Nat.div_mul_le_self _ _
theorem filter_split {l : List En} (hs : Srt l) (p q : En → Bool) (h : ∀ x ∈ l, ∀ y ∈ l, p x = true → q y = true → bef x y = true) : l.filter (fun e => p e || q e) = l.filter p ++ l.filter q := by
  induction l with
  | nil => rfl
  | cons x l ih =>
    have hs1 : ∀ y ∈ l, bef x y = true := (List.pairwise_cons.1 hs).1
    have ih' := ih (List.pairwise_cons.1 hs).2 (fun a ha b hb => h a (List.mem_cons_of_mem _ ha) b (List.mem_cons_of_mem _ hb))
    cases hp : p x with
    | true =>
      cases hq : q x with
      | true => exact (bef_asymm (h x List.mem_cons_self x List.mem_cons_self hp hq) (h x List.mem_cons_self x List.mem_cons_self hp hq)).elim
      | false => simp [List.filter_cons, hp, hq, ih']
    | false =>
      cases hq : q x with
      | true =>
        have he : l.filter p = [] := by
          rw [List.filter_eq_nil_iff]
          intro y hy hpy
          exact bef_asymm (hs1 y hy) (h y (List.mem_cons_of_mem _ hy) x List.mem_cons_self hpy hq)
        simp only [List.filter_cons, hp, hq, Bool.false_or, if_true, ih', he, List.nil_append]
        rfl
      | false => simp [List.filter_cons, hp, hq, ih']
/-- What the nodes hold. -/
def X (l : List En) (b n : Nat) : Option (List Int) := if (b = 0 ∧ n = 0) ∨ l.any (win b n) = true then some ((l.filter (atN b n)).map En.v) else none
theorem X_none {l : List En} {b n : Nat} (h : X l b n = none) : l.filter (win b n) = [] := by
  unfold X at h
  split at h
  · cases h
  · rename_i hc
    rw [List.filter_eq_nil_iff]
    intro y hy hw
    exact hc (.inr (List.any_eq_true.2 ⟨y, hy, hw⟩))
theorem X_some {l : List En} {b n : Nat} {vs : List Int} (h : X l b n = some vs) : vs = (l.filter (atN b n)).map En.v := by
  unfold X at h
  split at h
  · exact (Option.some.inj h).symm
  · cases h
def ents (b n : Nat) (vs : List Int) : List En := vs.map (fun v => ⟨n * 2 ^ (32 - b), b, v⟩)
theorem ents_at {l : List En} (hr : Rts l) (b n : Nat) : ents b n ((l.filter (atN b n)).map En.v) = l.filter (atN b n) := by
  unfold ents
  rw [List.map_map]
  conv => rhs; rw [← List.map_id (l.filter (atN b n))]
  refine List.map_congr_left (fun e he => ?_)
  obtain ⟨h1, h2⟩ := List.mem_filter.1 he
  exact (at_addr h2 (hr e h1)).symm
/-- The values under a node, in the order of the walk. -/
def lst (F : Nat → Nat → Option (List Int)) : Nat → Nat → Nat → List En
  | 0, b, n => match F b n with
    | none => []
    | some vs => ents b n vs
  | d + 1, b, n => match F b n with
    | none => []
    | some vs => ents b n vs ++ (lst F d (b + 1) (2 * n) ++ lst F d (b + 1) (2 * n + 1))
theorem win_split {b n : Nat} {e : En} (hb : b < 32) : win b n e = (atN b n e || (win (b + 1) (2 * n) e || win (b + 1) (2 * n + 1) e)) := by
  rw [Bool.eq_iff_iff]
  simp only [Bool.or_eq_true, win_iff, atN_iff]
  rw [nk_half hb]
  omega
theorem lst_eq {l : List En} (hs : Srt l) (hr : Rts l) : ∀ d b n, b + d = 32 → lst (X l) d b n = l.filter (win b n) := by
  intro d
  induction d with
  | zero =>
    intro b n hb
    rw [lst]
    cases hX : X l b n with
    | none => exact (X_none hX).symm
    | some vs =>
      rw [X_some hX]
      show ents b n _ = _
      rw [ents_at hr]
      refine List.filter_congr (fun e he => ?_)
      rw [Bool.eq_iff_iff, atN_iff, win_iff]
      have := (hr e he).1
      omega
  | succ d ih =>
    intro b n hb
    rw [lst]
    cases hX : X l b n with
    | none => exact (X_none hX).symm
    | some vs =>
      rw [X_some hX]
      show ents b n _ ++ _ = _
      rw [ents_at hr, ih (b + 1) (2 * n) (by omega), ih (b + 1) (2 * n + 1) (by omega)]
      rw [← filter_split hs, ← filter_split hs]
      · refine List.filter_congr (fun e _ => ?_)
        exact (win_split (by omega)).symm
      · intro x hx y hy h1 h2
        have hx' := at_addr h1 (hr x hx)
        have e1 : x.a = n * 2 ^ (32 - b) := by rw [hx']
        have e2 : x.b = b := (atN_iff.1 h1).1
        have hw : win b n y = true := by rw [win_split (by omega), h2]; simp
        have e3 := win_addr hw
        have e4 : b + 1 ≤ y.b := by
          simp only [Bool.or_eq_true, win_iff] at h2
          omega
        rw [bef_iff]
        omega
      · intro x hx y hy h1 h2
        have a1 := (win_iff.1 h1).2
        have a2 := (win_iff.1 h2).2
        unfold nk at a1 a2
        rw [bef_iff]
        left
        apply Classical.byContradiction
        intro hc
        have := Nat.div_le_div_right (c := 2 ^ (32 - (b + 1))) (show y.a ≤ x.a by omega)
        omega
theorem lst_all {l : List En} (hs : Srt l) (hr : Rts l) : lst (X l) 32 0 0 = l := by
  rw [lst_eq hs hr 32 0 0 rfl]
  rw [List.filter_eq_self]
  intro e he
  rw [win_iff]
  exact ⟨Nat.zero_le _, nk_zero (hr e he).2.1⟩
/-! ### What an address meets -/
/-- Of an entry and a prefix (a, B): is one in the other? -/
def mt (a B : Nat) (e : En) : Bool := (decide (e.b < B) && decide (nk e.a e.b = nk a e.b)) || win B (nk a B) e
theorem mt_nk {a B k : Nat} {e : En} (hB : B ≤ 32) (h : mt a B e = true) (hk : k ≤ e.b) (hkB : k ≤ B) (he : e.b ≤ 32) : nk e.a k = nk a k := by
  unfold mt at h
  simp only [Bool.or_eq_true, Bool.and_eq_true, decide_eq_true_eq, win_iff] at h
  rcases h with ⟨_, h⟩ | ⟨_, h⟩
  · exact nk_le hk he h
  · exact nk_le hkB hB h
theorem meet_from {l : List En} (hs : Srt l) (hr : Rts l) (a B : Nat) (hB : B ≤ 32) : ∀ j k, k + j = B →
    ((List.range' k j).flatMap (fun i => l.filter (atN i (nk a i)))) ++ l.filter (win B (nk a B)) = l.filter (fun e => decide (k ≤ e.b) && mt a B e) := by
  intro j
  induction j with
  | zero =>
    intro k hk
    obtain rfl : k = B := by omega
    simp only [List.range'_zero, List.flatMap_nil, List.nil_append]
    refine List.filter_congr (fun e _ => ?_)
    rw [Bool.eq_iff_iff]
    unfold mt
    simp only [Bool.or_eq_true, Bool.and_eq_true, decide_eq_true_eq, win_iff]
    omega
  | succ j ih =>
    intro k hk
    rw [List.range'_succ, List.flatMap_cons, List.append_assoc, ih (k + 1) (by omega), ← filter_split hs]
    · refine List.filter_congr (fun e _ => ?_)
      rw [Bool.eq_iff_iff]
      simp only [Bool.or_eq_true, Bool.and_eq_true, decide_eq_true_eq, atN_iff]
      constructor
      · rintro (⟨h1, h2⟩ | ⟨h1, h2⟩)
        · refine ⟨by omega, ?_⟩
          unfold mt
          simp only [Bool.or_eq_true, Bool.and_eq_true, decide_eq_true_eq]
          left
          rw [h1]
          exact ⟨by omega, h2⟩
        · exact ⟨by omega, h2⟩
      · rintro ⟨h1, h2⟩
        by_cases he : e.b = k
        · left
          refine ⟨he, ?_⟩
          unfold mt at h2
          simp only [Bool.or_eq_true, Bool.and_eq_true, decide_eq_true_eq, win_iff] at h2
          rcases h2 with ⟨_, h2⟩ | ⟨h2, _⟩
          · rw [he] at h2; exact h2
          · omega
        · exact .inr ⟨by omega, h2⟩
    · intro x hx y hy h1 h2
      simp only [Bool.and_eq_true, decide_eq_true_eq] at h2
      have hx' := at_addr h1 (hr x hx)
      have e1 : x.a = nk a k * 2 ^ (32 - k) := by rw [hx']
      have e2 : x.b = k := (atN_iff.1 h1).1
      have hn := mt_nk hB h2.2 (show k ≤ y.b by omega) (by omega) (hr y hy).1
      have e3 := win_addr (b := k) (n := nk a k) (e := y) (win_iff.2 ⟨by omega, hn⟩)
      rw [bef_iff]
      omega
theorem meet_eq {l : List En} (hs : Srt l) (hr : Rts l) (a B : Nat) (hB : B ≤ 32) :
    ((List.range B).flatMap (fun i => l.filter (atN i (nk a i)))) ++ l.filter (win B (nk a B)) = l.filter (mt a B) := by
  rw [List.range_eq_range', meet_from hs hr a B hB B 0 (by omega)]
  refine List.filter_congr (fun e _ => by simp)
/-! ### Putting an entry -/
def ins (e : En) : List En → List En
  | [] => [e]
  | x :: l => if bef x e = true then x :: ins e l else e :: x :: l
theorem mem_ins {e x : En} {l : List En} : x ∈ ins e l ↔ x = e ∨ x ∈ l := by
  induction l with
  | nil => simp [ins]
  | cons y l ih =>
    rw [ins]
    split
    · simp only [List.mem_cons, ih]
      constructor
      · rintro (h | h | h)
        · exact .inr (.inl h)
        · exact .inl h
        · exact .inr (.inr h)
      · rintro (h | h | h)
        · exact .inr (.inl h)
        · exact .inl h
        · exact .inr (.inr h)
    · simp
theorem ins_srt {e : En} {l : List En} (hs : Srt l) (hn : e ∉ l) : Srt (ins e l) := by
  induction l with
  | nil => simp [ins, Srt]
  | cons y l ih =>
    obtain ⟨h1, h2⟩ := List.pairwise_cons.1 hs
    rw [ins]
    split
    · rename_i hb
      refine List.pairwise_cons.2 ⟨fun z hz => ?_, ih h2 (fun h => hn (List.mem_cons_of_mem _ h))⟩
      rcases mem_ins.1 hz with rfl | hz
      · exact hb
      · exact h1 z hz
    · rename_i hb
      have hye : bef e y = true := by
        cases hc : bef e y with
        | true => rfl
        | false => exact (hn (by rw [bef_tri hc (by simpa using hb)]; exact List.mem_cons_self)).elim
      refine List.pairwise_cons.2 ⟨fun z hz => ?_, hs⟩
      rcases List.mem_cons.1 hz with rfl | hz
      · exact hye
      · exact bef_trans hye (h1 z hz)
theorem ins_len {e : En} {l : List En} : (ins e l).length = l.length + 1 := by
  induction l with
  | nil => rfl
  | cons y l ih =>
    rw [ins]
    split
    · simp [ih]
    · simp
def insI (v : Int) : List Int → List Int
  | [] => [v]
  | x :: l => if x < v then x :: insI v l else v :: x :: l
theorem vals_srt {l : List En} (hs : Srt l) (hr : Rts l) (b n : Nat) : ((l.filter (atN b n)).map En.v).Pairwise (· < ·) := by
  rw [List.pairwise_map]
  refine List.Pairwise.imp_of_mem ?_ (List.Pairwise.filter _ hs)
  intro x y hx hy h
  obtain ⟨hx1, hx2⟩ := List.mem_filter.1 hx
  obtain ⟨hy1, hy2⟩ := List.mem_filter.1 hy
  have e1 := at_addr hx2 (hr x hx1)
  have e2 := at_addr hy2 (hr y hy1)
  have a1 : x.a = y.a := by rw [e1, e2]
  have b1 : x.b = y.b := by rw [e1, e2]
  rw [bef_iff] at h
  omega
theorem ins_vals {e : En} {l : List En} (hs : Srt l) (hr : Rts l) (he : rt e) (hn : e ∉ l) (b n : Nat) (h : atN b n e = true) : ((ins e l).filter (atN b n)).map En.v = insI e.v ((l.filter (atN b n)).map En.v) := by
  induction l with
  | nil => simp [ins, h, insI]
  | cons y l ih =>
    obtain ⟨h1, h2⟩ := List.pairwise_cons.1 hs
    have ih' := ih h2 (fun z hz => hr z (List.mem_cons_of_mem _ hz)) (fun hm => hn (List.mem_cons_of_mem _ hm))
    have same : ∀ z, z ∈ y :: l → atN b n z = true → z.a = e.a ∧ z.b = e.b := by
      intro z hz hzn
      have e1 := at_addr hzn (hr z hz)
      have e2 := at_addr h he
      exact ⟨by rw [e1, e2], by rw [e1, e2]⟩
    rw [ins]
    split
    · rename_i hb
      cases hy : atN b n y with
      | true =>
        obtain ⟨a1, b1⟩ := same y List.mem_cons_self hy
        have hv : y.v < e.v := by rw [bef_iff] at hb; omega
        simp only [List.filter_cons, hy, if_true, List.map_cons, insI, if_pos hv, ih']
      | false => simp only [List.filter_cons, hy, Bool.false_eq_true, if_false, ih']
    · rename_i hb
      have hge : ∀ z, z ∈ y :: l → atN b n z = true → ¬ z.v < e.v := by
        intro z hz hzn hlt
        obtain ⟨a1, b1⟩ := same z hz hzn
        have hze : bef z e = true := bef_iff.2 (by omega)
        rcases List.mem_cons.1 hz with rfl | hz
        · exact hb hze
        · exact hb (bef_trans (h1 z hz) hze)
      rw [List.filter_cons, if_pos h, List.map_cons]
      cases hf : (y :: l).filter (atN b n) with
      | nil => rfl
      | cons z r =>
        have hz : z ∈ (y :: l).filter (atN b n) := by rw [hf]; exact List.mem_cons_self
        obtain ⟨z1, z2⟩ := List.mem_filter.1 hz
        rw [List.map_cons, insI, if_neg (hge z z1 z2)]
theorem ins_other {e : En} {l : List En} (b n : Nat) (h : atN b n e = false) : (ins e l).filter (atN b n) = l.filter (atN b n) := by
  induction l with
  | nil => simp [ins, h]
  | cons y l ih =>
    rw [ins]
    split
    · simp only [List.filter_cons, ih]
    · rw [List.filter_cons, h]
      simp
theorem ins_any {e : En} {l : List En} (p : En → Bool) : (ins e l).any p = (p e || l.any p) := by
  rw [Bool.eq_iff_iff]
  simp only [Bool.or_eq_true, List.any_eq_true]
  constructor
  · rintro ⟨x, hx, hp⟩
    rcases mem_ins.1 hx with rfl | hx
    · exact .inl hp
    · exact .inr ⟨x, hx, hp⟩
  · rintro (h | ⟨x, hx, hp⟩)
    · exact ⟨e, mem_ins.2 (.inl rfl), h⟩
    · exact ⟨x, mem_ins.2 (.inr hx), hp⟩
/-! ### Taking an entry -/
def del (e : En) (l : List En) : List En := l.filter (fun x => decide (x ≠ e))
theorem mem_del {e x : En} {l : List En} : x ∈ del e l ↔ x ∈ l ∧ x ≠ e := by simp [del]
theorem del_srt {e : En} {l : List En} (hs : Srt l) : Srt (del e l) := List.Pairwise.filter _ hs
theorem del_not {e : En} {l : List En} (h : e ∉ l) : del e l = l := by
  unfold del
  rw [List.filter_eq_self]
  intro x hx
  simp only [decide_eq_true_eq]
  rintro rfl
  exact h hx
theorem del_len {e : En} {l : List En} (hs : Srt l) (h : e ∈ l) : (del e l).length + 1 = l.length := by
  induction l with
  | nil => cases h
  | cons y l ih =>
    obtain ⟨h1, h2⟩ := List.pairwise_cons.1 hs
    by_cases hy : y = e
    · subst hy
      have : y ∉ l := fun hm => bef_asymm (h1 y hm) (h1 y hm)
      have hd := del_not this
      unfold del at hd ⊢
      rw [List.filter_cons, if_neg (by simp), hd]
      rfl
    · have hm : e ∈ l := by
        rcases List.mem_cons.1 h with rfl | h
        · exact (hy rfl).elim
        · exact h
      have := ih h2 hm
      unfold del at this ⊢
      rw [List.filter_cons, if_pos (by simpa using hy), List.length_cons, List.length_cons]
      omega
/-- Sorted lists of the same entries are one. -/
theorem srt_ext {l : List En} : ∀ {m : List En}, Srt l → Srt m → (∀ x, x ∈ l ↔ x ∈ m) → l = m := by
  induction l with
  | nil =>
    intro m _ _ h
    cases m with
    | nil => rfl
    | cons y m => exact absurd ((h y).2 List.mem_cons_self) (by simp)
  | cons x l ih =>
    intro m hl hm h
    obtain ⟨x1, x2⟩ := List.pairwise_cons.1 hl
    cases m with
    | nil => exact absurd ((h x).1 List.mem_cons_self) (by simp)
    | cons y m =>
      obtain ⟨y1, y2⟩ := List.pairwise_cons.1 hm
      have hxy : x = y := by
        rcases List.mem_cons.1 ((h x).1 List.mem_cons_self) with e | hx
        · exact e
        · rcases List.mem_cons.1 ((h y).2 List.mem_cons_self) with e | hy
          · exact e.symm
          · exact (bef_asymm (x1 y hy) (y1 x hx)).elim
      subst hxy
      rw [ih x2 y2 (fun z => ?_)]
      constructor
      · intro hz
        rcases List.mem_cons.1 ((h z).1 (List.mem_cons_of_mem _ hz)) with e | hz'
        · subst e; exact (bef_asymm (x1 z hz) (x1 z hz)).elim
        · exact hz'
      · intro hz
        rcases List.mem_cons.1 ((h z).2 (List.mem_cons_of_mem _ hz)) with e | hz'
        · subst e; exact (bef_asymm (y1 z hz) (y1 z hz)).elim
        · exact hz'
/-! ### How many nodes -/
def sz (F : Nat → Nat → Option (List Int)) : Nat → Nat → Nat → Nat
  | 0, b, n => match F b n with
    | none => 0
    | some _ => 1
  | d + 1, b, n => match F b n with
    | none => 0
    | some _ => 1 + sz F d (b + 1) (2 * n) + sz F d (b + 1) (2 * n + 1)
/-- How many different numbers. -/
def dc : List Nat → Nat
  | [] => 0
  | x :: l => (if x ∈ l then 0 else 1) + dc l
theorem dc_split (p : Nat → Bool) (l : List Nat) : dc l = dc (l.filter p) + dc (l.filter (fun x => !p x)) := by
  induction l with
  | nil => rfl
  | cons x l ih =>
    cases hp : p x with
    | true =>
      have e : (x ∈ l.filter p) ↔ x ∈ l := by simp [List.mem_filter, hp]
      simp only [List.filter_cons, hp, if_true, Bool.not_true, Bool.false_eq_true, if_false, dc, e]
      omega
    | false =>
      have e : (x ∈ l.filter (fun x => !p x)) ↔ x ∈ l := by simp [List.mem_filter, hp]
      simp only [List.filter_cons, hp, Bool.not_false, if_true, Bool.false_eq_true, if_false, dc, e]
      omega
theorem dc_one (x : Nat) (l : List Nat) (h : ∀ y ∈ l, y = x) : dc l = if l = [] then 0 else 1 := by
  induction l with
  | nil => rfl
  | cons y l ih =>
    have hy := h y List.mem_cons_self
    subst hy
    have ih' := ih (fun z hz => h z (List.mem_cons_of_mem _ hz))
    rw [dc, ih']
    cases l with
    | nil => simp
    | cons z l =>
      have hz := h z (by simp)
      subst hz
      simp
/-- The nodes at depth c under a node (b, n). -/
def lev (l : List En) (b n c : Nat) : List Nat := ((l.filter (win b n)).filter (fun e => decide (c ≤ e.b))).map (fun e => nk e.a c)
def sumTo (f : Nat → Nat) : Nat → Nat
  | 0 => f 0
  | d + 1 => sumTo f d + f (d + 1)
theorem sumTo_add (f g : Nat → Nat) (d : Nat) : sumTo (fun j => f j + g j) d = sumTo f d + sumTo g d := by
  induction d with
  | zero => rfl
  | succ d ih => simp only [sumTo, ih]; omega
theorem sumTo_congr {f g : Nat → Nat} {d : Nat} (h : ∀ j, j ≤ d → f j = g j) : sumTo f d = sumTo g d := by
  induction d with
  | zero => exact h 0 (Nat.le_refl _)
  | succ d ih => simp only [sumTo, ih (fun j hj => h j (by omega)), h (d + 1) (Nat.le_refl _)]
theorem sumTo_front (f : Nat → Nat) (d : Nat) : sumTo f (d + 1) = f 0 + sumTo (fun j => f (j + 1)) d := by
  induction d with
  | zero => rfl
  | succ d ih => rw [sumTo, ih]; simp only [sumTo]; omega
theorem sumTo_zero (d : Nat) : sumTo (fun _ => 0) d = 0 := by
  induction d with
  | zero => rfl
  | succ d ih => simp [sumTo, ih]
theorem lev_kids {l : List En} (hr : Rts l) {b n c : Nat} (hb : b < c) (hc : c ≤ 32) : dc (lev l b n c) = dc (lev l (b + 1) (2 * n) c) + dc (lev l (b + 1) (2 * n + 1) c) := by
  rw [dc_split (fun x => decide (x / 2 ^ (c - (b + 1)) = 2 * n)) (lev l b n c)]
  have hnk : ∀ e : En, nk e.a c / 2 ^ (c - (b + 1)) = nk e.a (b + 1) := by
    intro e
    unfold nk
    rw [Nat.div_div_eq_div_mul, ← Nat.pow_add]
    congr 2
    omega
  congr 2
  · unfold lev
    rw [List.filter_map]
    congr 1
    rw [List.filter_filter, List.filter_filter, List.filter_filter]
    refine List.filter_congr (fun e he => ?_)
    rw [Bool.eq_iff_iff]
    simp only [Bool.and_eq_true, decide_eq_true_eq, win_iff, Function.comp, hnk]
    rw [nk_half (show b < 32 by omega)]
    omega
  · unfold lev
    rw [List.filter_map]
    congr 1
    rw [List.filter_filter, List.filter_filter, List.filter_filter]
    refine List.filter_congr (fun e he => ?_)
    rw [Bool.eq_iff_iff]
    simp only [Bool.and_eq_true, decide_eq_true_eq, win_iff, Function.comp, hnk, Bool.not_eq_true', decide_eq_false_iff_not]
    rw [nk_half (show b < 32 by omega)]
    omega
theorem lev_nil {l : List En} {b n c : Nat} (h : l.filter (win b n) = []) : lev l b n c = [] := by unfold lev; rw [h]; rfl
theorem lev_self {l : List En} {b n : Nat} (h : l.filter (win b n) ≠ []) : dc (lev l b n b) = 1 := by
  rw [dc_one n]
  · rw [if_neg]
    intro e
    apply h
    unfold lev at e
    rw [List.map_eq_nil_iff, List.filter_eq_nil_iff] at e
    rw [List.filter_eq_nil_iff]
    intro x hx hw
    have := e x (List.mem_filter.2 ⟨hx, hw⟩)
    rw [win_iff] at hw
    simp at this
    omega
  · intro y hy
    unfold lev at hy
    obtain ⟨e, he, rfl⟩ := List.mem_map.1 hy
    exact (win_iff.1 (List.mem_filter.1 (List.mem_filter.1 he).1).2).2
theorem sz_below {l : List En} (hr : Rts l) : ∀ d b n, b + d = 32 → 0 < b → sz (X l) d b n = sumTo (fun j => dc (lev l b n (b + j))) d := by
  have hX : ∀ b n, 0 < b → (∃ vs, X l b n = some vs) → l.filter (win b n) ≠ [] := by
    rintro b n hb ⟨vs, h⟩ e
    unfold X at h
    split at h
    · rename_i hc
      rcases hc with hc | hc
      · omega
      · obtain ⟨x, hx, hw⟩ := List.any_eq_true.1 hc
        rw [List.filter_eq_nil_iff] at e
        exact e x hx hw
    · cases h
  intro d
  induction d with
  | zero =>
    intro b n hb h0
    rw [sz]
    cases h : X l b n with
    | none =>
      show 0 = dc (lev l b n (b + 0))
      rw [lev_nil (X_none h)]
      rfl
    | some vs =>
      show 1 = dc (lev l b n (b + 0))
      exact (lev_self (hX b n h0 ⟨vs, h⟩)).symm
  | succ d ih =>
    intro b n hb h0
    rw [sz]
    cases h : X l b n with
    | none =>
      have e := X_none h
      show 0 = _
      rw [sumTo_congr (g := fun _ => 0) (fun j _ => by rw [lev_nil e]; rfl), sumTo_zero]
    | some vs =>
      show 1 + _ + _ = _
      rw [ih (b + 1) (2 * n) (by omega) (by omega), ih (b + 1) (2 * n + 1) (by omega) (by omega), sumTo_front]
      rw [show dc (lev l b n (b + 0)) = 1 from lev_self (hX b n h0 ⟨vs, h⟩)]
      rw [Nat.add_assoc, ← sumTo_add]
      congr 1
      refine sumTo_congr (fun j hj => ?_)
      rw [show b + (j + 1) = b + 1 + j by omega]
      exact (lev_kids hr (by omega) (by omega)).symm
/-- All nodes: the one of all addresses, and at each depth as many as there are different heads of addresses. -/
def heads (l : List En) (c : Nat) : List Nat := (l.filter (fun e => decide (c ≤ e.b))).map (fun e => nk e.a c)
theorem sz_all {l : List En} (hr : Rts l) : sz (X l) 32 0 0 = 1 + sumTo (fun j => dc (heads l (j + 1))) 31 := by
  rw [sz]
  have h : X l 0 0 = some ((l.filter (atN 0 0)).map En.v) := by unfold X; rw [if_pos (.inl ⟨rfl, rfl⟩)]
  rw [h]
  show 1 + _ + _ = _
  rw [sz_below hr 31 1 _ rfl (by omega), sz_below hr 31 1 _ rfl (by omega), Nat.add_assoc, ← sumTo_add]
  congr 1
  refine sumTo_congr (fun j hj => ?_)
  rw [show 1 + j = j + 1 by omega, ← lev_kids (n := 0) (b := 0) hr (by omega) (by omega)]
  congr 1
  unfold lev heads
  congr 1
  rw [List.filter_filter]
  refine List.filter_congr (fun e he => ?_)
  rw [Bool.eq_iff_iff]
  simp only [Bool.and_eq_true, decide_eq_true_eq, win_iff]
  have := nk_zero (hr e he).2.1
  omega
end Go.Proofs.Ytbmibakhpealjaa.TrieP
