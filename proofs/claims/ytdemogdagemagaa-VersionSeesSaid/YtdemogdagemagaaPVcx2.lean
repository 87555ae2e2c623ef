-- The walks of the chain's functions (version), by hand; the library's few by the print.
import Derived.Test.YtdemogdagemagaaPVcx0
namespace Go.Proofs.Ytdemogdagemagaa.PVc
open Go.RowKit Go.Proofs.YtdemogdagemagaaW.PrintWords Go.Proofs.YtdemogdagemagaaW.PrintLast Go.Proofs.YtdemogdagemagaaW.PrintMore
attribute [local go_sem] max2_int min2_int max_two min_two max_three min_three max_four min_four   -- for this text's walks alone
set_option linter.unusedVariables false
set_option linter.unusedSimpArgs false

/-- Values 0, 1, .. that were published at these epochs. -/
def itemsFrom : List Int → Nat → List S96
  | [], _ => []
  | e :: l, k => ⟨e, (k : Int)⟩ :: itemsFrom l (k + 1)
theorem itemsFrom_length (es : List Int) : ∀ k, (itemsFrom es k).length = es.length := by
  induction es with
  | nil => intro k; rfl
  | cons e l ih => intro k; simp [itemsFrom, ih]
theorem itemsFrom_snoc (es : List Int) (x : Int) : ∀ k, itemsFrom (es ++ [x]) k = itemsFrom es k ++ [⟨x, ((k + es.length : Nat) : Int)⟩] := by
  induction es with
  | nil => intro k; simp [itemsFrom]
  | cons e l ih => intro k; simp [itemsFrom, ih]; omega
theorem itemsFrom_rd (es : List Int) : ∀ (k j : Nat) (h : j < es.length), (itemsFrom es k).getD j z96 = ⟨es[j], ((k + j : Nat) : Int)⟩ := by
  induction es with
  | nil => intro k j h; simp at h
  | cons e l ih =>
    intro k j h
    cases j with
    | zero => simp [itemsFrom]
    | succ j =>
      have := ih (k + 1) j (by simpa using h)
      simp only [itemsFrom, List.getD_cons_succ, this, List.getElem_cons_succ]
      congr 1
      omega
theorem items_at (es : List Int) (j : Nat) (h : j < es.length) : rd_T96 (itemsFrom es 0) (j : Int) = ⟨es[j], (j : Int)⟩ := by
  unfold rd_T96
  rw [show ((j : Int)).toNat = j by omega, itemsFrom_rd es 0 j h]
  simp
def Inc (es : List Int) : Prop := es.Pairwise (· < ·)
theorem Inc.lt {es : List Int} (h : Inc es) {i j : Nat} (hj : j < es.length) (hij : i < j) : es[i] < es[j] := List.pairwise_iff_getElem.1 h i j (by omega) hj hij
theorem at_items {es : List Int} (h : Inc es) (j : Nat) : ∀ n, (hn : n ≤ es.length) → (hj : j < n) → atGo (itemsFrom es 0) (es[j]) n = (j : Int) := by
  intro n
  induction n with
  | zero => intro _ hj; omega
  | succ n ih =>
    intro hn hj
    unfold atGo
    rw [items_at es n (by omega)]
    by_cases e : n = j
    · subst e
      rw [if_pos (Int.le_refl _)]
    · rw [if_neg (by have := h.lt (i := j) (j := n) (by omega) (by omega); simp only []; omega)]
      exact ih (by omega) (by omega)
theorem atE_items {es : List Int} (h : Inc es) (j : Nat) (hj : j < es.length) : atE (itemsFrom es 0) (es[j]) = (j : Int) := at_items h j _ (by rw [itemsFrom_length]; exact Nat.le_refl _) (by rw [itemsFrom_length]; exact hj)
theorem lastE_items {es : List Int} (hn : 0 < es.length) : lastE (itemsFrom es 0) = es[es.length - 1] := by
  unfold lastE
  rw [itemsFrom_length, show ((es.length : Int) - 1) = ((es.length - 1 : Nat) : Int) by omega, items_at es _ (by omega)]
theorem nowV_items {es : List Int} (hn : 0 < es.length) : nowV (itemsFrom es 0) = ((es.length - 1 : Nat) : Int) := by
  unfold nowV
  rw [itemsFrom_length, show ((es.length : Int) - 1) = ((es.length - 1 : Nat) : Int) by omega, items_at es _ (by omega)]
theorem atE_top {es : List Int} (hn : 0 < es.length) (a : Int) (ha : es[es.length - 1] ≤ a) : atE (itemsFrom es 0) a = ((es.length - 1 : Nat) : Int) := by
  unfold atE
  rw [itemsFrom_length]
  obtain ⟨m, hm⟩ : ∃ m, es.length = m + 1 := ⟨es.length - 1, by omega⟩
  rw [hm]
  unfold atGo
  rw [items_at es m (by omega), if_pos (by simp only [hm] at ha; exact ha)]
  simp
theorem retGo_all (s : Int → Bool) : ∀ (l : List S96) (k : Nat), (∀ j, j < l.length → s ((k + j : Nat) : Int) = true) → retGo s l k = l
  | [], _, _ => rfl
  | x :: l, k, h => by
    unfold retGo
    rw [if_pos (by have := h 0 (by simp); simpa using this), retGo_all s l (k + 1) (fun j hj => by have := h (j + 1) (by simpa using hj); rw [show k + 1 + j = k + (j + 1) by omega]; exact this)]
theorem dropLast_mem {es : List Int} {j : Nat} (h : j < es.length - 1) : es[j]'(by omega) ∈ es.dropLast := by
  rw [List.mem_iff_getElem]
  exact ⟨j, by simpa using h, by simp⟩
theorem retire_items {es : List Int} (h : Inc es) (hn : 0 < es.length) : retireE (itemsFrom es 0) es.dropLast = itemsFrom es 0 := by
  unfold retireE
  apply retGo_all
  intro j hj
  rw [itemsFrom_length] at hj
  rw [Nat.zero_add]
  unfold keepB
  rw [itemsFrom_length]
  by_cases e : j = es.length - 1
  · simp [show (j : Int) = (es.length : Int) - 1 by omega]
  · rw [Bool.or_eq_true]
    refine .inr (List.any_eq_true.2 ⟨es[j], dropLast_mem (by omega), ?_⟩)
    simp [atE_items h j hj]
theorem has_items {es : List Int} (hn : 0 < es.length) (j : Nat) (hj : j < es.length) : hasE (itemsFrom es 0) es.dropLast es[j] = true := by
  unfold hasE
  rw [Bool.or_eq_true, lastE_items hn]
  by_cases e : j = es.length - 1
  · subst e
    exact .inl (decide_eq_true (Int.le_refl _))
  · exact .inr (decide_eq_true (dropLast_mem (by omega)))
theorem get_items {es : List Int} (h : Inc es) (j : Nat) (hj : j < es.length) : getE (itemsFrom es 0) es.dropLast es[j] = ((j : Int), true) := by
  unfold getE
  rw [if_pos (has_items (by omega) j hj), atE_items h j hj, if_neg (by omega), items_at es j hj]
theorem get_top {es : List Int} (hn : 0 < es.length) (a : Int) (ha : es[es.length - 1] ≤ a) : getE (itemsFrom es 0) es.dropLast a = (((es.length - 1 : Nat) : Int), true) := by
  unfold getE
  rw [if_pos (by unfold hasE; rw [lastE_items hn]; simp [ha]), atE_top hn a ha, if_neg (by omega), items_at es _ (by omega)]
theorem pin_items {es : List Int} (hn : 0 < es.length) (h0 : 0 ≤ es[es.length - 1]) : pinE (itemsFrom es 0) es.dropLast es[es.length - 1] = (0, es) := by
  unfold pinE
  rw [if_pos ⟨h0, has_items hn _ _⟩]
  congr 1
  rw [← List.getLast_eq_getElem (List.ne_nil_of_length_pos hn)]
  exact List.dropLast_concat_getLast _
theorem pub_items {es : List Int} (h : Inc es) (hn : 0 < es.length) (x : Int) (hx : es[es.length - 1] < x) (hi : Inc (es ++ [x])) : pubE (itemsFrom es 0) es x ((es.length : Nat) : Int) = (0, itemsFrom (es ++ [x]) 0) := by
  unfold pubE
  rw [lastE_items hn, if_neg (by omega)]
  congr 1
  have e : itemsFrom es 0 ++ [⟨x, ((es.length : Nat) : Int)⟩] = itemsFrom (es ++ [x]) 0 := by rw [itemsFrom_snoc]; simp
  rw [e]
  have := retire_items hi (by simp)
  rw [List.dropLast_concat] at this
  exact this
theorem pub_again {es : List Int} (hn : 0 < es.length) (ps : List Int) (v : Int) : pubE (itemsFrom es 0) ps es[es.length - 1] v = (5, itemsFrom es 0) := by
  unfold pubE
  rw [lastE_items hn, if_pos (Int.le_refl _)]
theorem inc_snoc {es : List Int} (h : Inc es) (hn : 0 < es.length) (x : Int) (hx : es[es.length - 1] < x) : Inc (es ++ [x]) := by
  unfold Inc
  rw [List.pairwise_append]
  refine ⟨h, by simp, fun a ha b hb => ?_⟩
  obtain rfl := List.mem_singleton.1 hb
  obtain ⟨j, hj, rfl⟩ := List.mem_iff_getElem.1 ha
  by_cases e : j = es.length - 1
  · subst e; exact hx
  · exact Int.lt_trans (h.lt (by omega) (by omega)) hx
def lst (es : List Int) : Int := es.getD (es.length - 1) 0
theorem lst_eq {es : List Int} (hn : 0 < es.length) : lst es = es[es.length - 1] := by unfold lst; rw [List.getD_eq_getElem?_getD, List.getElem?_eq_getElem (by omega)]; rfl
theorem lst_snoc (es : List Int) (x : Int) : lst (es ++ [x]) = x := by simp [lst, List.getD]
theorem pin_lst {es : List Int} (hn : 0 < es.length) (h0 : 0 ≤ lst es) : pinE (itemsFrom es 0) es.dropLast (lst es) = (0, es) := by
  rw [lst_eq hn] at h0 ⊢
  exact pin_items hn h0
theorem pub_lst {es : List Int} (h : Inc es) (hn : 0 < es.length) (x : Int) (hx : lst es < x) : pubE (itemsFrom es 0) es x ((es.length : Nat) : Int) = (0, itemsFrom (es ++ [x]) 0) := by
  rw [lst_eq hn] at hx
  exact pub_items h hn x hx (inc_snoc h hn x hx)
theorem pub2_lst (es : List Int) (x v : Int) (ps : List Int) : pubE (itemsFrom (es ++ [x]) 0) ps x v = (5, itemsFrom (es ++ [x]) 0) := by
  have := pub_again (es := es ++ [x]) (by simp) ps v
  rw [← lst_eq (by simp), lst_snoc] at this
  exact this
theorem inc_lst {es : List Int} (h : Inc es) (hn : 0 < es.length) (x : Int) (hx : lst es < x) : Inc (es ++ [x]) := inc_snoc h hn x (by rw [lst_eq hn] at hx; exact hx)
theorem get_lst {es : List Int} (hn : 0 < es.length) (a : Int) (ha : lst es ≤ a) : getE (itemsFrom es 0) es.dropLast a = (((es.length - 1 : Nat) : Int), true) := get_top hn a (by rw [lst_eq hn] at ha; exact ha)
theorem get_rd {es : List Int} (h : Inc es) (j : Nat) (hj : j < es.length) : getE (itemsFrom es 0) es.dropLast (rd es (j : Int)) = ((j : Int), true) := by
  have : rd es (j : Int) = es[j] := by simp [rd, List.getD, hj]
  rw [this]
  exact get_items h j hj


/-- A chain and another row of integers of the call's own, apart. -/
def Two (w wr : World) (g : Nat) (its : List S96) (ps : List Int) (v : Value) (es : List Int) : Prop := ∃ S T, Chn w wr S g its ps ∧ (Kd.int .i64).R 3 wr w.heap.size T v es ∧ (∀ k, S k → ¬ T k) ∧ Below w.heap.size w wr
theorem Two.bl {w wr : World} {g : Nat} {its : List S96} {ps : List Int} {v : Value} {es : List Int} (h : Two w wr g its ps v es) : Below w.heap.size w wr := by
  obtain ⟨S, T, hC, hR, hd, hB⟩ := h
  exact hB
theorem Two.view {w wr : World} {g : Nat} {its : List S96} {ps : List Int} {v : Value} {es : List Int} (h : Two w wr g its ps v es) : View wr g its ps := by
  obtain ⟨S, T, hC, hR, hd, hB⟩ := h
  exact hC.view
theorem Two.below {w wr w1 : World} {g : Nat} {its : List S96} {ps : List Int} {v : Value} {es : List Int} (h : Two w wr g its ps v es) (hb : Below wr.heap.size wr w1) : Two w w1 g its ps v es := by
  obtain ⟨S, T, hC, hR, hd, hB⟩ := h
  exact ⟨S, T, hC.below hb, Kd.R_below hR hb, hd, below_step hB hb⟩
theorem Two.done {w wr w1 : World} {S T : Nat → Prop} {g : Nat} {its2 : List S96} {ps2 : List Int} {v : Value} {es : List Int} (hR : (Kd.int .i64).R 3 wr w.heap.size T v es) (hd : ∀ k, S k → ¬ T k) (h : Done w wr w1 S g its2 ps2) : Two w w1 g its2 ps2 v es :=
  ⟨_, fun k => T k ∧ k < wr.heap.size, h.chn, Kd.R_step (Kd.R_mono (Kd.R_bound hR) (fun _ hk => ⟨hk.1, hk.2.2.1⟩)) (fun k hk hlt => h.2.2.2 k hlt (fun hs => hd k hs hk.1)), fun k hk hT => hk.elim (fun hs => hd k hs hT.1) (fun hs => by have := hT.2; omega), h.bl⟩
theorem two_pin (g : Nat) (its : List S96) (ps : List Int) (v : Value) (es : List Int) (a1 r : Int) (ps2 : List Int) (w0 w : World) (hC : Two w0 w g its ps v es) (h0 : 0 < its.length) (h1 : its.length ≤ 1000000) (h2 : ps.length < 1000000) (h : pinE its ps a1 = (r, ps2)) :
    Calls Try.prog 29 #[.pointer (some ⟨g, 0, none⟩), .int .i64 a1] w fun e w' => e = .returned (.int .i64 r) ∧ Two w0 w' g its ps2 v es := by
  obtain ⟨S, T, hc, hR, hd, hb⟩ := hC
  refine (pin_.calls g S its ps a1 r ps2 w0 w hc hb h0 h1 h2 h).mono ?_
  rintro e w' ⟨rfl, h⟩
  exact ⟨rfl, Two.done hR hd h⟩
theorem two_publish (g : Nat) (its its2 : List S96) (ps : List Int) (v : Value) (es : List Int) (a1 a2 r : Int) (w0 w : World) (hC : Two w0 w g its ps v es) (h0 : 0 < its.length) (h1 : its.length < 1000000) (h2 : ps.length ≤ 1000000) (h : pubE its ps a1 a2 = (r, its2)) :
    Calls Try.prog 27 #[.pointer (some ⟨g, 0, none⟩), .int .i64 a1, .int .i64 a2] w fun e w' => e = .returned (.int .i64 r) ∧ Two w0 w' g its2 ps v es := by
  obtain ⟨S, T, hc, hR, hd, hb⟩ := hC
  refine (publish_.calls g S its its2 ps a1 a2 r w0 w hc hb h0 h1 h2 h).mono ?_
  rintro e w' ⟨rfl, h⟩
  exact ⟨rfl, Two.done hR hd h⟩
/-- The other row has been appended to. -/
theorem Two.append {w wr w1 : World} {S T : Nat → Prop} {g : Nat} {its : List S96} {ps : List Int} {v v1 : Value} {es es1 : List Int} (hC : Chn w wr S g its ps) (hR : (Kd.int .i64).R 3 wr w.heap.size T v es) (hd : ∀ k, S k → ¬ T k) (ho : (Kd.int .i64).R 3 w1 w.heap.size (fun k => T k ∨ wr.heap.size ≤ k) v1 es1) (hb : Below w.heap.size w w1) (hg : wr.grownBy w1 v.ownBlock) : Two w w1 g its ps v1 es1 := by
  refine ⟨fun k => S k ∧ k < wr.heap.size, _, Chn.kept (Chn.mono hC.bound (fun k hk => ⟨hk.1, hk.2.2⟩)) (Kept.of_grown (S := fun k => some k = v.ownBlock) hg (Kept.refl _ _) (fun k hk => .inl hk.symm)) (fun k hk he => hd k hk.1 (hR.1 k he.symm)), ho, fun k hk hT => hT.elim (fun ht => hd k hk.1 ht) (fun ht => by have := hk.2; omega), hb⟩


theorem two_start {w w1 : World} {g : Nat} (hc : Chn w w1 (fun k => w.heap.size ≤ k) g [⟨0, 0⟩] []) (hb : Below w.heap.size w w1) : Two w (w1.alloc (.cells #[.int .i64 0] 3)) g [⟨0, 0⟩] [] (.slice (some ⟨w1.heap.size, 0, none⟩) 1 1) [0] := by
  have ho := World.ownsRow_lit (base := w.heap.size) (e := 3) (size := 1) w1 #[.int .i64 0] 1 hb.size (by simp [maxLen]) (by simp)
  refine ⟨_, fun k => k = w1.heap.size, (Chn.bound hc).below (below_alloc (Below.refl _ _) _), Kd.R_of_own (enc := Value.int .i64) (h1 := fun _ => rfl) (xs := [0]) ho (fun k hk => ?_), fun k hk e => by have := hk.2.2; omega, below_alloc hb _⟩
  have : w1.heap.size = k := by simpa [Value.ownBlock] using hk
  exact this.symm
theorem Two.slice {w wr : World} {g : Nat} {its : List S96} {ps : List Int} {v : Value} {es : List Int} (h : Two w wr g its ps v es) : ∃ A c, v = .slice A es.length c := by
  obtain ⟨S, T, hC, hR, hd, hB⟩ := h
  exact Kd.R_slice hR
theorem step_at {a gi : Int} (h0 : 0 ≤ gi) (h1 : gi < 256) (ha : 0 ≤ a) (hb : a ≤ 1000) : ∃ b, wrap64 (a + wrap64 (1 + wrap64 (gi.tmod 5))) = b ∧ a < b ∧ b ≤ a + 5 := by
  have e : gi.tmod 5 = gi % 5 := Int.tmod_eq_emod_of_nonneg h0
  rw [e, wrap64_id (gi % 5) (by omega) (by omega), wrap64_id (1 + gi % 5) (by omega) (by omega), wrap64_id _ (by omega) (by omega)]
  exact ⟨_, rfl, by omega, by omega⟩
theorem Two.reads {w wr : World} {g : Nat} {its : List S96} {ps : List Int} {A : Option Addr} {c : Nat} {es : List Int} (h : Two w wr g its ps (.slice A es.length c) es) : Kd.C (Kd.int .i64) wr A es.length es := by
  obtain ⟨S, T, hC, hR, hd, hB⟩ := h
  obtain ⟨A1, c1, e, _, hr⟩ := Kd.R_reads hR
  injection e with e1 _ e3
  subst e1
  exact hr
/-! ### crossbucklaw18_VersionSees: function 10 (by hand) -/
def crossbucklaw18_VersionSees.f (l0 : List Int) : Option Bool := if ∀ g ∈ l0, 0 ≤ g ∧ g < 256 then some true else none
set_option maxHeartbeats 8000000 in
set_option maxRecDepth 100000 in
theorem crossbucklaw18_VersionSees.calls (A0 : Option Addr) (c0 : Nat) (l0 : List Int) (r : Bool) (w : World) (hr0 : Kd.C (Kd.int .u8) w A0 l0.length l0) (hc0 : l0.length ≤ c0) (h : crossbucklaw18_VersionSees.f l0 = some r) :
    Calls Try.prog 10 #[.slice A0 l0.length c0] w fun e w' => e = .returned (.bool r) ∧ Below w.heap.size w w' := by
  unfold crossbucklaw18_VersionSees.f at h
  by_cases hG : ∀ g ∈ l0, 0 ≤ g ∧ g < 256
  case neg => rw [if_neg hG] at h; cases h
  rw [if_pos hG] at h
  obtain rfl := Option.some.inj h
  clear h
  have HG := Aside0.mk hG
  have HR0 := Aside0.mk hr0
  have HC0 := Aside0.mk hc0
  have B0 := Aside0.mk (Below.refl w.heap.size w)
  clear hr0 hc0 hG
  by_cases hl : (40 : Int) < (l0.length : Int)
  · have hlb := decide_eq_true hl
    have hln := decide_eq_true (show 40 < l0.length by omega)
    clear hl
    go_enter Try.func10, Try.ntmps10
    go_wp2_with (first
      | (go_at_call 24; refine (awake_.calls _).mono ?_; rintro e w5 ⟨rfl, hb⟩; have B5 := Aside0.mk (below_step B0.out hb); clear hb))
    go_ret
    exact ⟨rfl, B5.out⟩
  · have hlb := decide_eq_false hl
    have hln := decide_eq_false (show ¬ 40 < l0.length by omega)
    have HL := Aside0.mk (show l0.length ≤ 40 by omega)
    clear hl
    go_enter Try.func10, Try.ntmps10
    go_wp2_with (first
      | (go_at_call 25; refine (new_.calls 0 _).mono ?_; rintro e w1 ⟨g, rfl, hc, hb⟩; have C1 := Aside0.mk hc; have B1 := Aside0.mk (below_step B0.out hb); clear hc hb))
    have HT := Aside0.mk (show Two w (w1.alloc (.cells #[.int .i64 0] 3)) g (itemsFrom [0] 0) ([0] : List Int).dropLast (.slice (some ⟨w1.heap.size, 0, none⟩) 1 1) [0] from two_start C1.out B1.out)
    go_loopg [24, 4, 5] l0.length (fun kq v24 v4 v5 wr => ∃ (i : Nat) (es : List Int), es.length = i + 1 ∧ i + kq = l0.length ∧ v24 = .int .i64 i ∧ v4 = .int .i64 (lst es) ∧ Aside0 (Inc es ∧ 0 ≤ lst es ∧ lst es ≤ 10 * i) ∧ Aside0 (Two w wr g (itemsFrom es 0) es.dropLast v5 es))
    case atStart => exact ⟨0, [0], rfl, by omega, rfl, rfl, ⟨by simp [Inc], by simp [lst], by simp [lst]⟩, HT⟩
    case round =>
      clear HT C1 B1
      obtain ⟨i, es, hn, hi, rfl, rfl, HE, HT⟩ := hrel
      have HI := Aside0.mk hi
      have HN := Aside0.mk hn
      have hpos : 0 < es.length := by omega
      have HP := Aside0.mk hpos
      by_cases hlt : i < l0.length
      · have hcn : decide (i < l0.length) = true := decide_eq_true hlt
        have p : 0 ≤ (i : Int) := by omega
        have q : (i : Int) < (l0.length : Int) := by omega
        obtain ⟨ad, e1, hx0⟩ := Kd.at_int (Kd.C_below HR0.out HT.out.bl) (i : Int) p q
        cases e1
        have e2 : (i : Int).toNat = i := by omega
        rw [e2] at hx0
        clear e2
        have hgi := HG.out (rd l0 (i : Int)) (by rw [show rd l0 (i : Int) = l0[i] by simp [rd, List.getD, hlt]]; exact List.getElem_mem hlt)
        generalize rd l0 (i : Int) = gi at hx0 hgi
        obtain ⟨a, ha⟩ : ∃ a, lst es = a := ⟨_, rfl⟩
        have HA := Aside0.mk ha
        have hpin := pin_lst hpos HE.out.2.1
        rw [ha] at hpin ⊢
        have HPIN := Aside0.mk hpin
        have HGI := Aside0.mk hgi
        have HLT := Aside0.mk hlt
        replace p := eq_true p
        replace q := eq_true q
        obtain ⟨A5, c5, e5⟩ := HT.out.slice
        subst e5
        obtain ⟨b, hbw, hb1, hb2⟩ := step_at hgi.1 hgi.2 (a := a) (by have := HE.out.2.1; omega) (by have := HE.out.2.2; have := HL.out; omega)
        have HBW := Aside0.mk hbw
        have hpub := pub_lst HE.out.1 hpos b (by omega)
        rw [hn] at hpub
        have HPUB := Aside0.mk hpub
        have HPUB2 := Aside0.mk (pub2_lst es b 99 es)
        have HE2 := Aside0.mk (show Inc (es ++ [b]) ∧ 0 ≤ lst (es ++ [b]) ∧ lst (es ++ [b]) ≤ 10 * ((i + 1 : Nat) : Int) from ⟨inc_lst HE.out.1 hpos b (by omega), by rw [lst_snoc]; have := HE.out.2.1; omega, by rw [lst_snoc]; have := HE.out.2.2; omega⟩)
        have F5 := Aside0.mk (show (itemsFrom es 0).length < 1000000 by rw [itemsFrom_length]; have := HL.out; omega)
        have F6 := Aside0.mk (show es.length ≤ 1000000 by have := HL.out; omega)
        have F7 := Aside0.mk (show 0 < (itemsFrom (es ++ [b]) 0).length by rw [itemsFrom_length]; simp)
        have F8 := Aside0.mk (show (itemsFrom (es ++ [b]) 0).length < 1000000 by rw [itemsFrom_length]; have := HL.out; simp; omega)
        have HWI := Aside0.mk (wS (i := i) (by have := HL.out; omega))
        clear hbw hb1 hb2 hpub
        have F1 := Aside0.mk (show 0 < (itemsFrom es 0).length by rw [itemsFrom_length]; exact hpos)
        have F2 := Aside0.mk (show (itemsFrom es 0).length ≤ 1000000 by rw [itemsFrom_length]; have := HL.out; omega)
        have F3 := Aside0.mk (show es.dropLast.length < 1000000 by rw [List.length_dropLast]; have := HL.out; omega)
        clear hi hpin hgi hlt ha hn hpos
        go_wp2_with (first
          | (go_at_call 29; refine (two_pin g (itemsFrom es 0) es.dropLast _ es a 0 es w _ HT.out F1.out F2.out F3.out HPIN.out).mono ?_; rintro e w2 ⟨rfl, h2⟩; have H2 := Aside0.mk h2; clear h2)
          | (go_at_call 27; refine (two_publish g (itemsFrom (es ++ [b]) 0) (itemsFrom (es ++ [b]) 0) es _ es b 99 5 w _ H3.out F7.out F8.out F6.out HPUB2.out).mono ?_; rintro e w4 ⟨rfl, h4⟩; have H4 := Aside0.mk h4; clear h4)
          | (go_at_call 27; rw [HBW.out, HWI.out]; refine (two_publish g (itemsFrom es 0) (itemsFrom (es ++ [b]) 0) es _ es b ((i + 1 : Nat) : Int) 0 w _ H2.out F1.out F5.out F6.out HPUB.out).mono ?_; rintro e w3 ⟨rfl, h3⟩; have H3 := Aside0.mk h3; clear h3)
          | ((with_reducible refine gate_builtin (b := .append) (xs := #[.tmp 51, .tmp 53]) rfl ?_); at_builtin; obtain ⟨S4, T4, hC4, hR4, hd4, hB4⟩ := H4.out; refine Kd.R_append (Kd.int .i64) (w0 := w) w.heap.size rfl (.tmp 51) (.tmp 53) 22 3 (.int .i64 0) 8 rfl Try.underlying22 info3 rfl (by decide) (by omega) (.slice A5 es.length c5) es b [.int .i64 b] (fun k => T4 k ∨ w4.heap.size ≤ k) (fun _ => False) rfl (by first | rfl | (go_simp; done) | (go_simp; rfl)) ?aP (fun _ hk => hk.elim) ?aF ?aO ?aB ?aS ?aL ?_; (case aP => exact rfl); (case aF => exact (fun k hk => .inr hk)); (case aO => exact Kd.R_mono hR4 (fun _ h => .inl h)); (case aB => exact hB4); (case aS => exact hB4.size); (case aL => have := F6.out; omega); intro v9 w9 ho hb9 hg9 hat9; have H9 := Aside0.mk (Two.append hC4 hR4 hd4 ho hb9 hg9); obtain ⟨A9, c9, e9⟩ := Kd.R_slice ho; rw [List.length_append, List.length_singleton] at e9; subst e9; clear ho hb9 hg9 hat9 hC4 hR4 hd4 hB4))
        go_roundg (l0.length - (i + 1))
        case measure => have := HI.out; have := HLT.out; omega
        case rel => exact ⟨i + 1, es ++ [b], by have := HN.out; simp; omega, by have := HI.out; have := HLT.out; omega, by rw [HWI.out], by rw [lst_snoc], HE2, by rw [List.dropLast_concat]; exact H9⟩
      · have hcn : decide (i < l0.length) = false := decide_eq_false hlt
        have hil : i = l0.length := by omega
        subst hil
        obtain ⟨m, hm⟩ : ∃ m : Int, m = ((l0.length + 1 : Nat) : Int) := ⟨_, rfl⟩
        have HM := Aside0.mk hm
        have hwn : IntKind.i64.wrap ((l0.length : Int) + 1) = m := by rw [hm]; exact (i64_w _).trans (wS (by have := HL.out; omega))
        have HL1 := Aside0.mk (show ((itemsFrom es 0).length : Int) = m by rw [itemsFrom_length, hn, hm])
        have HL2 := Aside0.mk (show ((es.dropLast).length : Int) = ((l0.length : Nat) : Int) by rw [List.length_dropLast, hn]; simp)
        obtain ⟨A5, c5, e5⟩ := HT.out.slice
        subst e5
        clear hi hlt hn hm hpos
        go_wp2_with (first
          | (go_at_call 33; refine (live_.calls g (itemsFrom es 0) es.dropLast _ HT.out.view).mono ?_; rintro e w2 ⟨rfl, hb⟩; rw [HL1.out]; have H2 := Aside0.mk (HT.out.below hb); clear hb)
          | (go_at_call 35; refine (pins_.calls g (itemsFrom es 0) es.dropLast _ H2.out.view).mono ?_; rintro e w3 ⟨rfl, hb⟩; rw [HL2.out]; have H3 := Aside0.mk (H2.out.below hb); clear hb))
        have HPO := Aside0.mk (show 0 < (itemsFrom es 0).length by rw [itemsFrom_length]; exact HP.out)
        have HQ := Aside0.mk (show (itemsFrom es 0).length ≤ 1000000 by rw [itemsFrom_length]; have := HN.out; have := HL.out; omega)
        have HQ2 := Aside0.mk (show es.dropLast.length ≤ 1000000 by rw [List.length_dropLast]; have := HN.out; have := HL.out; omega)
        go_loopg [71] es.length (fun kq v71 wr => ∃ (j : Nat), j + kq = es.length ∧ v71 = .int .i64 j ∧ Aside0 (Two w wr g (itemsFrom es 0) es.dropLast (.slice A5 es.length c5) es))
        case atStart => exact ⟨0, by omega, rfl, H3⟩
        case round =>
          clear HT H2 H3
          obtain ⟨j, hj, rfl, HT⟩ := hrel
          have HJ := Aside0.mk hj
          by_cases hlt : j < es.length
          · have hcj : decide (j < es.length) = true := decide_eq_true hlt
            have p : 0 ≤ (j : Int) := by omega
            have q : (j : Int) < (es.length : Int) := by omega
            obtain ⟨ad, e1, hx0⟩ := Kd.at_int HT.out.reads (j : Int) p q
            cases e1
            have e2 : (j : Int).toNat = j := by omega
            rw [e2] at hx0
            clear e2
            have HGE := Aside0.mk (get_rd HE.out.1 j hlt)
            generalize rd es (j : Int) = ej at hx0 HGE
            have HLT := Aside0.mk hlt
            replace p := eq_true p
            replace q := eq_true q
            clear hj hlt
            go_wp2_with (first
              | (go_at_call 37; refine (get_.calls g (itemsFrom es 0) es.dropLast ej (j : Int) true _ HT.out.view HPO.out HQ.out HQ2.out HGE.out).mono ?_; rintro e w4 ⟨rfl, hb⟩; have H4 := Aside0.mk (HT.out.below hb); clear hb))
            go_roundg (es.length - (j + 1))
            case measure => have := HJ.out; have := HLT.out; omega
            case rel => exact ⟨j + 1, by have := HJ.out; have := HLT.out; omega, by rw [wS (by have := HLT.out; have := HN.out; have := HL.out; omega)], H4⟩
          · have hcj : decide (j < es.length) = false := decide_eq_false hlt
            have hidx : es.length - 1 = l0.length := by have := HN.out; omega
            have ha : lst es ≤ wrap64 (lst es + 100) := by rw [wrap64_id _ (by have := HE.out.2.1; omega) (by have := HE.out.2.2; have := HL.out; omega)]; omega
            have hget := get_lst HP.out (wrap64 (lst es + 100)) ha
            have hnow := nowV_items HP.out
            rw [hidx] at hget hnow
            have HGE := Aside0.mk hget
            have HNOW := Aside0.mk hnow
            clear hj hlt hidx ha hget hnow
            go_wp2_with (first
              | (go_at_call 37; refine (get_.calls g (itemsFrom es 0) es.dropLast _ (l0.length : Int) true _ HT.out.view HPO.out HQ.out HQ2.out HGE.out).mono ?_; rintro e w4 ⟨rfl, hb⟩; have H4 := Aside0.mk (HT.out.below hb); clear hb)
              | (go_at_call 24; refine (awake_.calls _).mono ?_; rintro e w5 ⟨rfl, hb⟩; have H5 := Aside0.mk (H4.out.below hb); clear hb)
              | (go_at_call 36; refine (now_.calls g (itemsFrom es 0) es.dropLast _ H5.out.view HPO.out HQ.out).mono ?_; rintro e w6 ⟨rfl, hb⟩; rw [HNOW.out]; have H6 := Aside0.mk (H5.out.below hb); clear hb))
            go_ret
            exact ⟨rfl, H6.out.bl⟩

end Go.Proofs.Ytdemogdagemagaa.PVc
