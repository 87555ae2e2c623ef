-- The walks of the trie's functions, by hand.
import Derived.Test.YtbmibakhpealjaaPTrx53
namespace Go.Proofs.Ytbmibakhpealjaa.PTr
open Go.RowKit Go.Proofs.YtbmibakhpealjaaW.PrintWords Go.Proofs.YtbmibakhpealjaaW.PrintLast Go.Proofs.YtbmibakhpealjaaW.PrintMore
attribute [local go_sem] max2_int min2_int max_two min_two max_three min_three max_four min_four   -- for this text's walks alone
set_option linter.unusedVariables false
set_option linter.unusedSimpArgs false

open Go.Proofs.Ytbmibakhpealjaa.TrieP Go.Proofs.Ytbmibakhpealjaa.Facts Go.Proofs.Ytbmibakhpealjaa.Bits
theorem info35 : (Try.prog.info? 35).map (fun i => (i.zero, i.size, i.bytes)) = some (some (.agg #[.bool false, .int .u32 0, .int .i64 0, .int .i64 0]), 4, 32) := by kernel_rfl
theorem k35_mkM (w : World) (base : Nat) (ok : Nat → Prop) (x : S35) : k35.M w base ok x [.bool x.f0, .int .u32 x.f1.f0, .int .i64 x.f1.f1, .int .i64 x.f2] := ⟨[.bool x.f0], [.int .u32 x.f1.f0, .int .i64 x.f1.f1, .int .i64 x.f2], rfl, rfl, ⟨[.int .u32 x.f1.f0, .int .i64 x.f1.f1], [.int .i64 x.f2], rfl, k33_mkM w base ok x.f1, rfl⟩⟩
theorem TrL.over {w wr w1 : World} {S : Nat → Prop} {tb : Nat} {l : List En} (h : TrL w wr S tb l) {α : Type} {d : Kd α} {e base : Nat} {ok : Nat → Prop} {v : Value} {xs : List α} (hr : d.R e wr base ok v xs) (hg : wr.grownBy w1 v.ownBlock) (hb : Below w.heap.size w w1) (h1 : e ≠ 3) (h2 : e ≠ 28) (h3 : e ≠ 30) : TrL w w1 S tb l := by
  obtain ⟨⟨B, V, ht⟩, hs, hrr⟩ := h
  exact ⟨⟨B, V, ht.overR hr hg hb h1 h2 h3⟩, hs, hrr⟩
/-! #### a tree, and two rows apart from it -/
structure Bk (w wl : World) (g : Nat) (l : List En) (v1 : Value) (xs : List S42) (v2 : Value) (os : List S35) : Prop where
  mk :: (out : ∃ S : Nat → Prop, TrL w wl S g l ∧ (∀ k, S k → k < wl.heap.size) ∧ Kd.R k42 42 wl w.heap.size (fun k => ¬ S k) v1 xs ∧ Kd.R k35 35 wl w.heap.size (fun k => ¬ S k) v2 os)
section
variable {w wl w1 : World} {g : Nat} {l : List En} {v1 v2 : Value} {xs : List S42} {os : List S35}
theorem Bk.bl (h : Bk w wl g l v1 xs v2 os) : Below w.heap.size w wl := h.out.choose_spec.1.bl
theorem Bk.srt (h : Bk w wl g l v1 xs v2 os) : Srt l := h.out.choose_spec.1.srt
theorem Bk.rts (h : Bk w wl g l v1 xs v2 os) : Rts l := h.out.choose_spec.1.rts
theorem Bk.row1 (h : Bk w wl g l v1 xs v2 os) : Kd.R k42 42 wl w.heap.size (fun _ => True) v1 xs := Kd.R_mono h.out.choose_spec.2.2.1 (fun _ _ => trivial)
theorem Bk.row2 (h : Bk w wl g l v1 xs v2 os) : Kd.R k35 35 wl w.heap.size (fun _ => True) v2 os := Kd.R_mono h.out.choose_spec.2.2.2 (fun _ _ => trivial)
theorem Bk.below (h : Bk w wl g l v1 xs v2 os) (hb : Below wl.heap.size wl w1) : Bk w w1 g l v1 xs v2 os := by
  obtain ⟨S, h1, h2, h3, h4⟩ := h.out
  exact ⟨S, h1.below hb, fun k hk => Nat.lt_of_lt_of_le (h2 k hk) hb.size, Kd.R_below h3 hb, Kd.R_below h4 hb⟩
theorem Bk.new {S : Nat → Prop} (h : TrL w wl S g l) (hr : Kd.R k42 42 w1 wl.heap.size (fun _ => True) v1 xs) (hb : Below wl.heap.size wl w1) : Bk w w1 g l v1 xs (.slice none 0 0) [] := by
  refine ⟨fun k => S k ∧ k < wl.heap.size, h.bound.below hb, fun k hk => Nat.lt_of_lt_of_le hk.2 hb.size, ?_, Kd.R_nil _ _ _ _ _⟩
  exact Kd.R_lower (Kd.R_mono (Kd.R_bound hr) (fun k hk hk2 => by have := hk.2.1; have := hk2.2; omega)) h.bl.size
theorem Bk.step (h : Bk w wl g l v1 xs v2 os) {S : Nat → Prop} (h3 : Kd.R k42 42 wl w.heap.size (fun k => ¬ S k) v1 xs) (h4 : Kd.R k35 35 wl w.heap.size (fun k => ¬ S k) v2 os) {l2 : List En} (ht : TrL w w1 (fun k => S k ∨ wl.heap.size ≤ k) g l2) (hk : Kept wl w1 S) : Bk w w1 g l2 v1 xs v2 os := by
  refine ⟨_, ht.bound, fun k hk => hk.2, ?_, ?_⟩
  · exact Kd.R_mono (Kd.R_kept (Kd.R_bound h3) hk (fun k hk => hk.1)) (fun k hk hk2 => hk2.1.elim hk.1 (fun hk3 => by have := hk.2.2.1; omega))
  · exact Kd.R_mono (Kd.R_kept (Kd.R_bound h4) hk (fun k hk => hk.1)) (fun k hk hk2 => hk2.1.elim hk.1 (fun hk3 => by have := hk.2.2.1; omega))
theorem Bk.add (h : Bk w wl g l v1 xs v2 os) (hb : Below wl.heap.size wl w1) (hl : l.length ≤ 1000) {xa : Int} (h0 : 0 ≤ xa) (hx1 : xa < 4294967296) (b x : Int) :
    Calls Try.prog 8 #[.pointer (some ⟨g, 0, none⟩), .agg #[.int .u32 xa, .int .i64 b], .int .i64 x] w1 fun e w' => e = .returned (.int .i64 (addL l xa.toNat b x).1) ∧ Bk w w' g (addL l xa.toNat b x).2 v1 xs v2 os ∧ ∀ k, wl.heap.size ≤ k → k < w1.heap.size → w'.heap[k]? = w1.heap[k]? := by
  have h' := h.below hb
  obtain ⟨S, h1, h2', h3', h4'⟩ := h.out
  have h1' := h1.below hb
  have h3 := Kd.R_below h3' hb
  have h4 := Kd.R_below h4' hb
  refine (add_at h1' (Below.refl _ _) hl (a := xa.toNat) (by omega) (by omega) b x).mono ?_
  rintro e w' ⟨rfl, ht, hk⟩
  exact ⟨rfl, h'.step h3 h4 ht hk, fun k hk1 hk2 => hk.2 k hk2 (fun hS => by have := h2' k hS; omega)⟩
theorem Bk.drop (h : Bk w wl g l v1 xs v2 os) (hb : Below wl.heap.size wl w1) (hl : l.length ≤ 1000) {xa : Int} (h0 : 0 ≤ xa) (h1 : xa < 4294967296) (b x : Int) :
    Calls Try.prog 14 #[.pointer (some ⟨g, 0, none⟩), .agg #[.int .u32 xa, .int .i64 b], .int .i64 x] w1 fun e w' => e = .returned (.int .i64 (delL l xa.toNat b x).1) ∧ Bk w w' g (delL l xa.toNat b x).2 v1 xs v2 os := by
  have h' := h.below hb
  obtain ⟨S, h1', h2, h3, h4⟩ := h'.out
  refine (drop_at h1' (Below.refl _ _) hl (a := xa.toNat) (by omega) (by omega) b x).mono ?_
  rintro e w' ⟨rfl, ht, hk⟩
  exact ⟨rfl, h'.step h3 h4 ht hk⟩
theorem Bk.dropOk (h : Bk w wl g l v1 xs v2 os) (hb : Below wl.heap.size wl w1) (hl : l.length ≤ 1000) {xa : Int} (h0 : 0 ≤ xa) (h1 : xa < 4294967296) (b x : Int) {l2 : List En} (hd : delL l xa.toNat b x = (0, l2)) :
    Calls Try.prog 14 #[.pointer (some ⟨g, 0, none⟩), .agg #[.int .u32 xa, .int .i64 b], .int .i64 x] w1 fun e w' => e = .returned (.int .i64 0) ∧ Bk w w' g l2 v1 xs v2 os := by
  have := h.drop hb hl h0 h1 b x
  rw [hd] at this
  exact this
theorem Bk.all (h : Bk w wl g l v1 xs v2 os) (hb : Below wl.heap.size wl w1) (hl : l.length ≤ 1000) :
    Calls Try.prog 9 #[.pointer (some ⟨g, 0, none⟩)] w1 fun e w' => ∃ v : Value, e = .returned v ∧ Kd.R k42 42 w' w1.heap.size (fun _ => True) v (l.map toS) ∧ Below w1.heap.size w1 w' := by
  obtain ⟨S, ha, _⟩ := h.out
  exact all_.calls (ha.below hb) hl
theorem Bk.size (h : Bk w wl g l v1 xs v2 os) (hb : Below wl.heap.size wl w1) :
    Calls Try.prog 10 #[.pointer (some ⟨g, 0, none⟩)] w1 fun e w' => e = .returned (.int .i64 ((TrieP.sz (X l) 32 0 0 : Nat) : Int)) ∧ Below w1.heap.size w1 w' := by
  obtain ⟨S, ha, _⟩ := h.out
  exact tsize_.calls (ha.below hb)
/-- The second row has grown. -/
theorem Bk.append {S : Nat → Prop} {v9 : Value} {q : S35} (h1 : TrL w wl S g l) (h2 : ∀ k, S k → k < wl.heap.size) (h3 : Kd.R k42 42 wl w.heap.size (fun k => ¬ S k) v1 xs) (h4 : Kd.R k35 35 wl w.heap.size (fun k => ¬ S k) v2 os)
    (ho : Kd.R k35 35 w1 w.heap.size (fun k => ¬ S k) v9 (os ++ [q])) (hb : Below w.heap.size w w1) (hg : wl.grownBy w1 v2.ownBlock) : Bk w w1 g l v1 xs v9 (os ++ [q]) := by
  have hk : Kept wl w1 (fun k => some k = v2.ownBlock) := Kept.of_grown hg (Kept.refl _ _) (fun k hk => .inl hk.symm)
  refine ⟨S, h1.over h4 hg hb (by decide) (by decide) (by decide), fun k hk2 => Nat.lt_of_lt_of_le (h2 k hk2) hk.1, ?_, ho⟩
  refine Kd.R_mono (Kd.R_grown (Kd.R_bound h3) hg (fun k hk hk2 => ?_)) (fun k hk => hk.1)
  obtain ⟨cells, hc⟩ := Kd.R_typed h4 k hk2.symm
  obtain ⟨q', hq, cells', hc'⟩ := hk.2.2.2
  have hq' : q' = 42 := by simpa [k42, Kd.iso, Kd.pair, k33, Kd.int, Kd.scalar] using hq
  rw [hc, hq'] at hc'
  injection hc' with hc'
  injection hc' with _ hc'
  exact absurd hc' (by decide)
end
/-! #### what is put beside, and taken again -/
def addP (s : List En × List S35) (o : S35) : List En × List S35 := ((addL s.1 o.f1.f0.toNat o.f1.f1 o.f2).2, if (addL s.1 o.f1.f0.toNat o.f1.f1 o.f2).1 = 0 then s.2 ++ [o] else s.2)
def addsP (L : List En) (os : List S35) : List En × List S35 := os.foldl addP (L, [])
theorem addsP_snoc (L : List En) (os : List S35) (o : S35) : addsP L (os ++ [o]) = addP (addsP L os) o := by simp [addsP]
/-- What holds of a list behind the putting. -/
structure AddI (L : List En) (s : List En × List S35) : Prop where
  srt : Srt s.1
  mem : ∀ e, e ∈ s.1 ↔ e ∈ L ∨ ∃ o ∈ s.2, e = enO o
  ok : ∀ o ∈ s.2, okO o ∧ rightB (o.f1.f0.toNat : Int) o.f1.f1 = true ∧ enO o ∉ L
  nd : (s.2.map enO).Nodup
theorem AddI.start {L : List En} (hs : Srt L) : AddI L (L, []) := ⟨hs, fun e => by simp, fun o ho => (by cases ho), List.nodup_nil⟩
theorem AddI.step {L : List En} {s : List En × List S35} (h : AddI L s) {o : S35} (ho : okO o) : AddI L (addP s o) := by
  unfold addP addL
  by_cases hr : rightB (o.f1.f0.toNat : Int) o.f1.f1 = true
  · rw [if_pos hr]
    by_cases hm : (⟨o.f1.f0.toNat, o.f1.f1.toNat, o.f2⟩ : En) ∈ s.1
    · rw [if_pos hm]
      exact h
    · rw [if_neg hm]
      have hm' : enO o ∉ s.1 := hm
      refine ⟨ins_srt h.srt hm, fun e => ?_, fun o' ho' => ?_, ?_⟩
      · show e ∈ ins (enO o) s.1 ↔ _ ∨ ∃ o' ∈ s.2 ++ [o], _
        rw [mem_ins, h.mem]
        constructor
        · rintro (h | h | ⟨o', h1, h2⟩)
          · exact .inr ⟨o, by simp, h⟩
          · exact .inl h
          · exact .inr ⟨o', by simp [h1], h2⟩
        · rintro (h | ⟨o', h1, h2⟩)
          · exact .inr (.inl h)
          · rcases List.mem_append.1 h1 with h1 | h1
            · exact .inr (.inr ⟨o', h1, h2⟩)
            · obtain rfl := List.mem_singleton.1 h1
              exact .inl h2
      · rcases List.mem_append.1 ho' with h1 | h1
        · exact h.ok o' h1
        · obtain rfl := List.mem_singleton.1 h1
          exact ⟨ho, hr, fun hL => hm' ((h.mem _).2 (.inl hL))⟩
      · show ((s.2 ++ [o]).map enO).Nodup
        rw [List.map_append, List.nodup_append]
        refine ⟨h.nd, by simp, fun a ha b hb e => ?_⟩
        obtain ⟨o', h1, h2⟩ := List.mem_map.1 ha
        have hb' : b = enO o := by simpa using hb
        exact hm' ((h.mem _).2 (.inr ⟨o', h1, by rw [h2, e, hb']⟩))
  · rw [if_neg hr]
    exact h
theorem addsP_inv {L : List En} (hs : Srt L) {os : List S35} (ho : ∀ o ∈ os, okO o) : AddI L (addsP L os) := by
  have h : ∀ (os : List S35) (s : List En × List S35), AddI L s → (∀ o ∈ os, okO o) → AddI L (os.foldl addP s) := by
    intro os
    induction os with
    | nil => intro s h _; exact h
    | cons o os ih => intro s h ho; exact ih _ (h.step (ho o List.mem_cons_self)) (fun o' h' => ho o' (List.mem_cons_of_mem _ h'))
  exact h os _ (AddI.start hs) ho
theorem addsP_len (L : List En) : ∀ os : List S35, (addsP L os).1.length ≤ L.length + os.length ∧ (addsP L os).2.length ≤ os.length := fun os => by
  have h : ∀ (os : List S35) (s : List En × List S35), (os.foldl addP s).1.length ≤ s.1.length + os.length ∧ (os.foldl addP s).2.length ≤ s.2.length + os.length := by
    intro os
    induction os with
    | nil => intro s; exact ⟨Nat.le_refl _, Nat.le_refl _⟩
    | cons o os ih =>
      intro s
      have h1 := ih (addP s o)
      have h2 := addL_len s.1 o.f1.f0.toNat o.f1.f1 o.f2
      have h3 : (addP s o).2.length ≤ s.2.length + 1 := by
        unfold addP
        dsimp only
        split
        · simp
        · omega
      simp only [List.foldl_cons, List.length_cons]
      have h4 : (addP s o).1.length = (addL s.1 o.f1.f0.toNat o.f1.f1 o.f2).2.length := rfl
      omega
  have := h os (L, [])
  simpa [addsP] using this
theorem take_addsP {L : List En} {os : List S35} {i : Nat} (hi : i < os.length) : addP (addsP L (os.take i)) (rd_T35 os (i : Int)) = addsP L (os.take (i + 1)) := by
  rw [List.take_succ_eq_append_getElem hi, addsP_snoc]
  congr 1
  simp [rd_T35, List.getD, hi]
/-- The list while what was put is taken, in an order turned by k. -/
def delT (M : List En) (ps : List S35) (k : Nat) : Nat → List En
  | 0 => M
  | j + 1 => del (enO (rd_T35 ps (((j + k) % ps.length : Nat) : Int))) (delT M ps k j)
theorem rd_get {ps : List S35} {i : Nat} (hi : i < ps.length) : rd_T35 ps (i : Int) = ps[i] := by simp [rd_T35, List.getD, hi]
theorem delT_mem {M : List En} {ps : List S35} {k : Nat} (e : En) : ∀ j, e ∈ delT M ps k j ↔ e ∈ M ∧ ∀ i, i < j → e ≠ enO (rd_T35 ps (((i + k) % ps.length : Nat) : Int))
  | 0 => by simp [delT]
  | j + 1 => by
    rw [delT, mem_del, delT_mem e j]
    constructor
    · rintro ⟨⟨h1, h2⟩, h3⟩
      refine ⟨h1, fun i hi => ?_⟩
      by_cases e1 : i = j
      · rw [e1]; exact h3
      · exact h2 i (by omega)
    · rintro ⟨h1, h2⟩
      exact ⟨⟨h1, fun i hi => h2 i (by omega)⟩, h2 j (by omega)⟩
theorem delT_srt {M : List En} (hs : Srt M) {ps : List S35} {k : Nat} : ∀ j, Srt (delT M ps k j)
  | 0 => hs
  | j + 1 => del_srt (delT_srt hs j)
theorem delT_len {M : List En} {ps : List S35} {k : Nat} : ∀ j, (delT M ps k j).length ≤ M.length
  | 0 => Nat.le_refl _
  | j + 1 => Nat.le_trans (List.length_filter_le _ _) (delT_len j)
theorem turn_inj {n k i j : Nat} (hi : i < n) (hj : j < n) (h : (i + k) % n = (j + k) % n) : i = j := by
  rcases Nat.lt_or_ge i j with hlt | hge
  · exfalso
    have h1 := Nat.div_add_mod (i + k) n
    have h2 := Nat.div_add_mod (j + k) n
    rw [h] at h1
    rcases Nat.lt_or_ge ((i + k) / n) ((j + k) / n) with h3 | h3
    · have : n * ((i + k) / n + 1) ≤ n * ((j + k) / n) := Nat.mul_le_mul_left _ h3
      rw [Nat.mul_add, Nat.mul_one] at this
      omega
    · have : n * ((j + k) / n) ≤ n * ((i + k) / n) := Nat.mul_le_mul_left _ h3
      omega
  · rcases Nat.lt_or_eq_of_le hge with hlt | he
    · exfalso
      have h1 := Nat.div_add_mod (i + k) n
      have h2 := Nat.div_add_mod (j + k) n
      rw [← h] at h2
      rcases Nat.lt_or_ge ((j + k) / n) ((i + k) / n) with h3 | h3
      · have : n * ((j + k) / n + 1) ≤ n * ((i + k) / n) := Nat.mul_le_mul_left _ h3
        rw [Nat.mul_add, Nat.mul_one] at this
        omega
      · have : n * ((i + k) / n) ≤ n * ((j + k) / n) := Nat.mul_le_mul_left _ h3
        omega
    · exact he.symm
theorem turn_surj {n : Nat} (k : Nat) {m : Nat} (hm : m < n) : ∃ j, j < n ∧ (j + k) % n = m := by
  refine ⟨(m + (n - k % n)) % n, Nat.mod_lt _ (by omega), ?_⟩
  have h1 := Nat.mod_lt k (show 0 < n by omega)
  rw [Nat.mod_add_mod, show m + (n - k % n) + k = m + (n - k % n + k) by omega]
  have h2 : n - k % n + k = n * (k / n + 1) := by
    have h3 := Nat.div_add_mod k n
    rw [Nat.mul_add, Nat.mul_one]
    omega
  rw [h2, Nat.add_mul_mod_self_left, Nat.mod_eq_of_lt hm]
/-- Each one is there when it is taken. -/
theorem delT_has {L : List En} {s : List En × List S35} (h : AddI L s) {k j : Nat} (hj : j < s.2.length) : enO (rd_T35 s.2 (((j + k) % s.2.length : Nat) : Int)) ∈ delT s.1 s.2 k j := by
  have hm : (j + k) % s.2.length < s.2.length := Nat.mod_lt _ (by omega)
  rw [delT_mem, rd_get hm]
  refine ⟨(h.mem _).2 (.inr ⟨_, List.getElem_mem hm, rfl⟩), fun i hi he => ?_⟩
  have hm' : (i + k) % s.2.length < s.2.length := Nat.mod_lt _ (by omega)
  rw [rd_get hm'] at he
  have hnd := List.pairwise_iff_getElem.1 h.nd
  rcases Nat.lt_trichotomy ((j + k) % s.2.length) ((i + k) % s.2.length) with h1 | h1 | h1
  · have := hnd _ _ (by simpa using hm) (by simpa using hm') h1
    simp only [List.getElem_map] at this
    exact this he
  · have := turn_inj hj (show i < s.2.length by omega) h1
    omega
  · have := hnd _ _ (by simpa using hm') (by simpa using hm) h1
    simp only [List.getElem_map] at this
    exact this he.symm
theorem delT_end {L : List En} {s : List En × List S35} (hs : Srt L) (h : AddI L s) (k : Nat) : delT s.1 s.2 k s.2.length = L := by
  refine srt_ext (delT_srt h.srt _) hs (fun e => ?_)
  rw [delT_mem, h.mem]
  constructor
  · rintro ⟨h1 | ⟨o, h1, h2⟩, h3⟩
    · exact h1
    · obtain ⟨m, hm, rfl⟩ := List.getElem_of_mem h1
      obtain ⟨j, hj, e1⟩ := turn_surj k hm
      exact (h3 j hj (by rw [e1, rd_get hm]; exact h2)).elim
  · intro h1
    refine ⟨.inl h1, fun i hi he => ?_⟩
    have hm : (i + k) % s.2.length < s.2.length := Nat.mod_lt _ (by omega)
    rw [rd_get hm] at he
    exact (h.ok _ (List.getElem_mem hm)).2.2 (he ▸ h1)
theorem delL_ok {M : List En} {o : S35} (ho : okO o) (hr : rightB (o.f1.f0.toNat : Int) o.f1.f1 = true) (hm : enO o ∈ M) : delL M o.f1.f0.toNat o.f1.f1 o.f2 = (0, del (enO o) M) := by
  unfold delL
  rw [if_pos hr, if_pos (show (⟨o.f1.f0.toNat, o.f1.f1.toNat, o.f2⟩ : En) ∈ M from hm)]
  rfl


attribute [local go_sem high] eqA33 eqA42
open Go.Proofs.Ytbmibakhpealjaa.TrieP Go.Proofs.Ytbmibakhpealjaa.Facts Go.Proofs.Ytbmibakhpealjaa.Bits
def back_.T30 : Bool × List (List Nat × List Nat) := (true, [([], []), ([], []), ([0, 1], [0, 1]), ([2], [2]), ([], []), ([], []), ([4, 5], [4, 5]), ([6], [6]), ([3, 7], [3, 7])])
def back_.B30 : List Nat := [0, 0, 3, 7, 0, 0, 48, 112, 255]
theorem back_.tab30 : rtab .any (opsOf Try.f5 30) = back_.T30 := by kernel_rfl
theorem back_.bits30 : waitsOk back_.T30.2 back_.B30 = true := by kernel_rfl
set_option maxHeartbeats 4000000 in
set_option maxRecDepth 100000 in
theorem back_walk (A0 : Option Addr) (c0 : Nat) (l0 : List S35) (A1 : Option Addr) (c1 : Nat) (l1 : List S35) (a2 : Int) (w : World) (hr0 : Kd.C k35 w A0 l0.length l0) (hr1 : Kd.C k35 w A1 l1.length l1) (hl : l0.length ≤ 40) (hl1 : l1.length ≤ 40) (hok : ∀ o ∈ l0, okO o) (hok1 : ∀ o ∈ l1, okO o) (h0 : 0 ≤ a2) (h1 : a2 < 256) :
    Calls Try.prog 5 #[.slice A0 l0.length c0, .slice A1 l1.length c1, .int .u8 a2] w fun e w' => e = .returned (.bool true) ∧ Below w.heap.size w w' := by
  have HR0 := Aside0.mk hr0
  have HR1 := Aside0.mk hr1
  have HL0 := Aside0.mk hl
  have HL1 := Aside0.mk hl1
  have HOK := Aside0.mk hok
  have HOK1 := Aside0.mk hok1
  have HA := Aside0.mk (And.intro h0 h1)
  have q1 : decide (40 < l0.length) = false := decide_eq_false (by omega)
  have q3 : decide ((40 : Int) < (l0.length : Int)) = false := decide_eq_false (by omega)
  have q5 : decide (40 < l1.length) = false := decide_eq_false (by omega)
  have q6 : decide ((40 : Int) < (l1.length : Int)) = false := decide_eq_false (by omega)
  clear hr0 hr1 hl hl1 hok hok1 h0 h1
  go_enter Try.func5, Try.ntmps5
  go_wp2_with (first
    | ((with_reducible refine gate_dst (N := 7) rfl ?_); refine box_event ?hg (N := 7) ?hd (cs := #[.slice none 0 0, .pointer none, .pointer none, .int .i64 0]) (t := 30) ?hr ?_; (case hd => rfl); (case hg => rfl); (case hr => first | (go_simp; done) | (go_simp; rfl)); intro ga hga w1 hbox hb; have TA := Aside0.mk (show One w w1 ga [] from ⟨_, TrL.new (w0 := w) hbox hb (Nat.le_of_eq hga.symm)⟩); clear hga hbox hb))
  clear q1 q3 q5 q6
  go_loopg [30] l0.length (fun kq v30 wl => ∃ (i : Nat) (ii : Int), i + kq = l0.length ∧ v30 = .int .i64 ii ∧ Aside0 (ii = (i : Int)) ∧ Aside0 (One w wl ga (puts (l0.take i))))
  case atStart => exact ⟨0, 0, by omega, rfl, ⟨rfl⟩, ⟨by simpa [puts] using TA.out⟩⟩
  case round =>
    clear TA
    obtain ⟨i, ii, hi, rfl, HII, TL⟩ := hrel
    have HI := Aside0.mk hi
    by_cases hlt : i < l0.length
    · have hcn : decide (ii < (l0.length : Int)) = true := decide_eq_true (by have := HII.out; omega)
      have p : 0 ≤ ii := by have := HII.out; omega
      have q : ii < (l0.length : Int) := by have := HII.out; omega
      obtain ⟨ad, e1, hx0, hx1, hx2, hx3⟩ := at_T35 (Kd.C_below HR0.out TL.out.bl) ii p q
      cases e1
      have OKQ := Aside0.mk (show okO (rd_T35 l0 ii) by rw [HII.out]; exact HOK.out _ (rd_mem hlt))
      have TK := Aside0.mk (show putO (puts (l0.take i)) (rd_T35 l0 ii) = puts (l0.take (i + 1)) by rw [HII.out]; exact take_puts hlt)
      have LN := Aside0.mk (show (puts (l0.take i)).length ≤ 1000 by have h1 := puts_len (l0.take i); have := HL0.out; rw [List.length_take] at h1; omega)
      generalize rd_T35 l0 ii = q at hx0 hx1 hx2 hx3 OKQ TK
      replace p := eq_true p
      have HLT := Aside0.mk hlt
      clear hi hlt
      go_wp2_with (first
        | ((with_reducible refine gate_dst (N := 9) rfl ?_); refine box_event ?hg (N := 9) ?hd (cs := #[.bool false, .int .u32 0, .int .i64 0, .int .i64 0]) (t := 35) ?hr ?_; (case hd => rfl); (case hg => rfl); (case hr => first | (go_simp; done) | (go_simp; rfl)); intro g1 hg1 w5 hbox hb; have BO := Aside0.mk hbox; have HB5 := Aside0.mk hb; have HG1 := Aside0.mk hg1; clear hg1 hbox hb)
        | ((with_reducible refine gate_ (.store 35 (.tmp 9) (.tmp 33)) rfl ?_); refine Hand.wpList_store_blk rfl rfl 35 (.tmp 9) (.tmp 33) rfl [.bool q.f0, .int .u32 q.f1.f0, .int .i64 q.f1.f1, .int .i64 q.f2] #[.bool q.f0, .int .u32 q.f1.f0, .int .i64 q.f1.f1, .int .i64 q.f2] rfl rfl BO.out rfl size35 (Nat.le_refl 4) (fun u hu => by simp at hu; rcases hu with rfl | rfl | rfl | rfl <;> rfl) rfl (fun w6 hp => ?_); have BP := Aside0.mk hp.box; have HB6 := Aside0.mk (hp.bl _ HB5.out (Nat.le_of_eq HG1.out.symm)); have z0 : w6.cell? ⟨g1, 0, none⟩ = some (.bool q.f0) := (blk_cell BP.out 0).trans rfl; have z1 : w6.cell? ⟨g1, 1, none⟩ = some (.int .u32 q.f1.f0) := (blk_cell BP.out 1).trans rfl; have z2 : w6.cell? ⟨g1, 2, none⟩ = some (.int .i64 q.f1.f1) := (blk_cell BP.out 2).trans rfl; have z3 : w6.cell? ⟨g1, 3, none⟩ = some (.int .i64 q.f2) := (blk_cell BP.out 3).trans rfl; clear hp)
        | (go_at_call 8; (with_reducible refine (TL.out.add HB6.out LN.out OKQ.out.1 OKQ.out.2 _ _).mono ?_); rintro e w7 ⟨rfl, h7⟩; have T7 := Aside0.mk h7; clear h7 z0 z1 z2 z3))
      go_roundg (l0.length - (i + 1))
      case measure => have := HI.out; have := HLT.out; omega
      case rel => exact ⟨i + 1, ii + 1, by have := HLT.out; omega, by rw [wrap64_id _ (by have := HII.out; omega) (by have := HII.out; have := HLT.out; have := HL0.out; omega)], ⟨by have := HII.out; omega⟩, ⟨by rw [← TK.out]; exact T7.out⟩⟩
    · have hcn : decide (ii < (l0.length : Int)) = false := decide_eq_false (by have := HII.out; omega)
      obtain rfl : i = l0.length := by omega
      rw [List.take_length] at TL
      clear hi hlt
      have LN := Aside0.mk (show (puts l0).length ≤ 40 by have := puts_len l0; have := HL0.out; omega)
      have LN2 := Aside0.mk (show (puts l0).length ≤ 1000 by have := LN.out; omega)
      generalize puts l0 = L at TL LN LN2
      have SL := Aside0.mk TL.out.srt
      obtain ⟨sz0, hsz0⟩ : ∃ sz0 : Nat, sz0 = TrieP.sz (X L) 32 0 0 := ⟨_, rfl⟩
      have SZ := Aside0.mk hsz0
      clear hsz0
      obtain ⟨S9, ht9⟩ := TL.out.out
      have TS := Aside0.mk ht9
      clear ht9
      go_wp2_with (first
        | (go_at_call 9; (with_reducible refine (TL.out.all (Below.refl _ _) LN2.out).mono ?_); rintro e w7 ⟨v7, rfl, h7, hb7⟩; obtain ⟨X7, x7, rfl, hx7, hC7⟩ := Kd.R_reads h7; have B7 := Aside0.mk (Bk.new TS.out h7 hb7); rw [List.length_map] at B7 ⊢; clear h7 hb7 hC7 hx7 TL)
        | (go_at_call 10; (with_reducible refine (B7.out.size (Below.refl _ _)).mono ?_); rintro e w8 ⟨rfl, hb8⟩; rw [← SZ.out]; have B8 := Aside0.mk (B7.out.below hb8); clear hb8 B7))
      go_loopg [12, 44] l1.length (fun kq v12 v44 wl => ∃ (i : Nat) (ii : Int), i + kq = l1.length ∧ v44 = .int .i64 ii ∧ Aside0 (ii = (i : Int)) ∧ Aside0 (Bk w wl ga (addsP L (l1.take i)).1 (.slice X7 L.length x7) (L.map toS) v12 (addsP L (l1.take i)).2))
      case atStart => exact ⟨0, 0, by omega, rfl, ⟨rfl⟩, ⟨by simpa [addsP] using B8.out⟩⟩
      case round =>
        clear B8
        obtain ⟨i, ii, hi, rfl, HII, TL⟩ := hrel
        have HI := Aside0.mk hi
        by_cases hlt : i < l1.length
        · have hcn : decide (ii < (l1.length : Int)) = true := decide_eq_true (by have := HII.out; omega)
          have p : 0 ≤ ii := by have := HII.out; omega
          have q : ii < (l1.length : Int) := by have := HII.out; omega
          obtain ⟨ad, e1, hx0, hx1, hx2, hx3⟩ := at_T35 (Kd.C_below HR1.out TL.out.bl) ii p q
          cases e1
          have OKQ := Aside0.mk (show okO (rd_T35 l1 ii) by rw [HII.out]; exact HOK1.out _ (rd_mem hlt))
          have TK := Aside0.mk (show addP (addsP L (l1.take i)) (rd_T35 l1 ii) = addsP L (l1.take (i + 1)) by rw [HII.out]; exact take_addsP hlt)
          have LN3 := Aside0.mk (show (addsP L (l1.take i)).1.length ≤ 1000 ∧ (addsP L (l1.take i)).2.length ≤ 100 by have h1 := addsP_len L (l1.take i); have := HL1.out; have := LN.out; rw [List.length_take] at h1; omega)
          generalize rd_T35 l1 ii = q at hx0 hx1 hx2 hx3 OKQ TK
          obtain ⟨Ml, pt, hMp⟩ : ∃ Ml pt, addsP L (l1.take i) = (Ml, pt) := ⟨_, _, rfl⟩
          rw [hMp] at TL TK LN3
          have LNM := Aside0.mk (show Ml.length ≤ 1000 from LN3.out.1)
          have PLN := Aside0.mk (show pt.length ≤ 100 from LN3.out.2)
          replace TL : Aside0 (Bk w wr ga Ml (.slice X7 L.length x7) (L.map toS) u12 pt) := TL
          replace p := eq_true p
          have HLT := Aside0.mk hlt
          have hbu := Bool.eq_false_or_eq_true ((addL Ml q.f1.f0.toNat q.f1.f1 q.f2).1 == 0)
          clear hi hlt hMp LN3
          rcases hbu with hbu | hbu
          · have HBU := Aside0.mk hbu
            go_wp2_with (first
              | ((with_reducible refine gate_dst (N := 14) rfl ?_); refine box_event ?hg (N := 14) ?hd (cs := #[.bool false, .int .u32 0, .int .i64 0, .int .i64 0]) (t := 35) ?hr ?_; (case hd => rfl); (case hg => rfl); (case hr => first | (go_simp; done) | (go_simp; rfl)); intro g1 hg1 w5 hbox hb; have BO := Aside0.mk hbox; have HB5 := Aside0.mk hb; have HG1 := Aside0.mk hg1; clear hg1 hbox hb)
              | ((with_reducible refine gate_ (.store 35 (.tmp 14) (.tmp 47)) rfl ?_); refine Hand.wpList_store_blk rfl rfl 35 (.tmp 14) (.tmp 47) rfl [.bool q.f0, .int .u32 q.f1.f0, .int .i64 q.f1.f1, .int .i64 q.f2] #[.bool q.f0, .int .u32 q.f1.f0, .int .i64 q.f1.f1, .int .i64 q.f2] rfl rfl BO.out rfl size35 (Nat.le_refl 4) (fun u hu => by simp at hu; rcases hu with rfl | rfl | rfl | rfl <;> rfl) rfl (fun w6 hp => ?_); have BP := Aside0.mk hp.box; have HB6 := Aside0.mk (hp.bl _ HB5.out (Nat.le_of_eq HG1.out.symm)); have z0 : w6.cell? ⟨g1, 0, none⟩ = some (.bool q.f0) := (blk_cell BP.out 0).trans rfl; have z1 : w6.cell? ⟨g1, 1, none⟩ = some (.int .u32 q.f1.f0) := (blk_cell BP.out 1).trans rfl; have z2 : w6.cell? ⟨g1, 2, none⟩ = some (.int .i64 q.f1.f1) := (blk_cell BP.out 2).trans rfl; have z3 : w6.cell? ⟨g1, 3, none⟩ = some (.int .i64 q.f2) := (blk_cell BP.out 3).trans rfl; clear hp)
              | (go_at_call 8; (with_reducible refine (TL.out.add HB6.out LNM.out OKQ.out.1 OKQ.out.2 _ _).mono ?_); rintro e w7 ⟨rfl, h7, hk7⟩; have T7 := Aside0.mk h7; have BP7 := Aside0.mk ((hk7 g1 (Nat.le_of_eq HG1.out.symm) (blk_lt BP.out)).trans BP.out); clear z0 z1 z2 z3; have z0 : w7.cell? ⟨g1, 0, none⟩ = some (.bool q.f0) := (blk_cell BP7.out 0).trans rfl; have z1 : w7.cell? ⟨g1, 1, none⟩ = some (.int .u32 q.f1.f0) := (blk_cell BP7.out 1).trans rfl; have z2 : w7.cell? ⟨g1, 2, none⟩ = some (.int .i64 q.f1.f1) := (blk_cell BP7.out 2).trans rfl; have z3 : w7.cell? ⟨g1, 3, none⟩ = some (.int .i64 q.f2) := (blk_cell BP7.out 3).trans rfl; obtain ⟨S, hs1, hs2, hs3, hs4⟩ := T7.out.out; have S1 := Aside0.mk hs1; have SB := Aside0.mk hs2; have S3 := Aside0.mk hs3; have S4 := Aside0.mk hs4; clear hs1 hs2 hs3 hs4; clear h7 hk7)
              | ((with_reducible refine gate_builtin (b := .append) (xs := #[.tmp 54, .tmp 56]) rfl ?_); at_builtin; refine Kd.R_append k35 (w0 := w) w.heap.size rfl (.tmp 54) (.tmp 56) 22 35 (.agg #[.bool false, .int .u32 0, .int .i64 0, .int .i64 0]) 32 rfl Try.underlying22 info35 rfl (by decide) (by omega) u12 pt q [.bool q.f0, .int .u32 q.f1.f0, .int .i64 q.f1.f1, .int .i64 q.f2] (fun k => ¬ S k) (fun _ => False) rfl (by first | rfl | (go_simp; done) | (go_simp; rfl)) ?aP (fun _ hk => hk.elim) ?aF ?aO ?aB ?aS ?aL ?_; (case aP => exact k35_mkM _ _ _ q); (case aF => exact (fun k hk hS => absurd (SB.out k hS) (by omega))); (case aO => exact S4.out); (case aB => exact S1.out.bl); (case aS => exact S1.out.bl.size); (case aL => have := PLN.out; omega); intro v9 w9 ho hb9 hg9 hat9; have T9 := Aside0.mk (Bk.append S1.out SB.out S3.out S4.out ho hb9 hg9); clear ho hb9 hg9 hat9))
            go_roundg (l1.length - (i + 1))
            case measure => have := HI.out; have := HLT.out; omega
            case rel => exact ⟨i + 1, ii + 1, by have := HLT.out; omega, by rw [wrap64_id _ (by have := HII.out; omega) (by have := HII.out; have := HLT.out; have := HL1.out; omega)], ⟨by have := HII.out; omega⟩, ⟨by
              rw [← TK.out]
              unfold addP
              rw [if_pos (show (addL (Ml, pt).1 q.f1.f0.toNat q.f1.f1 q.f2).1 = 0 from beq_iff_eq.1 HBU.out)]
              exact T9.out⟩⟩
          · have HBU := Aside0.mk hbu
            go_wp2_with (first
              | ((with_reducible refine gate_dst (N := 14) rfl ?_); refine box_event ?hg (N := 14) ?hd (cs := #[.bool false, .int .u32 0, .int .i64 0, .int .i64 0]) (t := 35) ?hr ?_; (case hd => rfl); (case hg => rfl); (case hr => first | (go_simp; done) | (go_simp; rfl)); intro g1 hg1 w5 hbox hb; have BO := Aside0.mk hbox; have HB5 := Aside0.mk hb; have HG1 := Aside0.mk hg1; clear hg1 hbox hb)
              | ((with_reducible refine gate_ (.store 35 (.tmp 14) (.tmp 47)) rfl ?_); refine Hand.wpList_store_blk rfl rfl 35 (.tmp 14) (.tmp 47) rfl [.bool q.f0, .int .u32 q.f1.f0, .int .i64 q.f1.f1, .int .i64 q.f2] #[.bool q.f0, .int .u32 q.f1.f0, .int .i64 q.f1.f1, .int .i64 q.f2] rfl rfl BO.out rfl size35 (Nat.le_refl 4) (fun u hu => by simp at hu; rcases hu with rfl | rfl | rfl | rfl <;> rfl) rfl (fun w6 hp => ?_); have BP := Aside0.mk hp.box; have HB6 := Aside0.mk (hp.bl _ HB5.out (Nat.le_of_eq HG1.out.symm)); have z0 : w6.cell? ⟨g1, 0, none⟩ = some (.bool q.f0) := (blk_cell BP.out 0).trans rfl; have z1 : w6.cell? ⟨g1, 1, none⟩ = some (.int .u32 q.f1.f0) := (blk_cell BP.out 1).trans rfl; have z2 : w6.cell? ⟨g1, 2, none⟩ = some (.int .i64 q.f1.f1) := (blk_cell BP.out 2).trans rfl; have z3 : w6.cell? ⟨g1, 3, none⟩ = some (.int .i64 q.f2) := (blk_cell BP.out 3).trans rfl; clear hp)
              | (go_at_call 8; (with_reducible refine (TL.out.add HB6.out LNM.out OKQ.out.1 OKQ.out.2 _ _).mono ?_); rintro e w7 ⟨rfl, h7, hk7⟩; have T7 := Aside0.mk h7; clear z0 z1 z2 z3; clear h7 hk7))
            go_roundg (l1.length - (i + 1))
            case measure => have := HI.out; have := HLT.out; omega
            case rel => exact ⟨i + 1, ii + 1, by have := HLT.out; omega, by rw [wrap64_id _ (by have := HII.out; omega) (by have := HII.out; have := HLT.out; have := HL1.out; omega)], ⟨by have := HII.out; omega⟩, ⟨by
              rw [← TK.out]
              unfold addP
              rw [if_neg (show ¬ (addL (Ml, pt).1 q.f1.f0.toNat q.f1.f1 q.f2).1 = 0 from fun he => by have := HBU.out; rw [beq_eq_false_iff_ne] at this; exact this he)]
              exact T7.out⟩⟩
        · have hcn : decide (ii < (l1.length : Int)) = false := decide_eq_false (by have := HII.out; omega)
          obtain rfl : i = l1.length := by omega
          rw [List.take_length] at TL
          have INV := Aside0.mk (addsP_inv SL.out HOK1.out)
          have LN3 := Aside0.mk (show (addsP L l1).1.length ≤ 1000 ∧ (addsP L l1).2.length ≤ 100 by have h1 := addsP_len L l1; have := HL1.out; have := LN.out; omega)
          clear hi hlt
          generalize addsP L l1 = s at TL INV LN3
          obtain ⟨A9, c9, hv9⟩ := Kd.R_slice TL.out.row2
          subst hv9
          have N1 := Aside0.mk (show s.2.length ≤ 100 from LN3.out.2)
          go_wp2
          go_loopg [61] s.2.length (fun kq v61 wl => ∃ (i : Nat) (ii : Int), i + kq = s.2.length ∧ v61 = .int .i64 ii ∧ Aside0 (ii = (i : Int)) ∧ Aside0 (Bk w wl ga (delT s.1 s.2 a2.toNat i) (.slice X7 L.length x7) (L.map toS) (.slice A9 s.2.length c9) s.2))
          case atStart => exact ⟨0, 0, by omega, rfl, ⟨rfl⟩, TL⟩
          case round =>
            clear TL
            obtain ⟨i, ii, hi, rfl, HII, TL⟩ := hrel
            have HI := Aside0.mk hi
            by_cases hlt : i < s.2.length
            · have hcn : decide (ii < (s.2.length : Int)) = true := decide_eq_true (by have := HII.out; omega)
              have HLT := Aside0.mk hlt
              have HM := Aside0.mk (Nat.mod_lt (i + a2.toNat) (show 0 < s.2.length by omega))
              obtain ⟨ji, hj⟩ : ∃ j : Int, j = (((i + a2.toNat) % s.2.length : Nat) : Int) := ⟨_, rfl⟩
              have hji : (wrap64 (ii + wrap64 a2)).tmod (s.2.length : Int) = ji := by
                have h1 := HA.out
                have h2 := N1.out
                have h3 := HII.out
                rw [wrap64_id a2 (by omega) (by omega), wrap64_id _ (by omega) (by omega), hj, show ii + a2 = ((i + a2.toNat : Nat) : Int) by omega]
                exact (Int.ofNat_tmod _ _).symm
              have p : 0 ≤ ji := by omega
              have q : ji < (s.2.length : Int) := by have := HM.out; omega
              obtain ⟨ad, e1, hx0, hx1, hx2, hx3⟩ := at_T35 (Kd.R_reads' TL.out.row2).2.2 ji p q
              cases e1
              have hmem : rd_T35 s.2 ji ∈ s.2 := by rw [hj]; exact rd_mem HM.out
              have OKQ := Aside0.mk (INV.out.ok _ hmem).1
              have DL := Aside0.mk (show delL (delT s.1 s.2 a2.toNat i) (rd_T35 s.2 ji).f1.f0.toNat (rd_T35 s.2 ji).f1.f1 (rd_T35 s.2 ji).f2 = (0, delT s.1 s.2 a2.toNat (i + 1)) by
                rw [delL_ok OKQ.out (INV.out.ok _ hmem).2.1 (by rw [hj]; exact delT_has INV.out hlt), hj]
                rfl)
              have LN4 := Aside0.mk (show (delT s.1 s.2 a2.toNat i).length ≤ 1000 from Nat.le_trans (delT_len i) LN3.out.1)
              clear hj hmem
              generalize rd_T35 s.2 ji = q at hx0 hx1 hx2 hx3 OKQ DL
              replace p := eq_true p
              clear hi
              go_wp2_with (first
                | ((with_reducible refine gate_dst (N := 16) rfl ?_); refine box_event ?hg (N := 16) ?hd (cs := #[.bool false, .int .u32 0, .int .i64 0, .int .i64 0]) (t := 35) ?hr ?_; (case hd => rfl); (case hg => rfl); (case hr => first | (go_simp; done) | (go_simp; rfl)); intro g1 hg1 w5 hbox hb; have BO := Aside0.mk hbox; have HB5 := Aside0.mk hb; have HG1 := Aside0.mk hg1; clear hg1 hbox hb)
                | ((with_reducible refine gate_ (.store 35 (.tmp 16) (.tmp 73)) rfl ?_); refine Hand.wpList_store_blk rfl rfl 35 (.tmp 16) (.tmp 73) rfl [.bool q.f0, .int .u32 q.f1.f0, .int .i64 q.f1.f1, .int .i64 q.f2] #[.bool q.f0, .int .u32 q.f1.f0, .int .i64 q.f1.f1, .int .i64 q.f2] rfl rfl BO.out rfl size35 (Nat.le_refl 4) (fun u hu => by simp at hu; rcases hu with rfl | rfl | rfl | rfl <;> rfl) rfl (fun w6 hp => ?_); have BP := Aside0.mk hp.box; have HB6 := Aside0.mk (hp.bl _ HB5.out (Nat.le_of_eq HG1.out.symm)); have z0 : w6.cell? ⟨g1, 0, none⟩ = some (.bool q.f0) := (blk_cell BP.out 0).trans rfl; have z1 : w6.cell? ⟨g1, 1, none⟩ = some (.int .u32 q.f1.f0) := (blk_cell BP.out 1).trans rfl; have z2 : w6.cell? ⟨g1, 2, none⟩ = some (.int .i64 q.f1.f1) := (blk_cell BP.out 2).trans rfl; have z3 : w6.cell? ⟨g1, 3, none⟩ = some (.int .i64 q.f2) := (blk_cell BP.out 3).trans rfl; clear hp)
                | (go_at_call 14; (with_reducible refine (TL.out.dropOk HB6.out LN4.out OKQ.out.1 OKQ.out.2 _ _ DL.out).mono ?_); rintro e w7 ⟨rfl, h7⟩; have T7 := Aside0.mk h7; clear h7 z0 z1 z2 z3))
              go_roundg (s.2.length - (i + 1))
              case measure => have := HI.out; have := HLT.out; omega
              case rel => exact ⟨i + 1, ii + 1, by have := HLT.out; omega, by rw [wrap64_id _ (by have := HII.out; omega) (by have := HII.out; have := HLT.out; have := N1.out; omega)], ⟨by have := HII.out; omega⟩, T7⟩
            · have hcn : decide (ii < (s.2.length : Int)) = false := decide_eq_false (by have := HII.out; omega)
              obtain rfl : i = s.2.length := by omega
              clear hi hlt
              have TE := Aside0.mk (show Bk w wr ga L (.slice X7 L.length x7) (L.map toS) (.slice A9 s.2.length c9) s.2 by have := TL.out; rwa [delT_end SL.out INV.out] at this)
              clear TL
              go_wp2_with (first
                | (go_at_call 9; (with_reducible refine (TE.out.all (Below.refl _ _) LN2.out).mono ?_); rintro e w17 ⟨v8, rfl, h8, hb8⟩; obtain ⟨X8, x8, rfl, hx8, hC8⟩ := Kd.R_reads h8; rw [List.length_map]; rw [List.length_map] at h8 hx8; have R8 := Aside0.mk h8; have T17 := Aside0.mk (TE.out.below hb8); clear h8 hb8 hx8 hC8)
                | (go_at_call 10; (with_reducible refine (T17.out.size (Below.refl _ _)).mono ?_); rintro e w18 ⟨rfl, hb8⟩; rw [← SZ.out]; have T18 := Aside0.mk (T17.out.below hb8); have C8 := Aside0.mk (Kd.R_reads' (Kd.R_below R8.out hb8)).2.2; have C7 := Aside0.mk (show Kd.C k42 w18 X7 (L.map toS).length (L.map toS) from (Kd.R_reads' (Kd.R_below T17.out.row1 hb8)).2.2); clear hb8))
              go_loopg [94] L.length (fun kq v94 wl => ∃ (j : Nat) (ji : Int), j + kq = L.length ∧ v94 = .int .i64 ji ∧ Aside0 (ji = (j : Int)) ∧ Aside0 (Below w18.heap.size w18 wl))
              case atStart => exact ⟨0, 0, by omega, rfl, ⟨rfl⟩, ⟨Below.refl _ _⟩⟩
              case round =>
                obtain ⟨j, ji, hj, rfl, HJI, BL⟩ := hrel
                have HJ := Aside0.mk hj
                by_cases hlj : j < L.length
                · have hcj : decide (ji < (L.length : Int)) = true := decide_eq_true (by have := HJI.out; omega)
                  have HLJ := Aside0.mk hlj
                  have p : 0 ≤ ji := by have := HJI.out; omega
                  have q : ji < ((L.map toS).length : Int) := by rw [List.length_map]; have := HJI.out; omega
                  obtain ⟨ad7, e7, hx0, hx1, hx2⟩ := at_T42 (Kd.C_below C7.out BL.out) ji p q
                  obtain ⟨ad8, e8, hy0, hy1, hy2⟩ := at_T42 (Kd.C_below C8.out BL.out) ji p q
                  subst e7
                  subst e8
                  generalize rd_T42 (L.map toS) ji = x at hx0 hx1 hx2 hy0 hy1 hy2
                  have hX0 := Aside0.mk hx0
                  have hX1 := Aside0.mk hx1
                  have hX2 := Aside0.mk hx2
                  have hY0 := Aside0.mk hy0
                  have hY1 := Aside0.mk hy1
                  have hY2 := Aside0.mk hy2
                  have q2 : ji < (L.length : Int) := by have := HJI.out; omega
                  replace p := eq_true p
                  have BD := Aside0.mk (below_drew1 BL.out)
                  clear hj hlj q hx0 hx1 hx2 hy0 hy1 hy2
                  go_wp2
                  have hb6 := below_drew1 (Below.refl wr.heap.size wr)
                  have hq0 := pw_cell_below hb6 hX0.out
                  have hq1 := pw_cell_below hb6 hX1.out
                  have hq2 := pw_cell_below hb6 hX2.out
                  have hq3 := pw_cell_below hb6 hY0.out
                  have hq4 := pw_cell_below hb6 hY1.out
                  have hq5 := pw_cell_below hb6 hY2.out
                  refine start_ (n := 9) (S := fun w' => w'.cell? (ad7.add (ji.toNat * 3)) = some (.int .u32 x.f0.f0) ∧ w'.cell? ⟨(ad7.add (ji.toNat * 3)).block, (ad7.add (ji.toNat * 3)).off + 1, none⟩ = some (.int .i64 x.f0.f1) ∧ w'.cell? ⟨(ad7.add (ji.toNat * 3)).block, (ad7.add (ji.toNat * 3)).off + 2, none⟩ = some (.int .i64 x.f1) ∧ w'.cell? (ad8.add (ji.toNat * 3)) = some (.int .u32 x.f0.f0) ∧ w'.cell? ⟨(ad8.add (ji.toNat * 3)).block, (ad8.add (ji.toNat * 3)).off + 1, none⟩ = some (.int .i64 x.f0.f1) ∧ w'.cell? ⟨(ad8.add (ji.toNat * 3)).block, (ad8.add (ji.toNat * 3)).off + 2, none⟩ = some (.int .i64 x.f1)) (ds := []) #[false, false, false, false, false, false, false, false, false] (by kernel_rfl) rfl rfl ⟨hq0, hq1, hq2, hq3, hq4, hq5⟩ (fun hHeld => ?_)
                  refine with_tabW back_.tab30 back_.bits30 (fun HT_ HW_ => ?_)
                  clear hq0 hq1 hq2 hq3 hq4 hq5 hb6
                  generalize wr.drew = wd at BD hHeld ⊢
                  refine pure_ (i := 0) (N := some 97) (v := ?_) (a' := ?_) #[true, false, false, false, false, false, false, false, false] rfl rfl (any_of HT_.out (by kernel_rfl)) (fun _ _ _ h => h) (Or.inl ⟨by rfl, ?_⟩) ?_ ?_
                  rotate_left
                  · intro w'
                    go_simp
                    with_reducible rfl
                  rotate_left
                  · simp only [Act.put, List.setIfInBounds_toArray, List.set_cons_zero, List.set_cons_succ, i64_w, i32_w]
                    rfl
                  refine pure_ (i := 1) (N := some 98) (v := ?_) (a' := ?_) #[true, true, false, false, false, false, false, false, false] rfl rfl (any_of HT_.out (by kernel_rfl)) (fun _ _ _ h => h) (Or.inl ⟨by rfl, ?_⟩) ?_ ?_
                  rotate_left
                  · intro w'
                    go_simp
                    with_reducible rfl
                  rotate_left
                  · simp only [Act.put, List.setIfInBounds_toArray, List.set_cons_zero, List.set_cons_succ, i64_w, i32_w]
                    rfl
                  refine pure_ (i := 2) (N := some 99) (v := ?_) (a' := ?_) #[true, true, true, false, false, false, false, false, false] rfl rfl (any_of HT_.out (by kernel_rfl)) (fun _ _ _ h => h) (Or.inl ⟨by rfl, ?_⟩) ?_ ?_
                  rotate_left
                  · intro w'
                    go_simp
                    with_reducible rfl
                  rotate_left
                  · simp only [Act.put, List.setIfInBounds_toArray, List.set_cons_zero, List.set_cons_succ, i64_w, i32_w]
                    rfl
                  refine pure_ (i := 4) (N := some 101) (v := ?_) (a' := ?_) #[true, true, true, false, true, false, false, false, false] rfl rfl (any_of HT_.out (by kernel_rfl)) (fun _ _ _ h => h) (Or.inl ⟨by rfl, ?_⟩) ?_ ?_
                  rotate_left
                  · intro w'
                    go_simp
                    with_reducible rfl
                  rotate_left
                  · simp only [Act.put, List.setIfInBounds_toArray, List.set_cons_zero, List.set_cons_succ, i64_w, i32_w]
                    rfl
                  refine pure_ (i := 5) (N := some 102) (v := ?_) (a' := ?_) #[true, true, true, false, true, true, false, false, false] rfl rfl (any_of HT_.out (by kernel_rfl)) (fun _ _ _ h => h) (Or.inl ⟨by rfl, ?_⟩) ?_ ?_
                  rotate_left
                  · intro w'
                    go_simp
                    with_reducible rfl
                  rotate_left
                  · simp only [Act.put, List.setIfInBounds_toArray, List.set_cons_zero, List.set_cons_succ, i64_w, i32_w]
                    rfl
                  refine pure_ (i := 6) (N := some 103) (v := ?_) (a' := ?_) #[true, true, true, false, true, true, true, false, false] rfl rfl (any_of HT_.out (by kernel_rfl)) (fun _ _ _ h => h) (Or.inl ⟨by rfl, ?_⟩) ?_ ?_
                  rotate_left
                  · intro w'
                    go_simp
                    with_reducible rfl
                  rotate_left
                  · simp only [Act.put, List.setIfInBounds_toArray, List.set_cons_zero, List.set_cons_succ, i64_w, i32_w]
                    rfl
                  refine take_ (i := 3) (N := some 100) (v := ?_) (a' := ?_) #[true, true, true, true, true, true, true, false, false] rfl rfl (take_ofW HT_.out HW_.out (by kernel_rfl)) (fun _ _ _ h => h) (Or.inl ⟨by rfl, ?_⟩) hHeld ?_ ?_
                  rotate_left
                  · rintro w' ⟨s0, s1, s2, s3, s4, s5⟩
                    go_simp
                    with_reducible rfl
                  rotate_left
                  · simp only [Act.put, List.setIfInBounds_toArray, List.set_cons_zero, List.set_cons_succ, i64_w, i32_w]
                    rfl
                  refine take_ (i := 7) (N := some 104) (v := ?_) (a' := ?_) #[true, true, true, true, true, true, true, true, false] rfl rfl (take_ofW HT_.out HW_.out (by kernel_rfl)) (fun _ _ _ h => h) (Or.inl ⟨by rfl, ?_⟩) hHeld ?_ ?_
                  rotate_left
                  · rintro w' ⟨s0, s1, s2, s3, s4, s5⟩
                    go_simp
                    with_reducible rfl
                  rotate_left
                  · simp only [Act.put, List.setIfInBounds_toArray, List.set_cons_zero, List.set_cons_succ, i64_w, i32_w]
                    rfl
                  refine pure_ (i := 8) (N := some 105) (v := ?_) (a' := ?_) #[true, true, true, true, true, true, true, true, true] rfl rfl (any_of HT_.out (by kernel_rfl)) (fun _ _ _ h => h) (Or.inl ⟨by rfl, ?_⟩) ?_ ?_
                  rotate_left
                  · intro w'
                    go_simp
                    with_reducible rfl
                  rotate_left
                  · simp only [Act.put, List.setIfInBounds_toArray, List.set_cons_zero, List.set_cons_succ, i64_w, i32_w]
                    rfl
                  refine done_ (done_of HT_.out (by kernel_rfl)) ?_
                  go_wp2
                  go_roundg (L.length - (j + 1))
                  case measure => have := HJ.out; have := HLJ.out; omega
                  case rel => exact ⟨j + 1, ji + 1, by have := HLJ.out; omega, by rw [wrap64_id _ (by have := HJI.out; omega) (by have := HJI.out; have := HLJ.out; have := LN.out; omega)], ⟨by have := HJI.out; omega⟩, BD⟩
                · have hcj : decide (ji < (L.length : Int)) = false := decide_eq_false (by have := HJI.out; omega)
                  obtain rfl : j = L.length := by omega
                  have T19 := Aside0.mk (T18.out.below BL.out)
                  clear hj hlj
                  go_wp2_with (first
                    | (go_at_call 7; refine (awake_.calls _).mono ?_; rintro e w20 ⟨rfl, hb⟩; have B20 := Aside0.mk (T19.out.below hb).bl; clear hb))
                  go_ret
                  exact ⟨rfl, B20.out⟩


/-! ### crossbucklaw10_TrieBack: function 5 (by hand) -/
def crossbucklaw10_TrieBack.f (l0 : List S35) (l1 : List S35) (a2 : Int) : Option Bool := if (∀ o ∈ l0, okO o) ∧ (∀ o ∈ l1, okO o) ∧ 0 ≤ a2 ∧ a2 < 256 then some true else none
set_option maxHeartbeats 8000000 in
set_option maxRecDepth 100000 in
theorem back_long (A0 : Option Addr) (c0 : Nat) (l0 : List S35) (A1 : Option Addr) (c1 : Nat) (l1 : List S35) (a2 : Int) (w : World) (h : 40 < l0.length ∨ 40 < l1.length) :
    Calls Try.prog 5 #[.slice A0 l0.length c0, .slice A1 l1.length c1, .int .u8 a2] w fun e w' => e = .returned (.bool true) ∧ Below w.heap.size w w' := by
  have B0 := Aside0.mk (Below.refl w.heap.size w)
  by_cases h0 : 40 < l0.length
  · have q1 : decide (40 < l0.length) = true := decide_eq_true h0
    have q3 : decide ((40 : Int) < (l0.length : Int)) = true := decide_eq_true (by omega)
    clear h h0
    go_enter Try.func5, Try.ntmps5
    go_wp2_with (first
      | (go_at_call 7; refine (awake_.calls _).mono ?_; rintro e w5 ⟨rfl, hb⟩; have B5 := Aside0.mk (below_step B0.out hb); clear hb))
    go_ret
    exact ⟨rfl, B5.out⟩
  · have q1 : decide (40 < l0.length) = false := decide_eq_false h0
    have q3 : decide ((40 : Int) < (l0.length : Int)) = false := decide_eq_false (by omega)
    have q5 : decide (40 < l1.length) = true := decide_eq_true (by omega)
    have q6 : decide ((40 : Int) < (l1.length : Int)) = true := decide_eq_true (by omega)
    clear h h0
    go_enter Try.func5, Try.ntmps5
    go_wp2_with (first
      | (go_at_call 7; refine (awake_.calls _).mono ?_; rintro e w5 ⟨rfl, hb⟩; have B5 := Aside0.mk (below_step B0.out hb); clear hb))
    go_ret
    exact ⟨rfl, B5.out⟩
theorem crossbucklaw10_TrieBack.calls (A0 : Option Addr) (c0 : Nat) (l0 : List S35) (A1 : Option Addr) (c1 : Nat) (l1 : List S35) (a2 : Int) (r : Bool) (w : World) (hr0 : Kd.C k35 w A0 l0.length l0) (hc0 : l0.length ≤ c0) (hr1 : Kd.C k35 w A1 l1.length l1) (hc1 : l1.length ≤ c1) (h : crossbucklaw10_TrieBack.f l0 l1 a2 = some r) :
    Calls Try.prog 5 #[.slice A0 l0.length c0, .slice A1 l1.length c1, .int .u8 a2] w fun e w' => e = .returned (.bool r) ∧ Below w.heap.size w w' := by
  unfold crossbucklaw10_TrieBack.f at h
  by_cases hk : (∀ o ∈ l0, okO o) ∧ (∀ o ∈ l1, okO o) ∧ 0 ≤ a2 ∧ a2 < 256
  · rw [if_pos hk] at h
    obtain rfl := Option.some.inj h
    by_cases h1 : 40 < l0.length ∨ 40 < l1.length
    · exact back_long A0 c0 l0 A1 c1 l1 a2 w h1
    · exact back_walk A0 c0 l0 A1 c1 l1 a2 w hr0 hr1 (by omega) (by omega) hk.1 hk.2.1 hk.2.2.1 hk.2.2.2
  · rw [if_neg hk] at h
    cases h

end Go.Proofs.Ytbmibakhpealjaa.PTr
