-- Written by wip/myprint.py and wip/merge.py (this session's own programs); Lean checks it.
import Derived.Test.YtdemogdagemagaaPTgx0
import Derived.Test.YtdemogdagemagaaPTgx6
import Derived.Test.YtdemogdagemagaaPTgx7
import Derived.Test.YtdemogdagemagaaPTgx8
namespace Go.Proofs.Ytdemogdagemagaa.PTg
open Go.RowKit Go.Proofs.YtdemogdagemagaaW.PrintWords Go.Proofs.YtdemogdagemagaaW.PrintLast Go.Proofs.YtdemogdagemagaaW.PrintMore
attribute [local go_sem] max2_int min2_int max_two min_two max_three min_three max_four min_four   -- for this text's walks alone
set_option linter.unusedVariables false
set_option linter.unusedSimpArgs false

attribute [local go_sem high] eqA90
/-! ### crossbuckref05_Check: function 14 -/
mutual
def crossbuckref05_Check.j0 : Nat → Bool → List Int → List (S39) → List (S52) → Option (Int)
  | 0, _, _, _, _ => none
  | k + 1, x26, x147000, x147001, x147002 => if x26 = true then (some 15) else (crossbuckref05_Check.l0 k 0 x147000 x147001 x147002)
def crossbuckref05_Check.l0 : Nat → Int → List Int → List (S39) → List (S52) → Option (Int)
  | 0, _, _, _, _ => none
  | k + 1, x3, x147000, x147001, x147002 => if x3 < (x147000.length : Int) then (if 0 ≤ x3 then (if (rd x147000 x3) < 0 then (some 11) else (if (rd x147000 x3) > 8 then (some 11) else (crossbuckref05_Check.l0 k (wrap64 (x3 + 1)) x147000 x147001 x147002))) else (none)) else ((crossbuckref05_Ends.f k x147000 x147001 x147002).bind fun t149 => (crossbuckref05_Check.l1 k t149 0 x147000 x147001 x147002))
def crossbuckref05_Check.l1 : Nat → List (S90) → Int → List Int → List (S39) → List (S52) → Option (Int)
  | 0, _, _, _, _, _ => none
  | k + 1, x4, x5, x147000, x147001, x147002 => if x5 < (x4.length : Int) then (if 0 ≤ x5 then ((crossbuckref05_Port.f k x147000 x147001 x147002 ((rd_T90 x4 x5).f0) ((rd_T90 x4 x5).f1)).bind fun t154 => (if t154 = 0 then (crossbuckref05_Check.l2 k x4 x5 0 x147000 x147001 x147002) else (some t154))) else (none)) else (crossbuckref05_Check.l3 k 0 x147000 x147001 x147002)
def crossbuckref05_Check.l2 : Nat → List (S90) → Int → Int → List Int → List (S39) → List (S52) → Option (Int)
  | 0, _, _, _, _, _, _ => none
  | k + 1, x4, x5, x7, x147000, x147001, x147002 => if x7 < x5 then (if 0 ≤ x7 then (if x7 < (x4.length : Int) then (if 0 ≤ x5 then (if x5 < (x4.length : Int) then (if (((rd_T90 x4 x7).f0) == ((rd_T90 x4 x5).f0) && (((rd_T90 x4 x7).f1) == ((rd_T90 x4 x5).f1))) = true then (some 12) else (crossbuckref05_Check.l2 k x4 x5 (wrap64 (x7 + 1)) x147000 x147001 x147002)) else (none)) else (none)) else (none)) else (none)) else (crossbuckref05_Check.l1 k x4 (wrap64 (x5 + 1)) x147000 x147001 x147002)
def crossbuckref05_Check.l3 : Nat → Int → List Int → List (S39) → List (S52) → Option (Int)
  | 0, _, _, _, _ => none
  | k + 1, x8, x147000, x147001, x147002 => if x8 < (x147002.length : Int) then (if 0 ≤ x8 then ((crossbuckref05_Port.f k x147000 x147001 x147002 ((rd_T52 x147002 x8).f0) ((rd_T52 x147002 x8).f1)).bind fun t159 => (if t159 = 0 then ((crossbuckref04_Check.f k ((rd_T52 x147002 x8).f4.f0.f0) ((rd_T52 x147002 x8).f4.f0.f1) ((rd_T52 x147002 x8).f4.f1.f0) ((rd_T52 x147002 x8).f4.f1.f1) ((rd_T52 x147002 x8).f4.f2) ((rd_T52 x147002 x8).f4.f3.f0) ((rd_T52 x147002 x8).f4.f3.f1) ((rd_T52 x147002 x8).f4.f4.f0) ((rd_T52 x147002 x8).f4.f4.f1)).bind fun t161 => (if t161 = 0 then (crossbuckref05_Check.l3 k (wrap64 (x8 + 1)) x147000 x147001 x147002) else (some t161))) else (some t159))) else (none)) else (some 0)
end
def crossbuckref05_Check.f (k : Nat) (l0_0 : List Int) (l0_1 : List (S39)) (l0_2 : List (S52)) : Option (Int) := if (l0_0.length : Int) < 1 then (crossbuckref05_Check.j0 k true l0_0 l0_1 l0_2) else (if (l0_0.length : Int) > 16 then (crossbuckref05_Check.j0 k true l0_0 l0_1 l0_2) else (crossbuckref05_Check.j0 k (decide ((l0_2.length : Int) > 32)) l0_0 l0_1 l0_2))
theorem crossbuckref05_Check.mono_l : ∀ k, (∀ y0 y1 y2 y3, LeO (crossbuckref05_Check.j0 k y0 y1 y2 y3) (crossbuckref05_Check.j0 (k + 1) y0 y1 y2 y3)) ∧ (∀ y0 y1 y2 y3, LeO (crossbuckref05_Check.l0 k y0 y1 y2 y3) (crossbuckref05_Check.l0 (k + 1) y0 y1 y2 y3)) ∧ (∀ y0 y1 y2 y3 y4, LeO (crossbuckref05_Check.l1 k y0 y1 y2 y3 y4) (crossbuckref05_Check.l1 (k + 1) y0 y1 y2 y3 y4)) ∧ (∀ y0 y1 y2 y3 y4 y5, LeO (crossbuckref05_Check.l2 k y0 y1 y2 y3 y4 y5) (crossbuckref05_Check.l2 (k + 1) y0 y1 y2 y3 y4 y5)) ∧ (∀ y0 y1 y2 y3, LeO (crossbuckref05_Check.l3 k y0 y1 y2 y3) (crossbuckref05_Check.l3 (k + 1) y0 y1 y2 y3))
  | 0 => ⟨fun _ _ _ _ r h => by simp [crossbuckref05_Check.j0] at h, fun _ _ _ _ r h => by simp [crossbuckref05_Check.l0] at h, fun _ _ _ _ _ r h => by simp [crossbuckref05_Check.l1] at h, fun _ _ _ _ _ _ r h => by simp [crossbuckref05_Check.l2] at h, fun _ _ _ _ r h => by simp [crossbuckref05_Check.l3] at h⟩
  | k + 1 => by
    obtain ⟨ih0, ih1, ih2, ih3, ih4⟩ := crossbuckref05_Check.mono_l k
    refine ⟨?_, ?_, ?_, ?_, ?_⟩
    · intro y0 y1 y2 y3
      unfold crossbuckref05_Check.j0
      repeat' first
      | (with_reducible exact ih0 _ _ _ _)
      | (with_reducible exact ih1 _ _ _ _)
      | (with_reducible exact ih2 _ _ _ _ _)
      | (with_reducible exact ih3 _ _ _ _ _ _)
      | (with_reducible exact ih4 _ _ _ _)
      | (with_reducible exact crossbuckref04_Check.mono _ _ _ _ _ _ _ _ _ _)
      | (with_reducible exact crossbuckref05_Ends.mono _ _ _ _)
      | (with_reducible exact crossbuckref05_Port.mono _ _ _ _ _ _)
      | (with_reducible exact LeO.refl _)
      | (with_reducible exact LeO.none _)
      | (with_reducible refine LeO.ite ?_ ?_)
      | (with_reducible refine LeO.bind ?_ (fun _ => ?_))
      | exact ih0 _ _ _ _
      | exact ih1 _ _ _ _
      | exact ih2 _ _ _ _ _
      | exact ih3 _ _ _ _ _ _
      | exact ih4 _ _ _ _
      | exact crossbuckref04_Check.mono _ _ _ _ _ _ _ _ _ _
      | exact crossbuckref05_Ends.mono _ _ _ _
      | exact crossbuckref05_Port.mono _ _ _ _ _ _
      | exact LeO.none _
      | refine LeO.ite ?_ ?_
      | refine LeO.bind ?_ (fun _ => ?_)
    · intro y0 y1 y2 y3
      unfold crossbuckref05_Check.l0
      repeat' first
      | (with_reducible exact ih0 _ _ _ _)
      | (with_reducible exact ih1 _ _ _ _)
      | (with_reducible exact ih2 _ _ _ _ _)
      | (with_reducible exact ih3 _ _ _ _ _ _)
      | (with_reducible exact ih4 _ _ _ _)
      | (with_reducible exact crossbuckref04_Check.mono _ _ _ _ _ _ _ _ _ _)
      | (with_reducible exact crossbuckref05_Ends.mono _ _ _ _)
      | (with_reducible exact crossbuckref05_Port.mono _ _ _ _ _ _)
      | (with_reducible exact LeO.refl _)
      | (with_reducible exact LeO.none _)
      | (with_reducible refine LeO.ite ?_ ?_)
      | (with_reducible refine LeO.bind ?_ (fun _ => ?_))
      | exact ih0 _ _ _ _
      | exact ih1 _ _ _ _
      | exact ih2 _ _ _ _ _
      | exact ih3 _ _ _ _ _ _
      | exact ih4 _ _ _ _
      | exact crossbuckref04_Check.mono _ _ _ _ _ _ _ _ _ _
      | exact crossbuckref05_Ends.mono _ _ _ _
      | exact crossbuckref05_Port.mono _ _ _ _ _ _
      | exact LeO.none _
      | refine LeO.ite ?_ ?_
      | refine LeO.bind ?_ (fun _ => ?_)
    · intro y0 y1 y2 y3 y4
      unfold crossbuckref05_Check.l1
      repeat' first
      | (with_reducible exact ih0 _ _ _ _)
      | (with_reducible exact ih1 _ _ _ _)
      | (with_reducible exact ih2 _ _ _ _ _)
      | (with_reducible exact ih3 _ _ _ _ _ _)
      | (with_reducible exact ih4 _ _ _ _)
      | (with_reducible exact crossbuckref04_Check.mono _ _ _ _ _ _ _ _ _ _)
      | (with_reducible exact crossbuckref05_Ends.mono _ _ _ _)
      | (with_reducible exact crossbuckref05_Port.mono _ _ _ _ _ _)
      | (with_reducible exact LeO.refl _)
      | (with_reducible exact LeO.none _)
      | (with_reducible refine LeO.ite ?_ ?_)
      | (with_reducible refine LeO.bind ?_ (fun _ => ?_))
      | exact ih0 _ _ _ _
      | exact ih1 _ _ _ _
      | exact ih2 _ _ _ _ _
      | exact ih3 _ _ _ _ _ _
      | exact ih4 _ _ _ _
      | exact crossbuckref04_Check.mono _ _ _ _ _ _ _ _ _ _
      | exact crossbuckref05_Ends.mono _ _ _ _
      | exact crossbuckref05_Port.mono _ _ _ _ _ _
      | exact LeO.none _
      | refine LeO.ite ?_ ?_
      | refine LeO.bind ?_ (fun _ => ?_)
    · intro y0 y1 y2 y3 y4 y5
      unfold crossbuckref05_Check.l2
      repeat' first
      | (with_reducible exact ih0 _ _ _ _)
      | (with_reducible exact ih1 _ _ _ _)
      | (with_reducible exact ih2 _ _ _ _ _)
      | (with_reducible exact ih3 _ _ _ _ _ _)
      | (with_reducible exact ih4 _ _ _ _)
      | (with_reducible exact crossbuckref04_Check.mono _ _ _ _ _ _ _ _ _ _)
      | (with_reducible exact crossbuckref05_Ends.mono _ _ _ _)
      | (with_reducible exact crossbuckref05_Port.mono _ _ _ _ _ _)
      | (with_reducible exact LeO.refl _)
      | (with_reducible exact LeO.none _)
      | (with_reducible refine LeO.ite ?_ ?_)
      | (with_reducible refine LeO.bind ?_ (fun _ => ?_))
      | exact ih0 _ _ _ _
      | exact ih1 _ _ _ _
      | exact ih2 _ _ _ _ _
      | exact ih3 _ _ _ _ _ _
      | exact ih4 _ _ _ _
      | exact crossbuckref04_Check.mono _ _ _ _ _ _ _ _ _ _
      | exact crossbuckref05_Ends.mono _ _ _ _
      | exact crossbuckref05_Port.mono _ _ _ _ _ _
      | exact LeO.none _
      | refine LeO.ite ?_ ?_
      | refine LeO.bind ?_ (fun _ => ?_)
    · intro y0 y1 y2 y3
      unfold crossbuckref05_Check.l3
      repeat' first
      | (with_reducible exact ih0 _ _ _ _)
      | (with_reducible exact ih1 _ _ _ _)
      | (with_reducible exact ih2 _ _ _ _ _)
      | (with_reducible exact ih3 _ _ _ _ _ _)
      | (with_reducible exact ih4 _ _ _ _)
      | (with_reducible exact crossbuckref04_Check.mono _ _ _ _ _ _ _ _ _ _)
      | (with_reducible exact crossbuckref05_Ends.mono _ _ _ _)
      | (with_reducible exact crossbuckref05_Port.mono _ _ _ _ _ _)
      | (with_reducible exact LeO.refl _)
      | (with_reducible exact LeO.none _)
      | (with_reducible refine LeO.ite ?_ ?_)
      | (with_reducible refine LeO.bind ?_ (fun _ => ?_))
      | exact ih0 _ _ _ _
      | exact ih1 _ _ _ _
      | exact ih2 _ _ _ _ _
      | exact ih3 _ _ _ _ _ _
      | exact ih4 _ _ _ _
      | exact crossbuckref04_Check.mono _ _ _ _ _ _ _ _ _ _
      | exact crossbuckref05_Ends.mono _ _ _ _
      | exact crossbuckref05_Port.mono _ _ _ _ _ _
      | exact LeO.none _
      | refine LeO.ite ?_ ?_
      | refine LeO.bind ?_ (fun _ => ?_)
theorem crossbuckref05_Check.mono : ∀ a0 a1 a2 k, LeO (crossbuckref05_Check.f k a0 a1 a2) (crossbuckref05_Check.f (k + 1) a0 a1 a2) := by
  intro a0 a1 a2 k
  obtain ⟨ih0, ih1, ih2, ih3, ih4⟩ := crossbuckref05_Check.mono_l k
  unfold crossbuckref05_Check.f
  repeat' first
      | (with_reducible exact ih0 _ _ _ _)
      | (with_reducible exact ih1 _ _ _ _)
      | (with_reducible exact ih2 _ _ _ _ _)
      | (with_reducible exact ih3 _ _ _ _ _ _)
      | (with_reducible exact ih4 _ _ _ _)
      | (with_reducible exact crossbuckref04_Check.mono _ _ _ _ _ _ _ _ _ _)
      | (with_reducible exact crossbuckref05_Ends.mono _ _ _ _)
      | (with_reducible exact crossbuckref05_Port.mono _ _ _ _ _ _)
      | (with_reducible exact LeO.refl _)
      | (with_reducible exact LeO.none _)
      | (with_reducible refine LeO.ite ?_ ?_)
      | (with_reducible refine LeO.bind ?_ (fun _ => ?_))
      | exact ih0 _ _ _ _
      | exact ih1 _ _ _ _
      | exact ih2 _ _ _ _ _
      | exact ih3 _ _ _ _ _ _
      | exact ih4 _ _ _ _
      | exact crossbuckref04_Check.mono _ _ _ _ _ _ _ _ _ _
      | exact crossbuckref05_Ends.mono _ _ _ _
      | exact crossbuckref05_Port.mono _ _ _ _ _ _
      | exact LeO.none _
      | refine LeO.ite ?_ ?_
      | refine LeO.bind ?_ (fun _ => ?_)
def crossbuckref05_Check.T12 : Bool × List (List Nat × List Nat) := (true, [([], []), ([], []), ([], []), ([1, 2], [1, 2]), ([3], [3]), ([4], [4]), ([], []), ([], []), ([6, 7], [6, 7]), ([8], [8]), ([9], [9]), ([0, 5, 10], [0, 5, 10]), ([11, 11, 0, 1, 2, 3, 4, 5, 6, 7, 8, 9, 10, 11], [11])])
def crossbuckref05_Check.B12 : List Nat := [0, 0, 0, 6, 14, 30, 0, 0, 192, 448, 960, 2047, 4095]
theorem crossbuckref05_Check.tab12 : rtab .any (opsOf Try.f14 12) = crossbuckref05_Check.T12 := by kernel_rfl
theorem crossbuckref05_Check.bits12 : waitsOk crossbuckref05_Check.T12.2 crossbuckref05_Check.B12 = true := by kernel_rfl
def crossbuckref05_Check.T18 : Bool × List (List Nat × List Nat) := (true, [([], []), ([], []), ([0, 1], [0, 1]), ([2], [2]), ([], []), ([], []), ([4, 5], [4, 5]), ([6], [6]), ([3, 7], [3, 7])])
def crossbuckref05_Check.B18 : List Nat := [0, 0, 3, 7, 0, 0, 48, 112, 255]
theorem crossbuckref05_Check.tab18 : rtab .any (opsOf Try.f14 18) = crossbuckref05_Check.T18 := by kernel_rfl
theorem crossbuckref05_Check.bits18 : waitsOk crossbuckref05_Check.T18.2 crossbuckref05_Check.B18 = true := by kernel_rfl
def crossbuckref05_Check.T23 : Bool × List (List Nat × List Nat) := (true, [([], []), ([], []), ([1], [1]), ([], []), ([2, 3], [2, 3]), ([4], [4]), ([5], [5]), ([], []), ([7], [7]), ([], []), ([8, 9], [8, 9]), ([10], [10]), ([11], [11]), ([0, 6, 12], [0, 6, 12]), ([13, 13, 0, 1, 2, 3, 4, 5, 6, 7, 8, 9, 10, 11, 12, 13], [13])])
def crossbuckref05_Check.B23 : List Nat := [0, 0, 2, 0, 14, 30, 62, 0, 128, 0, 896, 1920, 3968, 8191, 16383]
theorem crossbuckref05_Check.tab23 : rtab .any (opsOf Try.f14 23) = crossbuckref05_Check.T23 := by kernel_rfl
theorem crossbuckref05_Check.bits23 : waitsOk crossbuckref05_Check.T23.2 crossbuckref05_Check.B23 = true := by kernel_rfl
set_option maxHeartbeats 8000000 in
set_option maxRecDepth 100000 in
theorem crossbuckref05_Check.calls (k : Nat) (A0_0 : Option Addr) (c0_0 : Nat) (l0_0 : List Int) (A0_1 : Option Addr) (c0_1 : Nat) (l0_1 : List (S39)) (A0_2 : Option Addr) (c0_2 : Nat) (l0_2 : List (S52)) (r : Int) (w : World) (hr0_0 : Kd.C (Kd.int .i64) w A0_0 l0_0.length l0_0) (hc0_0 : l0_0.length ≤ c0_0) (hr0_1 : Kd.C k39 w A0_1 l0_1.length l0_1) (hc0_1 : l0_1.length ≤ c0_1) (hr0_2 : Kd.C k52 w A0_2 l0_2.length l0_2) (hc0_2 : l0_2.length ≤ c0_2) (h : crossbuckref05_Check.f k l0_0 l0_1 l0_2 = some r) :
    Calls Try.prog 14 #[.agg #[.slice A0_0 l0_0.length c0_0, .slice A0_1 l0_1.length c0_1, .slice A0_2 l0_2.length c0_2]] w fun e w' => e = .returned (.int .i64 r) ∧ Below w.heap.size w w' := by
  have hu26 := Try.underlying26
  have hu90 := Try.underlying90
  have hu50 := Try.underlying50
  have HR0_0 := Aside0.mk hr0_0
  have HC0_0 := Aside0.mk hc0_0
  clear hr0_0 hc0_0
  have HR0_1 := Aside0.mk hr0_1
  have HC0_1 := Aside0.mk hc0_1
  clear hr0_1 hc0_1
  have HR0_2 := Aside0.mk hr0_2
  have HC0_2 := Aside0.mk hc0_2
  clear hr0_2 hc0_2
  have HB := Aside0.mk (Below.refl w.heap.size w)
  have H : (if (l0_0.length : Int) < 1 then (crossbuckref05_Check.j0 k true l0_0 l0_1 l0_2) else (if (l0_0.length : Int) > 16 then (crossbuckref05_Check.j0 k true l0_0 l0_1 l0_2) else (crossbuckref05_Check.j0 k (decide ((l0_2.length : Int) > 32)) l0_0 l0_1 l0_2))) = some r := h
  clear h
  have HC2 := Aside0.mk H
  clear H
  go_enter Try.func14, Try.ntmps14
  go_upto_region 1 with (first | ((with_reducible refine gate_dst (N := 1) rfl ?_); (try (refine gate_guard (by rfl) ?_; dsimp only)); refine box_event ?hg (N := 1) ?hd (cs := #[.slice A0_0 l0_0.length c0_0, .slice A0_1 l0_1.length c0_1, .slice A0_2 l0_2.length c0_2]) (t := 26) ?hr ?_; (case hd => rfl); (case hg => rfl); (case hr => first | (go_simp; done) | (go_simp; rfl)); intro gb146 hg w3 hbox hb; have n0_ := Aside0.mk (below_step (by repeat (first | (with_reducible first | exact HB.out | apply below_alloc | apply pw_below_drewN | apply below_drew1) | exact HB.out)) hb); have n1_ := Aside0.mk (hbox); have n2_ := Aside0.mk ((by rw [hg]; exact (below_size (by repeat (first | (with_reducible first | exact HB.out | apply below_alloc | apply pw_below_drewN | apply below_drew1) | exact HB.out))) : w.heap.size ≤ gb146)); have n3_ := Aside0.mk ((by rw [hg]; exact (below_size (by repeat (first | (with_reducible first | exact HB.out | apply below_alloc | apply pw_below_drewN | apply below_drew1) | exact HB.out))) : w.heap.size ≤ gb146)); clear HB; have HB := n0_; have BK146 := n1_; have GW146 := n2_; have GE146 := n3_; clear n0_ n1_ n2_ n3_; clear hb hbox hg))
  (try simp only [Act.put, List.setIfInBounds_toArray, List.set_cons_zero, List.set_cons_succ])
  go_cut [26] (fun v26 wc => ∃ (kq : Nat) (x26_1 : Bool), v26 = .bool x26_1 ∧ Aside0 (crossbuckref05_Check.j0 kq x26_1 l0_0 l0_1 l0_2 = some r) ∧ Aside0 (kq ≤ k) ∧ Aside0 (wc.heap[gb146]? = some (.cells #[(.slice A0_0 l0_0.length c0_0), (.slice A0_1 l0_1.length c0_1), (.slice A0_2 l0_2.length c0_2)] 26 (0, 0))) ∧ Aside0 (Below w.heap.size w wc))
  case first =>
    have H := HC2.out
    clear HC2
    by_cases c4 : (l0_0.length : Int) < 1
    · rw [if_pos c4] at H
      have c4b0 : decide ((l0_0.length : Int) < 1) = true := decide_eq_true c4
      have c4b1 : decide (l0_0.length < 1) = true := decide_eq_true (by omega)
      clear c4
      (first | rw [c4b0] | (simp only [i64_w, i32_w]; rw [c4b0]) | skip)
      have H' := Aside0.mk H
      clear H
      have hcz5_0 : w3.cell? ⟨gb146, 0, none⟩ = some (.slice A0_0 l0_0.length c0_0) := (blk_cell BK146.out 0).trans rfl
      have hcz5_1 : w3.cell? ⟨gb146, 1, none⟩ = some (.slice A0_1 l0_1.length c0_1) := (blk_cell BK146.out 1).trans rfl
      have hcz5_2 : w3.cell? ⟨gb146, 2, none⟩ = some (.slice A0_2 l0_2.length c0_2) := (blk_cell BK146.out 2).trans rfl
      have hfz5_0 := blk_frozen BK146.out 0
      have hfz5_1 := blk_frozen BK146.out 1
      have hfz5_2 := blk_frozen BK146.out 2
      go_wp2
      go_meet
      case rel => exact ⟨_, (true), (by first | rfl | (simp; done) | (simp [*]; done)), H', ⟨by first | omega | exact Nat.le_refl _⟩, ⟨by (with_reducible repeat (first | refine blk_drewN ?_ _ | refine blk_drew ?_ | refine blk_alloc ?_ _)); exact BK146.out⟩, ⟨by repeat (first | (with_reducible first | exact HB.out | apply below_alloc | apply pw_below_drewN | apply below_drew1 | refine below_set ?_ GE146.out) | exact HB.out)⟩⟩
    · rw [if_neg c4] at H
      have c4b0 : decide ((l0_0.length : Int) < 1) = false := decide_eq_false c4
      have c4b1 : decide (l0_0.length < 1) = false := decide_eq_false (by omega)
      clear c4
      (first | rw [c4b0] | (simp only [i64_w, i32_w]; rw [c4b0]) | skip)
      by_cases c6 : (l0_0.length : Int) > 16
      · rw [if_pos c6] at H
        have c6b0 : decide (16 < (l0_0.length : Int)) = true := decide_eq_true c6
        have c6b1 : decide (16 < l0_0.length) = true := decide_eq_true (by omega)
        clear c6
        have H' := Aside0.mk H
        clear H
        have hcz7_0 : w3.cell? ⟨gb146, 0, none⟩ = some (.slice A0_0 l0_0.length c0_0) := (blk_cell BK146.out 0).trans rfl
        have hcz7_1 : w3.cell? ⟨gb146, 1, none⟩ = some (.slice A0_1 l0_1.length c0_1) := (blk_cell BK146.out 1).trans rfl
        have hcz7_2 : w3.cell? ⟨gb146, 2, none⟩ = some (.slice A0_2 l0_2.length c0_2) := (blk_cell BK146.out 2).trans rfl
        have hfz7_0 := blk_frozen BK146.out 0
        have hfz7_1 := blk_frozen BK146.out 1
        have hfz7_2 := blk_frozen BK146.out 2
        go_wp2
        go_meet
        case rel => exact ⟨_, (true), (by first | rfl | (simp; done) | (simp [*]; done)), H', ⟨by first | omega | exact Nat.le_refl _⟩, ⟨by (with_reducible repeat (first | refine blk_drewN ?_ _ | refine blk_drew ?_ | refine blk_alloc ?_ _)); exact BK146.out⟩, ⟨by repeat (first | (with_reducible first | exact HB.out | apply below_alloc | apply pw_below_drewN | apply below_drew1 | refine below_set ?_ GE146.out) | exact HB.out)⟩⟩
      · rw [if_neg c6] at H
        have c6b0 : decide (16 < (l0_0.length : Int)) = false := decide_eq_false c6
        have c6b1 : decide (16 < l0_0.length) = false := decide_eq_false (by omega)
        clear c6
        have H' := Aside0.mk H
        clear H
        have hcz8_0 : w3.cell? ⟨gb146, 0, none⟩ = some (.slice A0_0 l0_0.length c0_0) := (blk_cell BK146.out 0).trans rfl
        have hcz8_1 : w3.cell? ⟨gb146, 1, none⟩ = some (.slice A0_1 l0_1.length c0_1) := (blk_cell BK146.out 1).trans rfl
        have hcz8_2 : w3.cell? ⟨gb146, 2, none⟩ = some (.slice A0_2 l0_2.length c0_2) := (blk_cell BK146.out 2).trans rfl
        have hfz8_0 := blk_frozen BK146.out 0
        have hfz8_1 := blk_frozen BK146.out 1
        have hfz8_2 := blk_frozen BK146.out 2
        go_wp2
        go_meet
        case rel => exact ⟨_, (decide ((l0_2.length : Int) > 32)), (by first | rfl | (simp; done) | (simp [*]; done)), H', ⟨by first | omega | exact Nat.le_refl _⟩, ⟨by (with_reducible repeat (first | refine blk_drewN ?_ _ | refine blk_drew ?_ | refine blk_alloc ?_ _)); exact BK146.out⟩, ⟨by repeat (first | (with_reducible first | exact HB.out | apply below_alloc | apply pw_below_drewN | apply below_drew1 | refine below_set ?_ GE146.out) | exact HB.out)⟩⟩
  case rest =>
    clear HC2
    try clear c1
    try clear p2
    try clear c4
    try clear c4b0
    try clear c4b1
    try clear c6
    try clear c6b0
    try clear c6b1
    try clear hcz5_0
    try clear hcz5_1
    try clear hcz5_2
    try clear hcz7_0
    try clear hcz7_1
    try clear hcz7_2
    try clear hcz8_0
    try clear hcz8_1
    try clear hcz8_2
    try clear hfz5_0
    try clear hfz5_1
    try clear hfz5_2
    try clear hfz7_0
    try clear hfz7_1
    try clear hfz7_2
    try clear hfz8_0
    try clear hfz8_1
    try clear hfz8_2
    obtain ⟨kq, x26_1, rfl, HA, HJ1, BK146, HB⟩ := hcut
    cases kq with
    | zero => exact absurd HA.out (by simp [crossbuckref05_Check.j0])
    | succ kj1 =>
      have H := HA.out
      clear HA
      simp only [crossbuckref05_Check.j0] at H
      by_cases c9 : x26_1 = true
      · subst c9
        have H1 : (some 15) = some r := by rw [if_pos rfl] at H; exact H
        clear H
        have H := H1
        clear H1
        obtain rfl := Option.some.inj H
        go_wp2
        go_ret
        exact ⟨by first | rfl | (simp [errW_none, errW_some] <;> rfl) | (simp [*, errW_none, errW_some] <;> rfl), by repeat (first | (with_reducible first | exact HB.out | apply below_alloc | apply pw_below_drewN | apply below_drew1 | refine below_set ?_ GE146.out) | exact HB.out)⟩
      · replace c9 := Bool.eq_false_iff.mpr c9
        subst c9
        have H1 : (crossbuckref05_Check.l0 kj1 0 l0_0 l0_1 l0_2) = some r := by rw [if_neg (show ¬ (false = true) by decide)] at H; exact H
        clear H
        have H := H1
        clear H1
        have H' := Aside0.mk H
        clear H
        go_wp2
        go_loopg [3] kj1 (fun kq v3 w' => ∃ (x3_2 : Int), v3 = .int .i64 x3_2 ∧ Aside0 (crossbuckref05_Check.l0 kq x3_2 l0_0 l0_1 l0_2 = some r) ∧ Aside0 (kq ≤ kj1) ∧ Aside0 (w'.heap[gb146]? = some (.cells #[(.slice A0_0 l0_0.length c0_0), (.slice A0_1 l0_1.length c0_1), (.slice A0_2 l0_2.length c0_2)] 26 (0, 0))) ∧ Aside0 (Below w.heap.size w w'))
        case atStart => exact ⟨(0), (by first | rfl | (simp; done) | (simp [*]; done)), H', ⟨Nat.le_refl _⟩, ⟨by (with_reducible repeat (first | refine blk_drewN ?_ _ | refine blk_drew ?_ | refine blk_alloc ?_ _)); exact BK146.out⟩, ⟨by repeat (first | (with_reducible first | exact HB.out | apply below_alloc | apply pw_below_drewN | apply below_drew1 | refine below_set ?_ GE146.out) | exact HB.out)⟩⟩
        case round =>
          clear H'
          try clear c1
          try clear p2
          try clear c4
          try clear c4b0
          try clear c4b1
          try clear c6
          try clear c6b0
          try clear c6b1
          try clear c9
          try clear hcz5_0
          try clear hcz5_1
          try clear hcz5_2
          try clear hcz7_0
          try clear hcz7_1
          try clear hcz7_2
          try clear hcz8_0
          try clear hcz8_1
          try clear hcz8_2
          try clear hfz5_0
          try clear hfz5_1
          try clear hfz5_2
          try clear hfz7_0
          try clear hfz7_1
          try clear hfz7_2
          try clear hfz8_0
          try clear hfz8_1
          try clear hfz8_2
          try clear p2
          obtain ⟨x3_2, rfl, HA, HK2, BK146, HB⟩ := hrel
          cases gk with
          | zero => exact absurd HA.out (by simp [crossbuckref05_Check.l0])
          | succ k2 =>
            have H := HA.out
            clear HA
            simp only [crossbuckref05_Check.l0] at H
            by_cases c10 : x3_2 < (l0_0.length : Int)
            · rw [if_pos c10] at H
              have c10b0 : decide (x3_2 < (l0_0.length : Int)) = true := decide_eq_true c10
              clear c10
              by_cases c11 : 0 ≤ x3_2
              · rw [if_pos c11] at H
                have c11b0 : decide (0 ≤ x3_2) = true := decide_eq_true c11
                clear c11
                by_cases c12 : (rd l0_0 x3_2) < 0
                · rw [if_pos c12] at H
                  have c12b0 : decide ((rd l0_0 x3_2) < 0) = true := decide_eq_true c12
                  clear c12
                  obtain rfl := Option.some.inj H
                  have hcz13_0 : wr.cell? ⟨gb146, 0, none⟩ = some (.slice A0_0 l0_0.length c0_0) := (blk_cell BK146.out 0).trans rfl
                  have hcz13_1 : wr.cell? ⟨gb146, 1, none⟩ = some (.slice A0_1 l0_1.length c0_1) := (blk_cell BK146.out 1).trans rfl
                  have hcz13_2 : wr.cell? ⟨gb146, 2, none⟩ = some (.slice A0_2 l0_2.length c0_2) := (blk_cell BK146.out 2).trans rfl
                  have hfz13_0 := blk_frozen BK146.out 0
                  have hfz13_1 := blk_frozen BK146.out 1
                  have hfz13_2 := blk_frozen BK146.out 2
                  have p147 : 0 ≤ (x3_2 : Int) := of_decide_eq_true (by first | (with_reducible assumption) | assumption)
                  have q147 : x3_2 < (l0_0.length : Int) := of_decide_eq_true (by first | (with_reducible assumption) | assumption)
                  obtain ⟨ad147, e147, hx147_0⟩ := Kd.at_int HR0_0.out x3_2 p147 q147
                  cases e147
                  replace hx147_0 := (HB.out.cell (World.block_lt_of_cell? w _ hx147_0)).trans hx147_0
                  replace p147 := eq_true p147
                  replace q147 := eq_true q147
                  go_wp2
                  go_ret
                  exact ⟨by first | rfl | (simp [errW_none, errW_some] <;> rfl) | (simp [*, errW_none, errW_some] <;> rfl), by repeat (first | (with_reducible first | exact HB.out | apply below_alloc | apply pw_below_drewN | apply below_drew1 | refine below_set ?_ GE146.out) | exact HB.out)⟩
                · rw [if_neg c12] at H
                  have c12b0 : decide ((rd l0_0 x3_2) < 0) = false := decide_eq_false c12
                  clear c12
                  by_cases c14 : (rd l0_0 x3_2) > 8
                  · rw [if_pos c14] at H
                    have c14b0 : decide (8 < (rd l0_0 x3_2)) = true := decide_eq_true c14
                    clear c14
                    obtain rfl := Option.some.inj H
                    have hcz15_0 : wr.cell? ⟨gb146, 0, none⟩ = some (.slice A0_0 l0_0.length c0_0) := (blk_cell BK146.out 0).trans rfl
                    have hcz15_1 : wr.cell? ⟨gb146, 1, none⟩ = some (.slice A0_1 l0_1.length c0_1) := (blk_cell BK146.out 1).trans rfl
                    have hcz15_2 : wr.cell? ⟨gb146, 2, none⟩ = some (.slice A0_2 l0_2.length c0_2) := (blk_cell BK146.out 2).trans rfl
                    have hfz15_0 := blk_frozen BK146.out 0
                    have hfz15_1 := blk_frozen BK146.out 1
                    have hfz15_2 := blk_frozen BK146.out 2
                    have p147 : 0 ≤ (x3_2 : Int) := of_decide_eq_true (by first | (with_reducible assumption) | assumption)
                    have q147 : x3_2 < (l0_0.length : Int) := of_decide_eq_true (by first | (with_reducible assumption) | assumption)
                    obtain ⟨ad147, e147, hx147_0⟩ := Kd.at_int HR0_0.out x3_2 p147 q147
                    cases e147
                    replace hx147_0 := (HB.out.cell (World.block_lt_of_cell? w _ hx147_0)).trans hx147_0
                    replace p147 := eq_true p147
                    replace q147 := eq_true q147
                    have p148 : 0 ≤ (x3_2 : Int) := of_decide_eq_true (by first | (with_reducible assumption) | assumption)
                    have q148 : x3_2 < (l0_0.length : Int) := of_decide_eq_true (by first | (with_reducible assumption) | assumption)
                    obtain ⟨ad148, e148, hx148_0⟩ := Kd.at_int HR0_0.out x3_2 p148 q148
                    obtain rfl : ad147 = ad148 := (by injection e148)
                    replace hx148_0 := (HB.out.cell (World.block_lt_of_cell? w _ hx148_0)).trans hx148_0
                    replace p148 := eq_true p148
                    replace q148 := eq_true q148
                    go_wp2
                    go_ret
                    exact ⟨by first | rfl | (simp [errW_none, errW_some] <;> rfl) | (simp [*, errW_none, errW_some] <;> rfl), by repeat (first | (with_reducible first | exact HB.out | apply below_alloc | apply pw_below_drewN | apply below_drew1 | refine below_set ?_ GE146.out) | exact HB.out)⟩
                  · rw [if_neg c14] at H
                    have c14b0 : decide (8 < (rd l0_0 x3_2)) = false := decide_eq_false c14
                    clear c14
                    have H' := Aside0.mk H
                    clear H
                    have hcz16_0 : wr.cell? ⟨gb146, 0, none⟩ = some (.slice A0_0 l0_0.length c0_0) := (blk_cell BK146.out 0).trans rfl
                    have hcz16_1 : wr.cell? ⟨gb146, 1, none⟩ = some (.slice A0_1 l0_1.length c0_1) := (blk_cell BK146.out 1).trans rfl
                    have hcz16_2 : wr.cell? ⟨gb146, 2, none⟩ = some (.slice A0_2 l0_2.length c0_2) := (blk_cell BK146.out 2).trans rfl
                    have hfz16_0 := blk_frozen BK146.out 0
                    have hfz16_1 := blk_frozen BK146.out 1
                    have hfz16_2 := blk_frozen BK146.out 2
                    have p147 : 0 ≤ (x3_2 : Int) := of_decide_eq_true (by first | (with_reducible assumption) | assumption)
                    have q147 : x3_2 < (l0_0.length : Int) := of_decide_eq_true (by first | (with_reducible assumption) | assumption)
                    obtain ⟨ad147, e147, hx147_0⟩ := Kd.at_int HR0_0.out x3_2 p147 q147
                    cases e147
                    replace hx147_0 := (HB.out.cell (World.block_lt_of_cell? w _ hx147_0)).trans hx147_0
                    replace p147 := eq_true p147
                    replace q147 := eq_true q147
                    have p148 : 0 ≤ (x3_2 : Int) := of_decide_eq_true (by first | (with_reducible assumption) | assumption)
                    have q148 : x3_2 < (l0_0.length : Int) := of_decide_eq_true (by first | (with_reducible assumption) | assumption)
                    obtain ⟨ad148, e148, hx148_0⟩ := Kd.at_int HR0_0.out x3_2 p148 q148
                    obtain rfl : ad147 = ad148 := (by injection e148)
                    replace hx148_0 := (HB.out.cell (World.block_lt_of_cell? w _ hx148_0)).trans hx148_0
                    replace p148 := eq_true p148
                    replace q148 := eq_true q148
                    go_wp2
                    go_roundg k2
                    case measure => have := HJ1.out; have := HK2.out; omega
                    case rel => exact ⟨(wrap64 (x3_2 + 1)), (by first | rfl | (simp; done) | (simp [*]; done)), H', ⟨by have := HJ1.out; have := HK2.out; omega⟩, ⟨by (with_reducible repeat (first | refine blk_drewN ?_ _ | refine blk_drew ?_ | refine blk_alloc ?_ _)); exact BK146.out⟩, ⟨by repeat (first | (with_reducible first | exact HB.out | apply below_alloc | apply pw_below_drewN | apply below_drew1 | refine below_set ?_ GE146.out) | exact HB.out)⟩⟩
              · rw [if_neg c11] at H
                exact absurd H (by simp)
            · rw [if_neg c10] at H
              have c10b0 : decide (x3_2 < (l0_0.length : Int)) = false := decide_eq_false c10
              clear c10
              replace H := Option.bind_eq_some_iff.mp H
              obtain ⟨t149, A170, H⟩ := H
              replace H : (crossbuckref05_Check.l1 k2 t149 0 l0_0 l0_1 l0_2) = some r := H
              have A17 := Aside0.mk A170
              clear A170
              have H' := Aside0.mk H
              clear H
              have hcz18_0 : wr.cell? ⟨gb146, 0, none⟩ = some (.slice A0_0 l0_0.length c0_0) := (blk_cell BK146.out 0).trans rfl
              have hcz18_1 : wr.cell? ⟨gb146, 1, none⟩ = some (.slice A0_1 l0_1.length c0_1) := (blk_cell BK146.out 1).trans rfl
              have hcz18_2 : wr.cell? ⟨gb146, 2, none⟩ = some (.slice A0_2 l0_2.length c0_2) := (blk_cell BK146.out 2).trans rfl
              have hfz18_0 := blk_frozen BK146.out 0
              have hfz18_1 := blk_frozen BK146.out 1
              have hfz18_2 := blk_frozen BK146.out 2
              go_wp2_with (first | ((with_reducible refine gate_callee (f := 47) rfl ?_); refine goesL_ (some 49) rfl rfl Try.func47 (by kernel_rfl) rfl #[.agg #[.slice A0_0 l0_0.length c0_0, .slice A0_1 l0_1.length c0_1, .slice A0_2 l0_2.length c0_2]] rfl (by (try simp only [List.map_toArray, List.map_cons, List.map_nil]); first | done | rfl | (simp only [List.length_drop, List.length_take]; rfl)) ?_; (with_reducible refine (crossbuckref05_Ends.calls k2 _ _ l0_0 _ _ l0_1 _ _ l0_2 t149 _ ?side1 ?side2 ?side3 ?side4 ?side5 ?side6 A17.out).mono ?_); (case side1 => repeat (first | exact (Kd.C_below HR0_0.out HB.out) | (with_reducible refine Kd.C_alloc ?_ _) | (with_reducible refine Kd.C_drewN ?_ _) | (with_reducible refine Kd.C_drew ?_))); (case side2 => exact HC0_0.out); (case side3 => repeat (first | exact (Kd.C_below HR0_1.out HB.out) | (with_reducible refine Kd.C_alloc ?_ _) | (with_reducible refine Kd.C_drewN ?_ _) | (with_reducible refine Kd.C_drew ?_))); (case side4 => exact HC0_1.out); (case side5 => repeat (first | exact (Kd.C_below HR0_2.out HB.out) | (with_reducible refine Kd.C_alloc ?_ _) | (with_reducible refine Kd.C_drewN ?_ _) | (with_reducible refine Kd.C_drew ?_))); (case side6 => exact HC0_2.out); rintro e w19 ⟨v150, rfl, ho0, hb⟩; refine ⟨_, rfl, ?_⟩; have n0_ := Aside0.mk (Kd.R_lower ho0 (below_size (by repeat (first | (with_reducible first | exact HB.out | apply below_alloc | apply pw_below_drewN | apply below_drew1 | refine below_set ?_ GE146.out) | exact HB.out)))); have n1_ := Aside0.mk (blk_below (g := gb146) (o := .cells #[.slice A0_0 l0_0.length c0_0, .slice A0_1 l0_1.length c0_1, .slice A0_2 l0_2.length c0_2] 26 (0, 0)) (by (with_reducible repeat (first | refine blk_drewN ?_ _ | refine blk_drew ?_ | refine blk_alloc ?_ _)); exact BK146.out) hb); have n2_ := Aside0.mk (below_step (by repeat (first | (with_reducible first | exact HB.out | apply below_alloc | apply pw_below_drewN | apply below_drew1 | refine below_set ?_ GE146.out) | exact HB.out)) hb); clear BK146; clear HB; have HO151 := n0_; have BK146 := n1_; have HB := n2_; clear n0_ n1_ n2_; (try clear hb); (try clear hb2); (try clear hk); (try clear hi); (try clear ho0)))
              go_loopg [5] k2 (fun kq v5 w' => ∃ (x5_3 : Int), v5 = .int .i64 x5_3 ∧ Aside0 (crossbuckref05_Check.l1 kq t149 x5_3 l0_0 l0_1 l0_2 = some r) ∧ Aside0 (kq ≤ k2) ∧ Aside0 (Kd.R k90 90 w' w.heap.size (fun _ => True) v150 t149) ∧ Aside0 (w'.heap[gb146]? = some (.cells #[(.slice A0_0 l0_0.length c0_0), (.slice A0_1 l0_1.length c0_1), (.slice A0_2 l0_2.length c0_2)] 26 (0, 0))) ∧ Aside0 (Below w.heap.size w w'))
              case atStart => exact ⟨(0), (by first | rfl | (simp; done) | (simp [*]; done)), H', ⟨Nat.le_refl _⟩, ⟨by (with_reducible repeat (first | apply Kd.R_alloc | apply Kd.R_drewN | apply Kd.R_drew)); exact HO151.out⟩, ⟨by (with_reducible repeat (first | refine blk_drewN ?_ _ | refine blk_drew ?_ | refine blk_alloc ?_ _)); exact BK146.out⟩, ⟨by repeat (first | (with_reducible first | exact HB.out | apply below_alloc | apply pw_below_drewN | apply below_drew1 | refine below_set ?_ GE146.out) | exact HB.out)⟩⟩
              case round =>
                clear H'
                try clear c1
                try clear p1
                try clear q1
                try clear hx1
                try clear p2
                try clear c4
                try clear c4b0
                try clear c4b1
                try clear c6
                try clear c6b0
                try clear c6b1
                try clear p6
                try clear c9
                try clear c10
                try clear c10b0
                try clear c11
                try clear c11b0
                try clear c12
                try clear c12b0
                try clear c14
                try clear c14b0
                try clear p14
                try clear q14
                try clear hx14
                try clear hcz13_0
                try clear hcz13_1
                try clear hcz13_2
                try clear hcz15_0
                try clear hcz15_1
                try clear hcz15_2
                try clear hcz16_0
                try clear hcz16_1
                try clear hcz16_2
                try clear hcz18_0
                try clear hcz18_1
                try clear hcz18_2
                try clear hcz5_0
                try clear hcz5_1
                try clear hcz5_2
                try clear hcz7_0
                try clear hcz7_1
                try clear hcz7_2
                try clear hcz8_0
                try clear hcz8_1
                try clear hcz8_2
                try clear hfz13_0
                try clear hfz13_1
                try clear hfz13_2
                try clear hfz15_0
                try clear hfz15_1
                try clear hfz15_2
                try clear hfz16_0
                try clear hfz16_1
                try clear hfz16_2
                try clear hfz18_0
                try clear hfz18_1
                try clear hfz18_2
                try clear hfz5_0
                try clear hfz5_1
                try clear hfz5_2
                try clear hfz7_0
                try clear hfz7_1
                try clear hfz7_2
                try clear hfz8_0
                try clear hfz8_1
                try clear hfz8_2
                try clear hx147_0
                try clear hx148_0
                try clear p147
                try clear p148
                try clear p2
                try clear q147
                try clear q148
                obtain ⟨x5_3, rfl, HA, HK3, HO_4, BK146, HB⟩ := hrel
                cases gk with
                | zero => exact absurd HA.out (by simp [crossbuckref05_Check.l1])
                | succ k3 =>
                  have H := HA.out
                  clear HA
                  simp only [crossbuckref05_Check.l1] at H
                  by_cases c20 : x5_3 < (t149.length : Int)
                  · rw [if_pos c20] at H
                    have c20b0 : decide (x5_3 < (t149.length : Int)) = true := decide_eq_true c20
                    clear c20
                    by_cases c21 : 0 ≤ x5_3
                    · rw [if_pos c21] at H
                      have c21b0 : decide (0 ≤ x5_3) = true := decide_eq_true c21
                      clear c21
                      replace H := Option.bind_eq_some_iff.mp H
                      obtain ⟨t154, A220, H⟩ := H
                      replace H : (if t154 = 0 then (crossbuckref05_Check.l2 k3 t149 x5_3 0 l0_0 l0_1 l0_2) else (some t154)) = some r := H
                      have A22 := Aside0.mk A220
                      clear A220
                      by_cases c23 : t154 = 0
                      · rw [if_pos c23] at H
                        have c23b0 : (t154 == 0) = true := beq_iff_eq.mpr c23
                        have c23b1 : (t154 != 0) = false := bne_eq_false_iff_eq.mpr c23
                        clear c23
                        have H' := Aside0.mk H
                        clear H
                        obtain ⟨Ao24, co24, eo24⟩ := Kd.R_slice HO_4.out
                        subst eo24
                        try go_wp2
                        have n0_ := Aside0.mk (Kd.R_drew HO_4.out)
                        have n1_ := Aside0.mk (blk_drew BK146.out)
                        have n2_ := Aside0.mk (below_drew1 HB.out)
                        clear HO_4
                        clear BK146
                        clear HB
                        have HO_4 := n0_
                        have BK146 := n1_
                        have HB := n2_
                        clear n0_ n1_ n2_
                        have p152 : 0 ≤ (x5_3 : Int) := of_decide_eq_true (by first | (with_reducible assumption) | assumption)
                        have q152 : x5_3 < (t149.length : Int) := of_decide_eq_true (by first | (with_reducible assumption) | assumption)
                        obtain ⟨ad152, e152, hx152_0, hx152_1⟩ := at_T90 (Kd.R_reads' HO_4.out).2.2 x5_3 p152 q152
                        cases e152
                        replace p152 := eq_true p152
                        replace q152 := eq_true q152
                        have p153 : 0 ≤ (x5_3 : Int) := of_decide_eq_true (by first | (with_reducible assumption) | assumption)
                        have q153 : x5_3 < (t149.length : Int) := of_decide_eq_true (by first | (with_reducible assumption) | assumption)
                        obtain ⟨ad153, e153, hx153_0, hx153_1⟩ := at_T90 (Kd.R_reads' HO_4.out).2.2 x5_3 p153 q153
                        obtain rfl : ad152 = ad153 := (by injection e153)
                        replace p153 := eq_true p153
                        replace q153 := eq_true q153
                        refine start_ (n := 13) (S := fun w' => w'.cell? ⟨gb146, 0, none⟩ = some (.slice A0_0 l0_0.length c0_0) ∧ w'.cell? ⟨gb146, 1, none⟩ = some (.slice A0_1 l0_1.length c0_1) ∧ w'.cell? ⟨gb146, 2, none⟩ = some (.slice A0_2 l0_2.length c0_2) ∧ w'.cell? (ad152.add ((x5_3).toNat * 2)) = some (.int .i64 ((rd_T90 t149 x5_3).f0)) ∧ w'.cell? ⟨(ad152.add ((x5_3).toNat * 2)).block, (ad152.add ((x5_3).toNat * 2)).off + 1, none⟩ = some (.int .i64 ((rd_T90 t149 x5_3).f1)) ∧ w'.cell? (ad152.add ((x5_3).toNat * 2)) = some (.int .i64 ((rd_T90 t149 x5_3).f0)) ∧ w'.cell? ⟨(ad152.add ((x5_3).toNat * 2)).block, (ad152.add ((x5_3).toNat * 2)).off + 1, none⟩ = some (.int .i64 ((rd_T90 t149 x5_3).f1))) (ds := []) #[false, false, false, false, false, false, false, false, false, false, false, false, false] (by kernel_rfl) rfl rfl ⟨(blk_cell BK146.out 0).trans rfl, (blk_cell BK146.out 1).trans rfl, (blk_cell BK146.out 2).trans rfl, hx152_0, hx152_1, hx153_0, hx153_1⟩ (fun hHeld => ?_); refine with_tabW crossbuckref05_Check.tab12 crossbuckref05_Check.bits12 (fun HT_ HW_ => ?_)
                        generalize wr.drew = w25 at HO_4 BK146 HB hx152_0 hx152_1 hx153_0 hx153_1 hHeld ⊢
                        refine pure_ (i := 1) (N := some 57) (v := ?_) (a' := ?_) #[false, true, false, false, false, false, false, false, false, false, false, false, false] rfl rfl (any_of HT_.out (by kernel_rfl)) (fun _ _ _ h => h) (Or.inl ⟨by rfl, ?_⟩) ?_ ?_
                        rotate_left
                        · intro w'
                          go_simp
                          with_reducible rfl
                        rotate_left
                        · simp only [Act.put, List.setIfInBounds_toArray, List.set_cons_zero, List.set_cons_succ, i64_w, i32_w]
                          rfl
                        refine pure_ (i := 2) (N := some 58) (v := ?_) (a' := ?_) #[false, true, true, false, false, false, false, false, false, false, false, false, false] rfl rfl (any_of HT_.out (by kernel_rfl)) (fun _ _ _ h => h) (Or.inl ⟨by rfl, ?_⟩) ?_ ?_
                        rotate_left
                        · intro w'
                          go_simp
                          with_reducible rfl
                        rotate_left
                        · simp only [Act.put, List.setIfInBounds_toArray, List.set_cons_zero, List.set_cons_succ, i64_w, i32_w]
                          rfl
                        refine pure_ (i := 3) (N := some 59) (v := ?_) (a' := ?_) #[false, true, true, true, false, false, false, false, false, false, false, false, false] rfl rfl (any_of HT_.out (by kernel_rfl)) (fun _ _ _ h => h) (Or.inl ⟨by rfl, ?_⟩) ?_ ?_
                        rotate_left
                        · intro w'
                          go_simp
                          with_reducible rfl
                        rotate_left
                        · simp only [Act.put, List.setIfInBounds_toArray, List.set_cons_zero, List.set_cons_succ, i64_w, i32_w]
                          rfl
                        refine pure_ (i := 4) (N := some 60) (v := ?_) (a' := ?_) #[false, true, true, true, true, false, false, false, false, false, false, false, false] rfl rfl (any_of HT_.out (by kernel_rfl)) (fun _ _ _ h => h) (Or.inl ⟨by rfl, ?_⟩) ?_ ?_
                        rotate_left
                        · intro w'
                          go_simp
                          with_reducible rfl
                        rotate_left
                        · simp only [Act.put, List.setIfInBounds_toArray, List.set_cons_zero, List.set_cons_succ, i64_w, i32_w]
                          rfl
                        refine pure_ (i := 6) (N := some 62) (v := ?_) (a' := ?_) #[false, true, true, true, true, false, true, false, false, false, false, false, false] rfl rfl (any_of HT_.out (by kernel_rfl)) (fun _ _ _ h => h) (Or.inl ⟨by rfl, ?_⟩) ?_ ?_
                        rotate_left
                        · intro w'
                          go_simp
                          with_reducible rfl
                        rotate_left
                        · simp only [Act.put, List.setIfInBounds_toArray, List.set_cons_zero, List.set_cons_succ, i64_w, i32_w]
                          rfl
                        refine pure_ (i := 7) (N := some 63) (v := ?_) (a' := ?_) #[false, true, true, true, true, false, true, true, false, false, false, false, false] rfl rfl (any_of HT_.out (by kernel_rfl)) (fun _ _ _ h => h) (Or.inl ⟨by rfl, ?_⟩) ?_ ?_
                        rotate_left
                        · intro w'
                          go_simp
                          with_reducible rfl
                        rotate_left
                        · simp only [Act.put, List.setIfInBounds_toArray, List.set_cons_zero, List.set_cons_succ, i64_w, i32_w]
                          rfl
                        refine pure_ (i := 8) (N := some 64) (v := ?_) (a' := ?_) #[false, true, true, true, true, false, true, true, true, false, false, false, false] rfl rfl (any_of HT_.out (by kernel_rfl)) (fun _ _ _ h => h) (Or.inl ⟨by rfl, ?_⟩) ?_ ?_
                        rotate_left
                        · intro w'
                          go_simp
                          with_reducible rfl
                        rotate_left
                        · simp only [Act.put, List.setIfInBounds_toArray, List.set_cons_zero, List.set_cons_succ, i64_w, i32_w]
                          rfl
                        refine pure_ (i := 9) (N := some 65) (v := ?_) (a' := ?_) #[false, true, true, true, true, false, true, true, true, true, false, false, false] rfl rfl (any_of HT_.out (by kernel_rfl)) (fun _ _ _ h => h) (Or.inl ⟨by rfl, ?_⟩) ?_ ?_
                        rotate_left
                        · intro w'
                          go_simp
                          with_reducible rfl
                        rotate_left
                        · simp only [Act.put, List.setIfInBounds_toArray, List.set_cons_zero, List.set_cons_succ, i64_w, i32_w]
                          rfl
                        refine take_ (i := 0) (N := some 56) (v := ?_) (a' := ?_) #[true, true, true, true, true, false, true, true, true, true, false, false, false] rfl rfl (take_ofW HT_.out HW_.out (by kernel_rfl)) (fun _ _ _ h => h) (Or.inl ⟨by rfl, ?_⟩) hHeld ?_ ?_
                        rotate_left
                        · rintro w' ⟨s0, s1, s2, s3, s4, s5, s6⟩
                          go_simp
                          with_reducible rfl
                        rotate_left
                        · simp only [Act.put, List.setIfInBounds_toArray, List.set_cons_zero, List.set_cons_succ, i64_w, i32_w]
                          rfl
                        refine take_ (i := 5) (N := some 61) (v := ?_) (a' := ?_) #[true, true, true, true, true, true, true, true, true, true, false, false, false] rfl rfl (take_ofW HT_.out HW_.out (by kernel_rfl)) (fun _ _ _ h => h) (Or.inl ⟨by rfl, ?_⟩) hHeld ?_ ?_
                        rotate_left
                        · rintro w' ⟨s0, s1, s2, s3, s4, s5, s6⟩
                          go_simp
                          with_reducible rfl
                        rotate_left
                        · simp only [Act.put, List.setIfInBounds_toArray, List.set_cons_zero, List.set_cons_succ, i64_w, i32_w]
                          rfl
                        refine take_ (i := 10) (N := some 66) (v := ?_) (a' := ?_) #[true, true, true, true, true, true, true, true, true, true, true, false, false] rfl rfl (take_ofW HT_.out HW_.out (by kernel_rfl)) (fun _ _ _ h => h) (Or.inl ⟨by rfl, ?_⟩) hHeld ?_ ?_
                        rotate_left
                        · rintro w' ⟨s0, s1, s2, s3, s4, s5, s6⟩
                          go_simp
                          with_reducible rfl
                        rotate_left
                        · simp only [Act.put, List.setIfInBounds_toArray, List.set_cons_zero, List.set_cons_succ, i64_w, i32_w]
                          rfl
                        refine one_ (i := 11) (N := some 67) #[true, true, true, true, true, true, true, true, true, true, true, true, false] rfl rfl (one_of HT_.out (by kernel_rfl)) (by decide) (fun K hK => ?_)
                        refine goes_ Try.func16 (by kernel_rfl) rfl #[.agg #[.slice A0_0 l0_0.length c0_0, .slice A0_1 l0_1.length c0_1, .slice A0_2 l0_2.length c0_2], .int .i64 ((rd_T90 t149 x5_3).f0), .int .i64 ((rd_T90 t149 x5_3).f1)] (by rfl) rfl rfl (by (try simp only [List.map_toArray, List.map_cons, List.map_nil]); first | done | rfl | (simp only [List.length_drop, List.length_take]; rfl)) ?_
                        with_reducible refine (crossbuckref05_Port.calls k3 _ _ l0_0 _ _ l0_1 _ _ l0_2 ((rd_T90 t149 x5_3).f0) ((rd_T90 t149 x5_3).f1) t154 _ ?side1 ?side2 ?side3 ?side4 ?side5 ?side6 A22.out).mono ?_
                        (case side1 => repeat (first | exact (Kd.C_below HR0_0.out HB.out) | (with_reducible refine Kd.C_alloc ?_ _) | (with_reducible refine Kd.C_drewN ?_ _) | (with_reducible refine Kd.C_drew ?_)))
                        (case side2 => exact HC0_0.out)
                        (case side3 => repeat (first | exact (Kd.C_below HR0_1.out HB.out) | (with_reducible refine Kd.C_alloc ?_ _) | (with_reducible refine Kd.C_drewN ?_ _) | (with_reducible refine Kd.C_drew ?_)))
                        (case side4 => exact HC0_1.out)
                        (case side5 => repeat (first | exact (Kd.C_below HR0_2.out HB.out) | (with_reducible refine Kd.C_alloc ?_ _) | (with_reducible refine Kd.C_drewN ?_ _) | (with_reducible refine Kd.C_drew ?_)))
                        (case side6 => exact HC0_2.out)
                        rintro e w26 ⟨rfl, hb⟩
                        have HS3_ := (hb.cell (World.block_lt_of_cell? _ _ (hHeld.2.2.2.1))).trans (hHeld.2.2.2.1)
                        have HS4_ := (hb.cell (World.block_lt_of_cell? _ _ (hHeld.2.2.2.2.1))).trans (hHeld.2.2.2.2.1)
                        have HS5_ := (hb.cell (World.block_lt_of_cell? _ _ (hHeld.2.2.2.2.2.1))).trans (hHeld.2.2.2.2.2.1)
                        have HS6_ := (hb.cell (World.block_lt_of_cell? _ _ (hHeld.2.2.2.2.2.2))).trans (hHeld.2.2.2.2.2.2)
                        refine ⟨_, rfl, ?_⟩
                        have n0_ := Aside0.mk (Kd.R_below (by (with_reducible repeat (first | apply Kd.R_alloc | apply Kd.R_drewN | apply Kd.R_drew)); exact HO_4.out) hb)
                        have n1_ := Aside0.mk (blk_below (g := gb146) (o := .cells #[.slice A0_0 l0_0.length c0_0, .slice A0_1 l0_1.length c0_1, .slice A0_2 l0_2.length c0_2] 26 (0, 0)) (by (with_reducible repeat (first | refine blk_drewN ?_ _ | refine blk_drew ?_ | refine blk_alloc ?_ _)); exact BK146.out) hb)
                        have n2_ := Aside0.mk (below_step (by repeat (first | (with_reducible first | exact HB.out | apply below_alloc | apply pw_below_drewN | apply below_drew1 | refine below_set ?_ GE146.out) | exact HB.out)) hb)
                        clear HO_4
                        clear BK146
                        clear HB
                        have HO_4 := n0_
                        have BK146 := n1_
                        have HB := n2_
                        clear n0_ n1_ n2_
                        (try clear hb)
                        (try clear hb2)
                        (try clear hk)
                        (try clear hi)
                        refine hK.out _ _ ⟨(blk_cell BK146.out 0).trans rfl, (blk_cell BK146.out 1).trans rfl, (blk_cell BK146.out 2).trans rfl, HS3_, HS4_, HS5_, HS6_⟩ (fun hHeld => ?_)
                        clear hK K
                        refine norm_ (a' := ?_) ?_ ?_
                        rotate_left
                        · show Act.put _ (some 67) _ = _
                          simp only [Act.put, List.setIfInBounds_toArray, List.set_cons_zero, List.set_cons_succ, i64_w, i32_w]
                          rfl
                        refine pure_ (i := 12) (N := some 6) (v := ?_) (a' := ?_) #[true, true, true, true, true, true, true, true, true, true, true, true, true] rfl rfl (any_of HT_.out (by kernel_rfl)) (fun _ _ _ h => h) (Or.inl ⟨by rfl, ?_⟩) ?_ ?_
                        rotate_left
                        · intro w'
                          go_simp
                          with_reducible rfl
                        rotate_left
                        · simp only [Act.put, List.setIfInBounds_toArray, List.set_cons_zero, List.set_cons_succ, i64_w, i32_w]
                          rfl
                        refine done_ (done_of HT_.out (by kernel_rfl)) ?_
                        try go_wp2
                        go_loopg [7] k3 (fun kq v7 w' => ∃ (x7_4 : Int), v7 = .int .i64 x7_4 ∧ Aside0 (crossbuckref05_Check.l2 kq t149 x5_3 x7_4 l0_0 l0_1 l0_2 = some r) ∧ Aside0 (kq ≤ k3) ∧ Aside0 (Kd.R k90 90 w' w.heap.size (fun _ => True) (.slice (some ad152) t149.length co24) t149) ∧ Aside0 (w'.heap[gb146]? = some (.cells #[(.slice A0_0 l0_0.length c0_0), (.slice A0_1 l0_1.length c0_1), (.slice A0_2 l0_2.length c0_2)] 26 (0, 0))) ∧ Aside0 (Below w.heap.size w w'))
                        case atStart => exact ⟨(0), (by first | rfl | (simp; done) | (simp [*]; done)), H', ⟨Nat.le_refl _⟩, ⟨by (with_reducible repeat (first | apply Kd.R_alloc | apply Kd.R_drewN | apply Kd.R_drew)); exact HO_4.out⟩, ⟨by (with_reducible repeat (first | refine blk_drewN ?_ _ | refine blk_drew ?_ | refine blk_alloc ?_ _)); exact BK146.out⟩, ⟨by repeat (first | (with_reducible first | exact HB.out | apply below_alloc | apply pw_below_drewN | apply below_drew1 | refine below_set ?_ GE146.out) | exact HB.out)⟩⟩
                        case round =>
                          clear H'
                          try clear c1
                          try clear p1
                          try clear q1
                          try clear hx1
                          try clear c2
                          try clear p2
                          try clear c4
                          try clear c4b0
                          try clear c4b1
                          try clear c6
                          try clear c6b0
                          try clear c6b1
                          try clear p6
                          try clear c9
                          try clear c10
                          try clear c10b0
                          try clear c11
                          try clear c11b0
                          try clear c12
                          try clear c12b0
                          try clear c14
                          try clear c14b0
                          try clear p14
                          try clear q14
                          try clear hx14
                          try clear p15
                          try clear q15
                          try clear hx15
                          try clear c16
                          try clear c20
                          try clear c20b0
                          try clear c21
                          try clear c21b0
                          try clear c23
                          try clear c23b0
                          try clear c23b1
                          try clear hcz13_0
                          try clear hcz13_1
                          try clear hcz13_2
                          try clear hcz15_0
                          try clear hcz15_1
                          try clear hcz15_2
                          try clear hcz16_0
                          try clear hcz16_1
                          try clear hcz16_2
                          try clear hcz18_0
                          try clear hcz18_1
                          try clear hcz18_2
                          try clear hcz5_0
                          try clear hcz5_1
                          try clear hcz5_2
                          try clear hcz7_0
                          try clear hcz7_1
                          try clear hcz7_2
                          try clear hcz8_0
                          try clear hcz8_1
                          try clear hcz8_2
                          try clear hfz13_0
                          try clear hfz13_1
                          try clear hfz13_2
                          try clear hfz15_0
                          try clear hfz15_1
                          try clear hfz15_2
                          try clear hfz16_0
                          try clear hfz16_1
                          try clear hfz16_2
                          try clear hfz18_0
                          try clear hfz18_1
                          try clear hfz18_2
                          try clear hfz5_0
                          try clear hfz5_1
                          try clear hfz5_2
                          try clear hfz7_0
                          try clear hfz7_1
                          try clear hfz7_2
                          try clear hfz8_0
                          try clear hfz8_1
                          try clear hfz8_2
                          try clear hx147_0
                          try clear hx148_0
                          try clear hx152_0
                          try clear hx152_1
                          try clear hx153_0
                          try clear hx153_1
                          try clear p1
                          try clear p14
                          try clear p147
                          try clear p148
                          try clear p152
                          try clear p153
                          try clear p2
                          try clear p6
                          try clear q1
                          try clear q14
                          try clear q147
                          try clear q148
                          try clear q152
                          try clear q153
                          obtain ⟨x7_4, rfl, HA, HK4, HO_4, BK146, HB⟩ := hrel
                          cases gk with
                          | zero => exact absurd HA.out (by simp [crossbuckref05_Check.l2])
                          | succ k4 =>
                            have H := HA.out
                            clear HA
                            simp only [crossbuckref05_Check.l2] at H
                            by_cases c27 : x7_4 < x5_3
                            · rw [if_pos c27] at H
                              have c27b0 : decide (x7_4 < x5_3) = true := decide_eq_true c27
                              clear c27
                              by_cases c28 : 0 ≤ x7_4
                              · rw [if_pos c28] at H
                                have c28b0 : decide (0 ≤ x7_4) = true := decide_eq_true c28
                                clear c28
                                by_cases c29 : x7_4 < (t149.length : Int)
                                · rw [if_pos c29] at H
                                  have c29b0 : decide (x7_4 < (t149.length : Int)) = true := decide_eq_true c29
                                  clear c29
                                  by_cases c30 : 0 ≤ x5_3
                                  · rw [if_pos c30] at H
                                    have c30b0 : decide (0 ≤ x5_3) = true := decide_eq_true c30
                                    clear c30
                                    by_cases c31 : x5_3 < (t149.length : Int)
                                    · rw [if_pos c31] at H
                                      have c31b0 : decide (x5_3 < (t149.length : Int)) = true := decide_eq_true c31
                                      clear c31
                                      by_cases c32 : (((rd_T90 t149 x7_4).f0) == ((rd_T90 t149 x5_3).f0) && (((rd_T90 t149 x7_4).f1) == ((rd_T90 t149 x5_3).f1))) = true
                                      · rw [if_pos c32] at H
                                        have c32b0 : (((rd_T90 t149 x7_4).f0) == ((rd_T90 t149 x5_3).f0) && (((rd_T90 t149 x7_4).f1) == ((rd_T90 t149 x5_3).f1))) = true := c32
                                        (try (have c32b1 : decide (((rd_T90 t149 x7_4).f0) = ((rd_T90 t149 x5_3).f0) && (((rd_T90 t149 x7_4).f1) == ((rd_T90 t149 x5_3).f1))) = true := by simpa using c32))
                                        (try (have c32b2 : (((rd_T90 t149 x7_4).f0) == ((rd_T90 t149 x5_3).f0) && (((rd_T90 t149 x7_4).f1) == ((rd_T90 t149 x5_3).f1))) = true := by simpa using c32))
                                        clear c32
                                        obtain rfl := Option.some.inj H
                                        try go_wp2
                                        have n0_ := Aside0.mk (Kd.R_drew HO_4.out)
                                        have n1_ := Aside0.mk (blk_drew BK146.out)
                                        have n2_ := Aside0.mk (below_drew1 HB.out)
                                        clear HO_4
                                        clear BK146
                                        clear HB
                                        have HO_4 := n0_
                                        have BK146 := n1_
                                        have HB := n2_
                                        clear n0_ n1_ n2_
                                        have p155 : 0 ≤ (x7_4 : Int) := of_decide_eq_true (by first | (with_reducible assumption) | assumption)
                                        have q155 : x7_4 < (t149.length : Int) := of_decide_eq_true (by first | (with_reducible assumption) | assumption)
                                        obtain ⟨ad155, e155, hx155_0, hx155_1⟩ := at_T90 (Kd.R_reads' HO_4.out).2.2 x7_4 p155 q155
                                        obtain rfl : ad152 = ad155 := (by injection e155)
                                        replace p155 := eq_true p155
                                        replace q155 := eq_true q155
                                        have p156 : 0 ≤ (x5_3 : Int) := of_decide_eq_true (by first | (with_reducible assumption) | assumption)
                                        have q156 : x5_3 < (t149.length : Int) := of_decide_eq_true (by first | (with_reducible assumption) | assumption)
                                        obtain ⟨ad156, e156, hx156_0, hx156_1⟩ := at_T90 (Kd.R_reads' HO_4.out).2.2 x5_3 p156 q156
                                        obtain rfl : ad152 = ad156 := (by injection e156)
                                        replace p156 := eq_true p156
                                        replace q156 := eq_true q156
                                        refine start_ (n := 9) (S := fun w' => w'.cell? (ad152.add ((x7_4).toNat * 2)) = some (.int .i64 ((rd_T90 t149 x7_4).f0)) ∧ w'.cell? ⟨(ad152.add ((x7_4).toNat * 2)).block, (ad152.add ((x7_4).toNat * 2)).off + 1, none⟩ = some (.int .i64 ((rd_T90 t149 x7_4).f1)) ∧ w'.cell? (ad152.add ((x5_3).toNat * 2)) = some (.int .i64 ((rd_T90 t149 x5_3).f0)) ∧ w'.cell? ⟨(ad152.add ((x5_3).toNat * 2)).block, (ad152.add ((x5_3).toNat * 2)).off + 1, none⟩ = some (.int .i64 ((rd_T90 t149 x5_3).f1))) (ds := []) #[false, false, false, false, false, false, false, false, false] (by kernel_rfl) rfl rfl ⟨hx155_0, hx155_1, hx156_0, hx156_1⟩ (fun hHeld => ?_); refine with_tabW crossbuckref05_Check.tab18 crossbuckref05_Check.bits18 (fun HT_ HW_ => ?_)
                                        generalize wr.drew = w33 at HO_4 BK146 HB hx155_0 hx155_1 hx156_0 hx156_1 hHeld ⊢
                                        refine pure_ (i := 0) (N := some 76) (v := ?_) (a' := ?_) #[true, false, false, false, false, false, false, false, false] rfl rfl (any_of HT_.out (by kernel_rfl)) (fun _ _ _ h => h) (Or.inl ⟨by rfl, ?_⟩) ?_ ?_
                                        rotate_left
                                        · intro w'
                                          go_simp
                                          with_reducible rfl
                                        rotate_left
                                        · simp only [Act.put, List.setIfInBounds_toArray, List.set_cons_zero, List.set_cons_succ, i64_w, i32_w]
                                          rfl
                                        refine pure_ (i := 1) (N := some 77) (v := ?_) (a' := ?_) #[true, true, false, false, false, false, false, false, false] rfl rfl (any_of HT_.out (by kernel_rfl)) (fun _ _ _ h => h) (Or.inl ⟨by rfl, ?_⟩) ?_ ?_
                                        rotate_left
                                        · intro w'
                                          go_simp
                                          with_reducible rfl
                                        rotate_left
                                        · simp only [Act.put, List.setIfInBounds_toArray, List.set_cons_zero, List.set_cons_succ, i64_w, i32_w]
                                          rfl
                                        refine pure_ (i := 2) (N := some 78) (v := ?_) (a' := ?_) #[true, true, true, false, false, false, false, false, false] rfl rfl (any_of HT_.out (by kernel_rfl)) (fun _ _ _ h => h) (Or.inl ⟨by rfl, ?_⟩) ?_ ?_
                                        rotate_left
                                        · intro w'
                                          go_simp
                                          with_reducible rfl
                                        rotate_left
                                        · simp only [Act.put, List.setIfInBounds_toArray, List.set_cons_zero, List.set_cons_succ, i64_w, i32_w]
                                          rfl
                                        refine pure_ (i := 4) (N := some 80) (v := ?_) (a' := ?_) #[true, true, true, false, true, false, false, false, false] rfl rfl (any_of HT_.out (by kernel_rfl)) (fun _ _ _ h => h) (Or.inl ⟨by rfl, ?_⟩) ?_ ?_
                                        rotate_left
                                        · intro w'
                                          go_simp
                                          with_reducible rfl
                                        rotate_left
                                        · simp only [Act.put, List.setIfInBounds_toArray, List.set_cons_zero, List.set_cons_succ, i64_w, i32_w]
                                          rfl
                                        refine pure_ (i := 5) (N := some 81) (v := ?_) (a' := ?_) #[true, true, true, false, true, true, false, false, false] rfl rfl (any_of HT_.out (by kernel_rfl)) (fun _ _ _ h => h) (Or.inl ⟨by rfl, ?_⟩) ?_ ?_
                                        rotate_left
                                        · intro w'
                                          go_simp
                                          with_reducible rfl
                                        rotate_left
                                        · simp only [Act.put, List.setIfInBounds_toArray, List.set_cons_zero, List.set_cons_succ, i64_w, i32_w]
                                          rfl
                                        refine pure_ (i := 6) (N := some 82) (v := ?_) (a' := ?_) #[true, true, true, false, true, true, true, false, false] rfl rfl (any_of HT_.out (by kernel_rfl)) (fun _ _ _ h => h) (Or.inl ⟨by rfl, ?_⟩) ?_ ?_
                                        rotate_left
                                        · intro w'
                                          go_simp
                                          with_reducible rfl
                                        rotate_left
                                        · simp only [Act.put, List.setIfInBounds_toArray, List.set_cons_zero, List.set_cons_succ, i64_w, i32_w]
                                          rfl
                                        refine take_ (i := 3) (N := some 79) (v := ?_) (a' := ?_) #[true, true, true, true, true, true, true, false, false] rfl rfl (take_ofW HT_.out HW_.out (by kernel_rfl)) (fun _ _ _ h => h) (Or.inl ⟨by rfl, ?_⟩) hHeld ?_ ?_
                                        rotate_left
                                        · rintro w' ⟨s0, s1, s2, s3⟩
                                          go_simp
                                          with_reducible rfl
                                        rotate_left
                                        · simp only [Act.put, List.setIfInBounds_toArray, List.set_cons_zero, List.set_cons_succ, i64_w, i32_w]
                                          rfl
                                        refine take_ (i := 7) (N := some 83) (v := ?_) (a' := ?_) #[true, true, true, true, true, true, true, true, false] rfl rfl (take_ofW HT_.out HW_.out (by kernel_rfl)) (fun _ _ _ h => h) (Or.inl ⟨by rfl, ?_⟩) hHeld ?_ ?_
                                        rotate_left
                                        · rintro w' ⟨s0, s1, s2, s3⟩
                                          go_simp
                                          with_reducible rfl
                                        rotate_left
                                        · simp only [Act.put, List.setIfInBounds_toArray, List.set_cons_zero, List.set_cons_succ, i64_w, i32_w]
                                          rfl
                                        refine pure_ (i := 8) (N := some 84) (v := ?_) (a' := ?_) #[true, true, true, true, true, true, true, true, true] rfl rfl (any_of HT_.out (by kernel_rfl)) (fun _ _ _ h => h) (Or.inl ⟨by rfl, ?_⟩) ?_ ?_
                                        rotate_left
                                        · intro w'
                                          go_simp
                                          with_reducible rfl
                                        rotate_left
                                        · simp only [Act.put, List.setIfInBounds_toArray, List.set_cons_zero, List.set_cons_succ, i64_w, i32_w]
                                          rfl
                                        refine done_ (done_of HT_.out (by kernel_rfl)) ?_
                                        try go_wp2
                                        go_ret
                                        exact ⟨by first | rfl | (simp [errW_none, errW_some] <;> rfl) | (simp [*, errW_none, errW_some] <;> rfl), by repeat (first | (with_reducible first | exact HB.out | apply below_alloc | apply pw_below_drewN | apply below_drew1 | refine below_set ?_ GE146.out) | exact HB.out)⟩
                                      · rw [if_neg c32] at H
                                        have c32b0 : (((rd_T90 t149 x7_4).f0) == ((rd_T90 t149 x5_3).f0) && (((rd_T90 t149 x7_4).f1) == ((rd_T90 t149 x5_3).f1))) = false := by simpa using c32
                                        (try (have c32b1 : decide (((rd_T90 t149 x7_4).f0) = ((rd_T90 t149 x5_3).f0) && (((rd_T90 t149 x7_4).f1) == ((rd_T90 t149 x5_3).f1))) = false := by simpa using c32))
                                        (try (have c32b2 : (((rd_T90 t149 x7_4).f0) == ((rd_T90 t149 x5_3).f0) && (((rd_T90 t149 x7_4).f1) == ((rd_T90 t149 x5_3).f1))) = false := by simpa using c32))
                                        (try (have c32b3 : ¬ (((rd_T90 t149 x7_4).f0) = ((rd_T90 t149 x5_3).f0) && (((rd_T90 t149 x7_4).f1) == ((rd_T90 t149 x5_3).f1))) := by simpa using c32))
                                        clear c32
                                        have H' := Aside0.mk H
                                        clear H
                                        try go_wp2
                                        have n0_ := Aside0.mk (Kd.R_drew HO_4.out)
                                        have n1_ := Aside0.mk (blk_drew BK146.out)
                                        have n2_ := Aside0.mk (below_drew1 HB.out)
                                        clear HO_4
                                        clear BK146
                                        clear HB
                                        have HO_4 := n0_
                                        have BK146 := n1_
                                        have HB := n2_
                                        clear n0_ n1_ n2_
                                        have p155 : 0 ≤ (x7_4 : Int) := of_decide_eq_true (by first | (with_reducible assumption) | assumption)
                                        have q155 : x7_4 < (t149.length : Int) := of_decide_eq_true (by first | (with_reducible assumption) | assumption)
                                        obtain ⟨ad155, e155, hx155_0, hx155_1⟩ := at_T90 (Kd.R_reads' HO_4.out).2.2 x7_4 p155 q155
                                        obtain rfl : ad152 = ad155 := (by injection e155)
                                        replace p155 := eq_true p155
                                        replace q155 := eq_true q155
                                        have p156 : 0 ≤ (x5_3 : Int) := of_decide_eq_true (by first | (with_reducible assumption) | assumption)
                                        have q156 : x5_3 < (t149.length : Int) := of_decide_eq_true (by first | (with_reducible assumption) | assumption)
                                        obtain ⟨ad156, e156, hx156_0, hx156_1⟩ := at_T90 (Kd.R_reads' HO_4.out).2.2 x5_3 p156 q156
                                        obtain rfl : ad152 = ad156 := (by injection e156)
                                        replace p156 := eq_true p156
                                        replace q156 := eq_true q156
                                        refine start_ (n := 9) (S := fun w' => w'.cell? (ad152.add ((x7_4).toNat * 2)) = some (.int .i64 ((rd_T90 t149 x7_4).f0)) ∧ w'.cell? ⟨(ad152.add ((x7_4).toNat * 2)).block, (ad152.add ((x7_4).toNat * 2)).off + 1, none⟩ = some (.int .i64 ((rd_T90 t149 x7_4).f1)) ∧ w'.cell? (ad152.add ((x5_3).toNat * 2)) = some (.int .i64 ((rd_T90 t149 x5_3).f0)) ∧ w'.cell? ⟨(ad152.add ((x5_3).toNat * 2)).block, (ad152.add ((x5_3).toNat * 2)).off + 1, none⟩ = some (.int .i64 ((rd_T90 t149 x5_3).f1))) (ds := []) #[false, false, false, false, false, false, false, false, false] (by kernel_rfl) rfl rfl ⟨hx155_0, hx155_1, hx156_0, hx156_1⟩ (fun hHeld => ?_); refine with_tabW crossbuckref05_Check.tab18 crossbuckref05_Check.bits18 (fun HT_ HW_ => ?_)
                                        generalize wr.drew = w34 at HO_4 BK146 HB hx155_0 hx155_1 hx156_0 hx156_1 hHeld ⊢
                                        refine pure_ (i := 0) (N := some 76) (v := ?_) (a' := ?_) #[true, false, false, false, false, false, false, false, false] rfl rfl (any_of HT_.out (by kernel_rfl)) (fun _ _ _ h => h) (Or.inl ⟨by rfl, ?_⟩) ?_ ?_
                                        rotate_left
                                        · intro w'
                                          go_simp
                                          with_reducible rfl
                                        rotate_left
                                        · simp only [Act.put, List.setIfInBounds_toArray, List.set_cons_zero, List.set_cons_succ, i64_w, i32_w]
                                          rfl
                                        refine pure_ (i := 1) (N := some 77) (v := ?_) (a' := ?_) #[true, true, false, false, false, false, false, false, false] rfl rfl (any_of HT_.out (by kernel_rfl)) (fun _ _ _ h => h) (Or.inl ⟨by rfl, ?_⟩) ?_ ?_
                                        rotate_left
                                        · intro w'
                                          go_simp
                                          with_reducible rfl
                                        rotate_left
                                        · simp only [Act.put, List.setIfInBounds_toArray, List.set_cons_zero, List.set_cons_succ, i64_w, i32_w]
                                          rfl
                                        refine pure_ (i := 2) (N := some 78) (v := ?_) (a' := ?_) #[true, true, true, false, false, false, false, false, false] rfl rfl (any_of HT_.out (by kernel_rfl)) (fun _ _ _ h => h) (Or.inl ⟨by rfl, ?_⟩) ?_ ?_
                                        rotate_left
                                        · intro w'
                                          go_simp
                                          with_reducible rfl
                                        rotate_left
                                        · simp only [Act.put, List.setIfInBounds_toArray, List.set_cons_zero, List.set_cons_succ, i64_w, i32_w]
                                          rfl
                                        refine pure_ (i := 4) (N := some 80) (v := ?_) (a' := ?_) #[true, true, true, false, true, false, false, false, false] rfl rfl (any_of HT_.out (by kernel_rfl)) (fun _ _ _ h => h) (Or.inl ⟨by rfl, ?_⟩) ?_ ?_
                                        rotate_left
                                        · intro w'
                                          go_simp
                                          with_reducible rfl
                                        rotate_left
                                        · simp only [Act.put, List.setIfInBounds_toArray, List.set_cons_zero, List.set_cons_succ, i64_w, i32_w]
                                          rfl
                                        refine pure_ (i := 5) (N := some 81) (v := ?_) (a' := ?_) #[true, true, true, false, true, true, false, false, false] rfl rfl (any_of HT_.out (by kernel_rfl)) (fun _ _ _ h => h) (Or.inl ⟨by rfl, ?_⟩) ?_ ?_
                                        rotate_left
                                        · intro w'
                                          go_simp
                                          with_reducible rfl
                                        rotate_left
                                        · simp only [Act.put, List.setIfInBounds_toArray, List.set_cons_zero, List.set_cons_succ, i64_w, i32_w]
                                          rfl
                                        refine pure_ (i := 6) (N := some 82) (v := ?_) (a' := ?_) #[true, true, true, false, true, true, true, false, false] rfl rfl (any_of HT_.out (by kernel_rfl)) (fun _ _ _ h => h) (Or.inl ⟨by rfl, ?_⟩) ?_ ?_
                                        rotate_left
                                        · intro w'
                                          go_simp
                                          with_reducible rfl
                                        rotate_left
                                        · simp only [Act.put, List.setIfInBounds_toArray, List.set_cons_zero, List.set_cons_succ, i64_w, i32_w]
                                          rfl
                                        refine take_ (i := 3) (N := some 79) (v := ?_) (a' := ?_) #[true, true, true, true, true, true, true, false, false] rfl rfl (take_ofW HT_.out HW_.out (by kernel_rfl)) (fun _ _ _ h => h) (Or.inl ⟨by rfl, ?_⟩) hHeld ?_ ?_
                                        rotate_left
                                        · rintro w' ⟨s0, s1, s2, s3⟩
                                          go_simp
                                          with_reducible rfl
                                        rotate_left
                                        · simp only [Act.put, List.setIfInBounds_toArray, List.set_cons_zero, List.set_cons_succ, i64_w, i32_w]
                                          rfl
                                        refine take_ (i := 7) (N := some 83) (v := ?_) (a' := ?_) #[true, true, true, true, true, true, true, true, false] rfl rfl (take_ofW HT_.out HW_.out (by kernel_rfl)) (fun _ _ _ h => h) (Or.inl ⟨by rfl, ?_⟩) hHeld ?_ ?_
                                        rotate_left
                                        · rintro w' ⟨s0, s1, s2, s3⟩
                                          go_simp
                                          with_reducible rfl
                                        rotate_left
                                        · simp only [Act.put, List.setIfInBounds_toArray, List.set_cons_zero, List.set_cons_succ, i64_w, i32_w]
                                          rfl
                                        refine pure_ (i := 8) (N := some 84) (v := ?_) (a' := ?_) #[true, true, true, true, true, true, true, true, true] rfl rfl (any_of HT_.out (by kernel_rfl)) (fun _ _ _ h => h) (Or.inl ⟨by rfl, ?_⟩) ?_ ?_
                                        rotate_left
                                        · intro w'
                                          go_simp
                                          with_reducible rfl
                                        rotate_left
                                        · simp only [Act.put, List.setIfInBounds_toArray, List.set_cons_zero, List.set_cons_succ, i64_w, i32_w]
                                          rfl
                                        refine done_ (done_of HT_.out (by kernel_rfl)) ?_
                                        try go_wp2
                                        go_roundg k4
                                        case measure => have := HJ1.out; have := HK2.out; have := HK3.out; have := HK4.out; omega
                                        case rel => exact ⟨(wrap64 (x7_4 + 1)), (by first | rfl | (simp; done) | (simp [*]; done)), H', ⟨by have := HJ1.out; have := HK2.out; have := HK3.out; have := HK4.out; omega⟩, ⟨by (with_reducible repeat (first | apply Kd.R_alloc | apply Kd.R_drewN | apply Kd.R_drew)); exact HO_4.out⟩, ⟨by (with_reducible repeat (first | refine blk_drewN ?_ _ | refine blk_drew ?_ | refine blk_alloc ?_ _)); exact BK146.out⟩, ⟨by repeat (first | (with_reducible first | exact HB.out | apply below_alloc | apply pw_below_drewN | apply below_drew1 | refine below_set ?_ GE146.out) | exact HB.out)⟩⟩
                                    · rw [if_neg c31] at H
                                      exact absurd H (by simp)
                                  · rw [if_neg c30] at H
                                    exact absurd H (by simp)
                                · rw [if_neg c29] at H
                                  exact absurd H (by simp)
                              · rw [if_neg c28] at H
                                exact absurd H (by simp)
                            · rw [if_neg c27] at H
                              have c27b0 : decide (x7_4 < x5_3) = false := decide_eq_false c27
                              clear c27
                              have H' := Aside0.mk H
                              clear H
                              go_wp2
                              go_roundg k4
                              case measure => have := HJ1.out; have := HK2.out; have := HK3.out; have := HK4.out; omega
                              case rel => exact ⟨(wrap64 (x5_3 + 1)), (by first | rfl | (simp; done) | (simp [*]; done)), H', ⟨by have := HJ1.out; have := HK2.out; have := HK3.out; have := HK4.out; omega⟩, ⟨by (with_reducible repeat (first | apply Kd.R_alloc | apply Kd.R_drewN | apply Kd.R_drew)); exact HO_4.out⟩, ⟨by (with_reducible repeat (first | refine blk_drewN ?_ _ | refine blk_drew ?_ | refine blk_alloc ?_ _)); exact BK146.out⟩, ⟨by repeat (first | (with_reducible first | exact HB.out | apply below_alloc | apply pw_below_drewN | apply below_drew1 | refine below_set ?_ GE146.out) | exact HB.out)⟩⟩
                      · rw [if_neg c23] at H
                        have c23b0 : (t154 == 0) = false := beq_eq_false_iff_ne.mpr c23
                        have c23b1 : (t154 != 0) = true := bne_iff_ne.mpr c23
                        obtain rfl := Option.some.inj H
                        obtain ⟨Ao35, co35, eo35⟩ := Kd.R_slice HO_4.out
                        subst eo35
                        try go_wp2
                        have n0_ := Aside0.mk (Kd.R_drew HO_4.out)
                        have n1_ := Aside0.mk (blk_drew BK146.out)
                        have n2_ := Aside0.mk (below_drew1 HB.out)
                        clear HO_4
                        clear BK146
                        clear HB
                        have HO_4 := n0_
                        have BK146 := n1_
                        have HB := n2_
                        clear n0_ n1_ n2_
                        have p152 : 0 ≤ (x5_3 : Int) := of_decide_eq_true (by first | (with_reducible assumption) | assumption)
                        have q152 : x5_3 < (t149.length : Int) := of_decide_eq_true (by first | (with_reducible assumption) | assumption)
                        obtain ⟨ad152, e152, hx152_0, hx152_1⟩ := at_T90 (Kd.R_reads' HO_4.out).2.2 x5_3 p152 q152
                        cases e152
                        replace p152 := eq_true p152
                        replace q152 := eq_true q152
                        have p153 : 0 ≤ (x5_3 : Int) := of_decide_eq_true (by first | (with_reducible assumption) | assumption)
                        have q153 : x5_3 < (t149.length : Int) := of_decide_eq_true (by first | (with_reducible assumption) | assumption)
                        obtain ⟨ad153, e153, hx153_0, hx153_1⟩ := at_T90 (Kd.R_reads' HO_4.out).2.2 x5_3 p153 q153
                        obtain rfl : ad152 = ad153 := (by injection e153)
                        replace p153 := eq_true p153
                        replace q153 := eq_true q153
                        refine start_ (n := 13) (S := fun w' => w'.cell? ⟨gb146, 0, none⟩ = some (.slice A0_0 l0_0.length c0_0) ∧ w'.cell? ⟨gb146, 1, none⟩ = some (.slice A0_1 l0_1.length c0_1) ∧ w'.cell? ⟨gb146, 2, none⟩ = some (.slice A0_2 l0_2.length c0_2) ∧ w'.cell? (ad152.add ((x5_3).toNat * 2)) = some (.int .i64 ((rd_T90 t149 x5_3).f0)) ∧ w'.cell? ⟨(ad152.add ((x5_3).toNat * 2)).block, (ad152.add ((x5_3).toNat * 2)).off + 1, none⟩ = some (.int .i64 ((rd_T90 t149 x5_3).f1)) ∧ w'.cell? (ad152.add ((x5_3).toNat * 2)) = some (.int .i64 ((rd_T90 t149 x5_3).f0)) ∧ w'.cell? ⟨(ad152.add ((x5_3).toNat * 2)).block, (ad152.add ((x5_3).toNat * 2)).off + 1, none⟩ = some (.int .i64 ((rd_T90 t149 x5_3).f1))) (ds := []) #[false, false, false, false, false, false, false, false, false, false, false, false, false] (by kernel_rfl) rfl rfl ⟨(blk_cell BK146.out 0).trans rfl, (blk_cell BK146.out 1).trans rfl, (blk_cell BK146.out 2).trans rfl, hx152_0, hx152_1, hx153_0, hx153_1⟩ (fun hHeld => ?_); refine with_tabW crossbuckref05_Check.tab12 crossbuckref05_Check.bits12 (fun HT_ HW_ => ?_)
                        generalize wr.drew = w36 at HO_4 BK146 HB hx152_0 hx152_1 hx153_0 hx153_1 hHeld ⊢
                        refine pure_ (i := 1) (N := some 57) (v := ?_) (a' := ?_) #[false, true, false, false, false, false, false, false, false, false, false, false, false] rfl rfl (any_of HT_.out (by kernel_rfl)) (fun _ _ _ h => h) (Or.inl ⟨by rfl, ?_⟩) ?_ ?_
                        rotate_left
                        · intro w'
                          go_simp
                          with_reducible rfl
                        rotate_left
                        · simp only [Act.put, List.setIfInBounds_toArray, List.set_cons_zero, List.set_cons_succ, i64_w, i32_w]
                          rfl
                        refine pure_ (i := 2) (N := some 58) (v := ?_) (a' := ?_) #[false, true, true, false, false, false, false, false, false, false, false, false, false] rfl rfl (any_of HT_.out (by kernel_rfl)) (fun _ _ _ h => h) (Or.inl ⟨by rfl, ?_⟩) ?_ ?_
                        rotate_left
                        · intro w'
                          go_simp
                          with_reducible rfl
                        rotate_left
                        · simp only [Act.put, List.setIfInBounds_toArray, List.set_cons_zero, List.set_cons_succ, i64_w, i32_w]
                          rfl
                        refine pure_ (i := 3) (N := some 59) (v := ?_) (a' := ?_) #[false, true, true, true, false, false, false, false, false, false, false, false, false] rfl rfl (any_of HT_.out (by kernel_rfl)) (fun _ _ _ h => h) (Or.inl ⟨by rfl, ?_⟩) ?_ ?_
                        rotate_left
                        · intro w'
                          go_simp
                          with_reducible rfl
                        rotate_left
                        · simp only [Act.put, List.setIfInBounds_toArray, List.set_cons_zero, List.set_cons_succ, i64_w, i32_w]
                          rfl
                        refine pure_ (i := 4) (N := some 60) (v := ?_) (a' := ?_) #[false, true, true, true, true, false, false, false, false, false, false, false, false] rfl rfl (any_of HT_.out (by kernel_rfl)) (fun _ _ _ h => h) (Or.inl ⟨by rfl, ?_⟩) ?_ ?_
                        rotate_left
                        · intro w'
                          go_simp
                          with_reducible rfl
                        rotate_left
                        · simp only [Act.put, List.setIfInBounds_toArray, List.set_cons_zero, List.set_cons_succ, i64_w, i32_w]
                          rfl
                        refine pure_ (i := 6) (N := some 62) (v := ?_) (a' := ?_) #[false, true, true, true, true, false, true, false, false, false, false, false, false] rfl rfl (any_of HT_.out (by kernel_rfl)) (fun _ _ _ h => h) (Or.inl ⟨by rfl, ?_⟩) ?_ ?_
                        rotate_left
                        · intro w'
                          go_simp
                          with_reducible rfl
                        rotate_left
                        · simp only [Act.put, List.setIfInBounds_toArray, List.set_cons_zero, List.set_cons_succ, i64_w, i32_w]
                          rfl
                        refine pure_ (i := 7) (N := some 63) (v := ?_) (a' := ?_) #[false, true, true, true, true, false, true, true, false, false, false, false, false] rfl rfl (any_of HT_.out (by kernel_rfl)) (fun _ _ _ h => h) (Or.inl ⟨by rfl, ?_⟩) ?_ ?_
                        rotate_left
                        · intro w'
                          go_simp
                          with_reducible rfl
                        rotate_left
                        · simp only [Act.put, List.setIfInBounds_toArray, List.set_cons_zero, List.set_cons_succ, i64_w, i32_w]
                          rfl
                        refine pure_ (i := 8) (N := some 64) (v := ?_) (a' := ?_) #[false, true, true, true, true, false, true, true, true, false, false, false, false] rfl rfl (any_of HT_.out (by kernel_rfl)) (fun _ _ _ h => h) (Or.inl ⟨by rfl, ?_⟩) ?_ ?_
                        rotate_left
                        · intro w'
                          go_simp
                          with_reducible rfl
                        rotate_left
                        · simp only [Act.put, List.setIfInBounds_toArray, List.set_cons_zero, List.set_cons_succ, i64_w, i32_w]
                          rfl
                        refine pure_ (i := 9) (N := some 65) (v := ?_) (a' := ?_) #[false, true, true, true, true, false, true, true, true, true, false, false, false] rfl rfl (any_of HT_.out (by kernel_rfl)) (fun _ _ _ h => h) (Or.inl ⟨by rfl, ?_⟩) ?_ ?_
                        rotate_left
                        · intro w'
                          go_simp
                          with_reducible rfl
                        rotate_left
                        · simp only [Act.put, List.setIfInBounds_toArray, List.set_cons_zero, List.set_cons_succ, i64_w, i32_w]
                          rfl
                        refine take_ (i := 0) (N := some 56) (v := ?_) (a' := ?_) #[true, true, true, true, true, false, true, true, true, true, false, false, false] rfl rfl (take_ofW HT_.out HW_.out (by kernel_rfl)) (fun _ _ _ h => h) (Or.inl ⟨by rfl, ?_⟩) hHeld ?_ ?_
                        rotate_left
                        · rintro w' ⟨s0, s1, s2, s3, s4, s5, s6⟩
                          go_simp
                          with_reducible rfl
                        rotate_left
                        · simp only [Act.put, List.setIfInBounds_toArray, List.set_cons_zero, List.set_cons_succ, i64_w, i32_w]
                          rfl
                        refine take_ (i := 5) (N := some 61) (v := ?_) (a' := ?_) #[true, true, true, true, true, true, true, true, true, true, false, false, false] rfl rfl (take_ofW HT_.out HW_.out (by kernel_rfl)) (fun _ _ _ h => h) (Or.inl ⟨by rfl, ?_⟩) hHeld ?_ ?_
                        rotate_left
                        · rintro w' ⟨s0, s1, s2, s3, s4, s5, s6⟩
                          go_simp
                          with_reducible rfl
                        rotate_left
                        · simp only [Act.put, List.setIfInBounds_toArray, List.set_cons_zero, List.set_cons_succ, i64_w, i32_w]
                          rfl
                        refine take_ (i := 10) (N := some 66) (v := ?_) (a' := ?_) #[true, true, true, true, true, true, true, true, true, true, true, false, false] rfl rfl (take_ofW HT_.out HW_.out (by kernel_rfl)) (fun _ _ _ h => h) (Or.inl ⟨by rfl, ?_⟩) hHeld ?_ ?_
                        rotate_left
                        · rintro w' ⟨s0, s1, s2, s3, s4, s5, s6⟩
                          go_simp
                          with_reducible rfl
                        rotate_left
                        · simp only [Act.put, List.setIfInBounds_toArray, List.set_cons_zero, List.set_cons_succ, i64_w, i32_w]
                          rfl
                        refine one_ (i := 11) (N := some 67) #[true, true, true, true, true, true, true, true, true, true, true, true, false] rfl rfl (one_of HT_.out (by kernel_rfl)) (by decide) (fun K hK => ?_)
                        refine goes_ Try.func16 (by kernel_rfl) rfl #[.agg #[.slice A0_0 l0_0.length c0_0, .slice A0_1 l0_1.length c0_1, .slice A0_2 l0_2.length c0_2], .int .i64 ((rd_T90 t149 x5_3).f0), .int .i64 ((rd_T90 t149 x5_3).f1)] (by rfl) rfl rfl (by (try simp only [List.map_toArray, List.map_cons, List.map_nil]); first | done | rfl | (simp only [List.length_drop, List.length_take]; rfl)) ?_
                        with_reducible refine (crossbuckref05_Port.calls k3 _ _ l0_0 _ _ l0_1 _ _ l0_2 ((rd_T90 t149 x5_3).f0) ((rd_T90 t149 x5_3).f1) t154 _ ?side1 ?side2 ?side3 ?side4 ?side5 ?side6 A22.out).mono ?_
                        (case side1 => repeat (first | exact (Kd.C_below HR0_0.out HB.out) | (with_reducible refine Kd.C_alloc ?_ _) | (with_reducible refine Kd.C_drewN ?_ _) | (with_reducible refine Kd.C_drew ?_)))
                        (case side2 => exact HC0_0.out)
                        (case side3 => repeat (first | exact (Kd.C_below HR0_1.out HB.out) | (with_reducible refine Kd.C_alloc ?_ _) | (with_reducible refine Kd.C_drewN ?_ _) | (with_reducible refine Kd.C_drew ?_)))
                        (case side4 => exact HC0_1.out)
                        (case side5 => repeat (first | exact (Kd.C_below HR0_2.out HB.out) | (with_reducible refine Kd.C_alloc ?_ _) | (with_reducible refine Kd.C_drewN ?_ _) | (with_reducible refine Kd.C_drew ?_)))
                        (case side6 => exact HC0_2.out)
                        rintro e w37 ⟨rfl, hb⟩
                        have HS3_ := (hb.cell (World.block_lt_of_cell? _ _ (hHeld.2.2.2.1))).trans (hHeld.2.2.2.1)
                        have HS4_ := (hb.cell (World.block_lt_of_cell? _ _ (hHeld.2.2.2.2.1))).trans (hHeld.2.2.2.2.1)
                        have HS5_ := (hb.cell (World.block_lt_of_cell? _ _ (hHeld.2.2.2.2.2.1))).trans (hHeld.2.2.2.2.2.1)
                        have HS6_ := (hb.cell (World.block_lt_of_cell? _ _ (hHeld.2.2.2.2.2.2))).trans (hHeld.2.2.2.2.2.2)
                        refine ⟨_, rfl, ?_⟩
                        have n0_ := Aside0.mk (Kd.R_below (by (with_reducible repeat (first | apply Kd.R_alloc | apply Kd.R_drewN | apply Kd.R_drew)); exact HO_4.out) hb)
                        have n1_ := Aside0.mk (blk_below (g := gb146) (o := .cells #[.slice A0_0 l0_0.length c0_0, .slice A0_1 l0_1.length c0_1, .slice A0_2 l0_2.length c0_2] 26 (0, 0)) (by (with_reducible repeat (first | refine blk_drewN ?_ _ | refine blk_drew ?_ | refine blk_alloc ?_ _)); exact BK146.out) hb)
                        have n2_ := Aside0.mk (below_step (by repeat (first | (with_reducible first | exact HB.out | apply below_alloc | apply pw_below_drewN | apply below_drew1 | refine below_set ?_ GE146.out) | exact HB.out)) hb)
                        clear HO_4
                        clear BK146
                        clear HB
                        have HO_4 := n0_
                        have BK146 := n1_
                        have HB := n2_
                        clear n0_ n1_ n2_
                        (try clear hb)
                        (try clear hb2)
                        (try clear hk)
                        (try clear hi)
                        refine hK.out _ _ ⟨(blk_cell BK146.out 0).trans rfl, (blk_cell BK146.out 1).trans rfl, (blk_cell BK146.out 2).trans rfl, HS3_, HS4_, HS5_, HS6_⟩ (fun hHeld => ?_)
                        clear hK K
                        refine norm_ (a' := ?_) ?_ ?_
                        rotate_left
                        · show Act.put _ (some 67) _ = _
                          simp only [Act.put, List.setIfInBounds_toArray, List.set_cons_zero, List.set_cons_succ, i64_w, i32_w]
                          rfl
                        refine pure_ (i := 12) (N := some 6) (v := ?_) (a' := ?_) #[true, true, true, true, true, true, true, true, true, true, true, true, true] rfl rfl (any_of HT_.out (by kernel_rfl)) (fun _ _ _ h => h) (Or.inl ⟨by rfl, ?_⟩) ?_ ?_
                        rotate_left
                        · intro w'
                          go_simp
                          with_reducible rfl
                        rotate_left
                        · simp only [Act.put, List.setIfInBounds_toArray, List.set_cons_zero, List.set_cons_succ, i64_w, i32_w]
                          rfl
                        refine done_ (done_of HT_.out (by kernel_rfl)) ?_
                        try go_wp2
                        go_ret
                        exact ⟨by first | rfl | (simp [errW_none, errW_some] <;> rfl) | (simp [*, errW_none, errW_some] <;> rfl), by repeat (first | (with_reducible first | exact HB.out | apply below_alloc | apply pw_below_drewN | apply below_drew1 | refine below_set ?_ GE146.out) | exact HB.out)⟩
                    · rw [if_neg c21] at H
                      exact absurd H (by simp)
                  · rw [if_neg c20] at H
                    have c20b0 : decide (x5_3 < (t149.length : Int)) = false := decide_eq_false c20
                    clear c20
                    have H' := Aside0.mk H
                    clear H
                    obtain ⟨Ao38, co38, eo38⟩ := Kd.R_slice HO_4.out
                    subst eo38
                    go_wp2
                    go_loopg [8] k3 (fun kq v8 w' => ∃ (x8_4 : Int), v8 = .int .i64 x8_4 ∧ Aside0 (crossbuckref05_Check.l3 kq x8_4 l0_0 l0_1 l0_2 = some r) ∧ Aside0 (kq ≤ k3) ∧ Aside0 (w'.heap[gb146]? = some (.cells #[(.slice A0_0 l0_0.length c0_0), (.slice A0_1 l0_1.length c0_1), (.slice A0_2 l0_2.length c0_2)] 26 (0, 0))) ∧ Aside0 (Below w.heap.size w w'))
                    case atStart => exact ⟨(0), (by first | rfl | (simp; done) | (simp [*]; done)), H', ⟨Nat.le_refl _⟩, ⟨by (with_reducible repeat (first | refine blk_drewN ?_ _ | refine blk_drew ?_ | refine blk_alloc ?_ _)); exact BK146.out⟩, ⟨by repeat (first | (with_reducible first | exact HB.out | apply below_alloc | apply pw_below_drewN | apply below_drew1 | refine below_set ?_ GE146.out) | exact HB.out)⟩⟩
                    case round =>
                      clear H'
                      try clear c1
                      try clear p1
                      try clear q1
                      try clear hx1
                      try clear c2
                      try clear p2
                      try clear c3
                      try clear c4
                      try clear c4b0
                      try clear c4b1
                      try clear c6
                      try clear c6b0
                      try clear c6b1
                      try clear p6
                      try clear c9
                      try clear c10
                      try clear c10b0
                      try clear c11
                      try clear c11b0
                      try clear c12
                      try clear c12b0
                      try clear c14
                      try clear c14b0
                      try clear p14
                      try clear q14
                      try clear hx14
                      try clear p15
                      try clear q15
                      try clear hx15
                      try clear c16
                      try clear c20
                      try clear c20b0
                      try clear c21
                      try clear c21b0
                      try clear c23
                      try clear c23b0
                      try clear c23b1
                      try clear c27
                      try clear c27b0
                      try clear c28
                      try clear c28b0
                      try clear c29
                      try clear c29b0
                      try clear c30
                      try clear c30b0
                      try clear c31
                      try clear c31b0
                      try clear c32
                      try clear c32b0
                      try clear c32b1
                      try clear c32b2
                      try clear hcz13_0
                      try clear hcz13_1
                      try clear hcz13_2
                      try clear hcz15_0
                      try clear hcz15_1
                      try clear hcz15_2
                      try clear hcz16_0
                      try clear hcz16_1
                      try clear hcz16_2
                      try clear hcz18_0
                      try clear hcz18_1
                      try clear hcz18_2
                      try clear hcz5_0
                      try clear hcz5_1
                      try clear hcz5_2
                      try clear hcz7_0
                      try clear hcz7_1
                      try clear hcz7_2
                      try clear hcz8_0
                      try clear hcz8_1
                      try clear hcz8_2
                      try clear hfz13_0
                      try clear hfz13_1
                      try clear hfz13_2
                      try clear hfz15_0
                      try clear hfz15_1
                      try clear hfz15_2
                      try clear hfz16_0
                      try clear hfz16_1
                      try clear hfz16_2
                      try clear hfz18_0
                      try clear hfz18_1
                      try clear hfz18_2
                      try clear hfz5_0
                      try clear hfz5_1
                      try clear hfz5_2
                      try clear hfz7_0
                      try clear hfz7_1
                      try clear hfz7_2
                      try clear hfz8_0
                      try clear hfz8_1
                      try clear hfz8_2
                      try clear hx147_0
                      try clear hx148_0
                      try clear hx152_0
                      try clear hx152_1
                      try clear hx153_0
                      try clear hx153_1
                      try clear hx155_0
                      try clear hx155_1
                      try clear hx156_0
                      try clear hx156_1
                      try clear p1
                      try clear p14
                      try clear p147
                      try clear p148
                      try clear p15
                      try clear p152
                      try clear p153
                      try clear p155
                      try clear p156
                      try clear p2
                      try clear p6
                      try clear q1
                      try clear q14
                      try clear q147
                      try clear q148
                      try clear q15
                      try clear q152
                      try clear q153
                      try clear q155
                      try clear q156
                      obtain ⟨x8_4, rfl, HA, HK4, BK146, HB⟩ := hrel
                      cases gk with
                      | zero => exact absurd HA.out (by simp [crossbuckref05_Check.l3])
                      | succ k4 =>
                        have H := HA.out
                        clear HA
                        simp only [crossbuckref05_Check.l3] at H
                        by_cases c39 : x8_4 < (l0_2.length : Int)
                        · rw [if_pos c39] at H
                          have c39b0 : decide (x8_4 < (l0_2.length : Int)) = true := decide_eq_true c39
                          clear c39
                          by_cases c40 : 0 ≤ x8_4
                          · rw [if_pos c40] at H
                            have c40b0 : decide (0 ≤ x8_4) = true := decide_eq_true c40
                            clear c40
                            replace H := Option.bind_eq_some_iff.mp H
                            obtain ⟨t159, A410, H⟩ := H
                            replace H : (if t159 = 0 then ((crossbuckref04_Check.f k4 ((rd_T52 l0_2 x8_4).f4.f0.f0) ((rd_T52 l0_2 x8_4).f4.f0.f1) ((rd_T52 l0_2 x8_4).f4.f1.f0) ((rd_T52 l0_2 x8_4).f4.f1.f1) ((rd_T52 l0_2 x8_4).f4.f2) ((rd_T52 l0_2 x8_4).f4.f3.f0) ((rd_T52 l0_2 x8_4).f4.f3.f1) ((rd_T52 l0_2 x8_4).f4.f4.f0) ((rd_T52 l0_2 x8_4).f4.f4.f1)).bind fun t161 => (if t161 = 0 then (crossbuckref05_Check.l3 k4 (wrap64 (x8_4 + 1)) l0_0 l0_1 l0_2) else (some t161))) else (some t159)) = some r := H
                            have A41 := Aside0.mk A410
                            clear A410
                            by_cases c42 : t159 = 0
                            · rw [if_pos c42] at H
                              have c42b0 : (t159 == 0) = true := beq_iff_eq.mpr c42
                              have c42b1 : (t159 != 0) = false := bne_eq_false_iff_eq.mpr c42
                              clear c42
                              replace H := Option.bind_eq_some_iff.mp H
                              obtain ⟨t161, A430, H⟩ := H
                              replace H : (if t161 = 0 then (crossbuckref05_Check.l3 k4 (wrap64 (x8_4 + 1)) l0_0 l0_1 l0_2) else (some t161)) = some r := H
                              have A43 := Aside0.mk A430
                              clear A430
                              by_cases c44 : t161 = 0
                              · rw [if_pos c44] at H
                                have c44b0 : (t161 == 0) = true := beq_iff_eq.mpr c44
                                have c44b1 : (t161 != 0) = false := bne_eq_false_iff_eq.mpr c44
                                clear c44
                                have H' := Aside0.mk H
                                clear H
                                have hcz45_0 : wr.cell? ⟨gb146, 0, none⟩ = some (.slice A0_0 l0_0.length c0_0) := (blk_cell BK146.out 0).trans rfl
                                have hcz45_1 : wr.cell? ⟨gb146, 1, none⟩ = some (.slice A0_1 l0_1.length c0_1) := (blk_cell BK146.out 1).trans rfl
                                have hcz45_2 : wr.cell? ⟨gb146, 2, none⟩ = some (.slice A0_2 l0_2.length c0_2) := (blk_cell BK146.out 2).trans rfl
                                have hfz45_0 := blk_frozen BK146.out 0
                                have hfz45_1 := blk_frozen BK146.out 1
                                have hfz45_2 := blk_frozen BK146.out 2
                                try go_wp2
                                have n0_ := Aside0.mk (blk_drew BK146.out)
                                have n1_ := Aside0.mk (below_drew1 HB.out)
                                clear BK146
                                clear HB
                                have BK146 := n0_
                                have HB := n1_
                                clear n0_ n1_
                                have p157 : 0 ≤ (x8_4 : Int) := of_decide_eq_true (by first | (with_reducible assumption) | assumption)
                                have q157 : x8_4 < (l0_2.length : Int) := of_decide_eq_true (by first | (with_reducible assumption) | assumption)
                                obtain ⟨ad157, e157, hx157_0, hx157_1, hx157_2, hx157_3, hx157_4, hx157_5, hx157_6, hx157_7, hx157_8, hx157_9, hx157_10, hx157_11, hx157_12⟩ := at_T52 HR0_2.out x8_4 p157 q157
                                have hw157_12 := hx157_12
                                have hw157_11 := hx157_11
                                have hw157_10 := hx157_10
                                have hw157_9 := hx157_9
                                have hw157_8 := hx157_8
                                have hw157_7 := hx157_7
                                have hw157_6 := hx157_6
                                have hw157_5 := hx157_5
                                have hw157_4 := hx157_4
                                have hw157_3 := hx157_3
                                have hw157_2 := hx157_2
                                have hw157_1 := hx157_1
                                have hw157_0 := hx157_0
                                cases e157
                                replace hx157_0 := (HB.out.cell (World.block_lt_of_cell? w _ hx157_0)).trans hx157_0
                                replace hx157_1 := (HB.out.cell (World.block_lt_of_cell? w _ hx157_1)).trans hx157_1
                                replace hx157_2 := (HB.out.cell (World.block_lt_of_cell? w _ hx157_2)).trans hx157_2
                                replace hx157_3 := (HB.out.cell (World.block_lt_of_cell? w _ hx157_3)).trans hx157_3
                                replace hx157_4 := (HB.out.cell (World.block_lt_of_cell? w _ hx157_4)).trans hx157_4
                                replace hx157_5 := (HB.out.cell (World.block_lt_of_cell? w _ hx157_5)).trans hx157_5
                                replace hx157_6 := (HB.out.cell (World.block_lt_of_cell? w _ hx157_6)).trans hx157_6
                                replace hx157_7 := (HB.out.cell (World.block_lt_of_cell? w _ hx157_7)).trans hx157_7
                                replace hx157_8 := (HB.out.cell (World.block_lt_of_cell? w _ hx157_8)).trans hx157_8
                                replace hx157_9 := (HB.out.cell (World.block_lt_of_cell? w _ hx157_9)).trans hx157_9
                                replace hx157_10 := (HB.out.cell (World.block_lt_of_cell? w _ hx157_10)).trans hx157_10
                                replace hx157_11 := (HB.out.cell (World.block_lt_of_cell? w _ hx157_11)).trans hx157_11
                                replace hx157_12 := (HB.out.cell (World.block_lt_of_cell? w _ hx157_12)).trans hx157_12
                                replace p157 := eq_true p157
                                replace q157 := eq_true q157
                                have p158 : 0 ≤ (x8_4 : Int) := of_decide_eq_true (by first | (with_reducible assumption) | assumption)
                                have q158 : x8_4 < (l0_2.length : Int) := of_decide_eq_true (by first | (with_reducible assumption) | assumption)
                                obtain ⟨ad158, e158, hx158_0, hx158_1, hx158_2, hx158_3, hx158_4, hx158_5, hx158_6, hx158_7, hx158_8, hx158_9, hx158_10, hx158_11, hx158_12⟩ := at_T52 HR0_2.out x8_4 p158 q158
                                have hw158_12 := hx158_12
                                have hw158_11 := hx158_11
                                have hw158_10 := hx158_10
                                have hw158_9 := hx158_9
                                have hw158_8 := hx158_8
                                have hw158_7 := hx158_7
                                have hw158_6 := hx158_6
                                have hw158_5 := hx158_5
                                have hw158_4 := hx158_4
                                have hw158_3 := hx158_3
                                have hw158_2 := hx158_2
                                have hw158_1 := hx158_1
                                have hw158_0 := hx158_0
                                obtain rfl : ad157 = ad158 := (by injection e158)
                                replace hx158_0 := (HB.out.cell (World.block_lt_of_cell? w _ hx158_0)).trans hx158_0
                                replace hx158_1 := (HB.out.cell (World.block_lt_of_cell? w _ hx158_1)).trans hx158_1
                                replace hx158_2 := (HB.out.cell (World.block_lt_of_cell? w _ hx158_2)).trans hx158_2
                                replace hx158_3 := (HB.out.cell (World.block_lt_of_cell? w _ hx158_3)).trans hx158_3
                                replace hx158_4 := (HB.out.cell (World.block_lt_of_cell? w _ hx158_4)).trans hx158_4
                                replace hx158_5 := (HB.out.cell (World.block_lt_of_cell? w _ hx158_5)).trans hx158_5
                                replace hx158_6 := (HB.out.cell (World.block_lt_of_cell? w _ hx158_6)).trans hx158_6
                                replace hx158_7 := (HB.out.cell (World.block_lt_of_cell? w _ hx158_7)).trans hx158_7
                                replace hx158_8 := (HB.out.cell (World.block_lt_of_cell? w _ hx158_8)).trans hx158_8
                                replace hx158_9 := (HB.out.cell (World.block_lt_of_cell? w _ hx158_9)).trans hx158_9
                                replace hx158_10 := (HB.out.cell (World.block_lt_of_cell? w _ hx158_10)).trans hx158_10
                                replace hx158_11 := (HB.out.cell (World.block_lt_of_cell? w _ hx158_11)).trans hx158_11
                                replace hx158_12 := (HB.out.cell (World.block_lt_of_cell? w _ hx158_12)).trans hx158_12
                                replace p158 := eq_true p158
                                replace q158 := eq_true q158
                                refine start_ (n := 15) (S := fun w' => w'.cell? ⟨gb146, 0, none⟩ = some (.slice A0_0 l0_0.length c0_0) ∧ w'.cell? ⟨gb146, 1, none⟩ = some (.slice A0_1 l0_1.length c0_1) ∧ w'.cell? ⟨gb146, 2, none⟩ = some (.slice (some ad157) l0_2.length c0_2) ∧ w'.cell? (ad157.add ((x8_4).toNat * 13)) = some (.int .i64 ((rd_T52 l0_2 x8_4).f0)) ∧ w'.cell? ⟨(ad157.add ((x8_4).toNat * 13)).block, (ad157.add ((x8_4).toNat * 13)).off + 1, none⟩ = some (.int .i64 ((rd_T52 l0_2 x8_4).f1)) ∧ w'.cell? ⟨(ad157.add ((x8_4).toNat * 13)).block, (ad157.add ((x8_4).toNat * 13)).off + 2, none⟩ = some (.bool ((rd_T52 l0_2 x8_4).f2)) ∧ w'.cell? ⟨(ad157.add ((x8_4).toNat * 13)).block, (ad157.add ((x8_4).toNat * 13)).off + 3, none⟩ = some (.bool ((rd_T52 l0_2 x8_4).f3)) ∧ w'.cell? ⟨(ad157.add ((x8_4).toNat * 13)).block, (ad157.add ((x8_4).toNat * 13)).off + 4, none⟩ = some (.int .u32 ((rd_T52 l0_2 x8_4).f4.f0.f0)) ∧ w'.cell? ⟨(ad157.add ((x8_4).toNat * 13)).block, (ad157.add ((x8_4).toNat * 13)).off + 5, none⟩ = some (.int .i64 ((rd_T52 l0_2 x8_4).f4.f0.f1)) ∧ w'.cell? ⟨(ad157.add ((x8_4).toNat * 13)).block, (ad157.add ((x8_4).toNat * 13)).off + 6, none⟩ = some (.int .u32 ((rd_T52 l0_2 x8_4).f4.f1.f0)) ∧ w'.cell? ⟨(ad157.add ((x8_4).toNat * 13)).block, (ad157.add ((x8_4).toNat * 13)).off + 7, none⟩ = some (.int .i64 ((rd_T52 l0_2 x8_4).f4.f1.f1)) ∧ w'.cell? ⟨(ad157.add ((x8_4).toNat * 13)).block, (ad157.add ((x8_4).toNat * 13)).off + 8, none⟩ = some (.int .i64 ((rd_T52 l0_2 x8_4).f4.f2)) ∧ w'.cell? ⟨(ad157.add ((x8_4).toNat * 13)).block, (ad157.add ((x8_4).toNat * 13)).off + 9, none⟩ = some (.int .u16 ((rd_T52 l0_2 x8_4).f4.f3.f0)) ∧ w'.cell? ⟨(ad157.add ((x8_4).toNat * 13)).block, (ad157.add ((x8_4).toNat * 13)).off + 10, none⟩ = some (.int .u16 ((rd_T52 l0_2 x8_4).f4.f3.f1)) ∧ w'.cell? ⟨(ad157.add ((x8_4).toNat * 13)).block, (ad157.add ((x8_4).toNat * 13)).off + 11, none⟩ = some (.int .u16 ((rd_T52 l0_2 x8_4).f4.f4.f0)) ∧ w'.cell? ⟨(ad157.add ((x8_4).toNat * 13)).block, (ad157.add ((x8_4).toNat * 13)).off + 12, none⟩ = some (.int .u16 ((rd_T52 l0_2 x8_4).f4.f4.f1)) ∧ w'.cell? (ad157.add ((x8_4).toNat * 13)) = some (.int .i64 ((rd_T52 l0_2 x8_4).f0)) ∧ w'.cell? ⟨(ad157.add ((x8_4).toNat * 13)).block, (ad157.add ((x8_4).toNat * 13)).off + 1, none⟩ = some (.int .i64 ((rd_T52 l0_2 x8_4).f1)) ∧ w'.cell? ⟨(ad157.add ((x8_4).toNat * 13)).block, (ad157.add ((x8_4).toNat * 13)).off + 2, none⟩ = some (.bool ((rd_T52 l0_2 x8_4).f2)) ∧ w'.cell? ⟨(ad157.add ((x8_4).toNat * 13)).block, (ad157.add ((x8_4).toNat * 13)).off + 3, none⟩ = some (.bool ((rd_T52 l0_2 x8_4).f3)) ∧ w'.cell? ⟨(ad157.add ((x8_4).toNat * 13)).block, (ad157.add ((x8_4).toNat * 13)).off + 4, none⟩ = some (.int .u32 ((rd_T52 l0_2 x8_4).f4.f0.f0)) ∧ w'.cell? ⟨(ad157.add ((x8_4).toNat * 13)).block, (ad157.add ((x8_4).toNat * 13)).off + 5, none⟩ = some (.int .i64 ((rd_T52 l0_2 x8_4).f4.f0.f1)) ∧ w'.cell? ⟨(ad157.add ((x8_4).toNat * 13)).block, (ad157.add ((x8_4).toNat * 13)).off + 6, none⟩ = some (.int .u32 ((rd_T52 l0_2 x8_4).f4.f1.f0)) ∧ w'.cell? ⟨(ad157.add ((x8_4).toNat * 13)).block, (ad157.add ((x8_4).toNat * 13)).off + 7, none⟩ = some (.int .i64 ((rd_T52 l0_2 x8_4).f4.f1.f1)) ∧ w'.cell? ⟨(ad157.add ((x8_4).toNat * 13)).block, (ad157.add ((x8_4).toNat * 13)).off + 8, none⟩ = some (.int .i64 ((rd_T52 l0_2 x8_4).f4.f2)) ∧ w'.cell? ⟨(ad157.add ((x8_4).toNat * 13)).block, (ad157.add ((x8_4).toNat * 13)).off + 9, none⟩ = some (.int .u16 ((rd_T52 l0_2 x8_4).f4.f3.f0)) ∧ w'.cell? ⟨(ad157.add ((x8_4).toNat * 13)).block, (ad157.add ((x8_4).toNat * 13)).off + 10, none⟩ = some (.int .u16 ((rd_T52 l0_2 x8_4).f4.f3.f1)) ∧ w'.cell? ⟨(ad157.add ((x8_4).toNat * 13)).block, (ad157.add ((x8_4).toNat * 13)).off + 11, none⟩ = some (.int .u16 ((rd_T52 l0_2 x8_4).f4.f4.f0)) ∧ w'.cell? ⟨(ad157.add ((x8_4).toNat * 13)).block, (ad157.add ((x8_4).toNat * 13)).off + 12, none⟩ = some (.int .u16 ((rd_T52 l0_2 x8_4).f4.f4.f1))) (ds := []) #[false, false, false, false, false, false, false, false, false, false, false, false, false, false, false] (by kernel_rfl) rfl rfl ⟨(blk_cell BK146.out 0).trans rfl, (blk_cell BK146.out 1).trans rfl, (blk_cell BK146.out 2).trans rfl, ((HB.out.cell (World.block_lt_of_cell? w _ hw157_0)).trans hw157_0), ((HB.out.cell (World.block_lt_of_cell? w _ hw157_1)).trans hw157_1), ((HB.out.cell (World.block_lt_of_cell? w _ hw157_2)).trans hw157_2), ((HB.out.cell (World.block_lt_of_cell? w _ hw157_3)).trans hw157_3), ((HB.out.cell (World.block_lt_of_cell? w _ hw157_4)).trans hw157_4), ((HB.out.cell (World.block_lt_of_cell? w _ hw157_5)).trans hw157_5), ((HB.out.cell (World.block_lt_of_cell? w _ hw157_6)).trans hw157_6), ((HB.out.cell (World.block_lt_of_cell? w _ hw157_7)).trans hw157_7), ((HB.out.cell (World.block_lt_of_cell? w _ hw157_8)).trans hw157_8), ((HB.out.cell (World.block_lt_of_cell? w _ hw157_9)).trans hw157_9), ((HB.out.cell (World.block_lt_of_cell? w _ hw157_10)).trans hw157_10), ((HB.out.cell (World.block_lt_of_cell? w _ hw157_11)).trans hw157_11), ((HB.out.cell (World.block_lt_of_cell? w _ hw157_12)).trans hw157_12), ((HB.out.cell (World.block_lt_of_cell? w _ hw158_0)).trans hw158_0), ((HB.out.cell (World.block_lt_of_cell? w _ hw158_1)).trans hw158_1), ((HB.out.cell (World.block_lt_of_cell? w _ hw158_2)).trans hw158_2), ((HB.out.cell (World.block_lt_of_cell? w _ hw158_3)).trans hw158_3), ((HB.out.cell (World.block_lt_of_cell? w _ hw158_4)).trans hw158_4), ((HB.out.cell (World.block_lt_of_cell? w _ hw158_5)).trans hw158_5), ((HB.out.cell (World.block_lt_of_cell? w _ hw158_6)).trans hw158_6), ((HB.out.cell (World.block_lt_of_cell? w _ hw158_7)).trans hw158_7), ((HB.out.cell (World.block_lt_of_cell? w _ hw158_8)).trans hw158_8), ((HB.out.cell (World.block_lt_of_cell? w _ hw158_9)).trans hw158_9), ((HB.out.cell (World.block_lt_of_cell? w _ hw158_10)).trans hw158_10), ((HB.out.cell (World.block_lt_of_cell? w _ hw158_11)).trans hw158_11), ((HB.out.cell (World.block_lt_of_cell? w _ hw158_12)).trans hw158_12)⟩ (fun hHeld => ?_); refine with_tabW crossbuckref05_Check.tab23 crossbuckref05_Check.bits23 (fun HT_ HW_ => ?_)
                                generalize wr.drew = w46 at BK146 HB hx157_0 hx157_1 hx157_10 hx157_11 hx157_12 hx157_2 hx157_3 hx157_4 hx157_5 hx157_6 hx157_7 hx157_8 hx157_9 hx158_0 hx158_1 hx158_10 hx158_11 hx158_12 hx158_2 hx158_3 hx158_4 hx158_5 hx158_6 hx158_7 hx158_8 hx158_9 hHeld ⊢
                                refine pure_ (i := 1) (N := some 93) (v := ?_) (a' := ?_) #[false, true, false, false, false, false, false, false, false, false, false, false, false, false, false] rfl rfl (any_of HT_.out (by kernel_rfl)) (fun _ _ _ h => h) (Or.inl ⟨by rfl, ?_⟩) ?_ ?_
                                rotate_left
                                · intro w'
                                  go_simp
                                  with_reducible rfl
                                rotate_left
                                · simp only [Act.put, List.setIfInBounds_toArray, List.set_cons_zero, List.set_cons_succ, i64_w, i32_w]
                                  rfl
                                refine pure_ (i := 3) (N := some 95) (v := ?_) (a' := ?_) #[false, true, false, true, false, false, false, false, false, false, false, false, false, false, false] rfl rfl (any_of HT_.out (by kernel_rfl)) (fun _ _ _ h => h) (Or.inl ⟨by rfl, ?_⟩) ?_ ?_
                                rotate_left
                                · intro w'
                                  go_simp
                                  with_reducible rfl
                                rotate_left
                                · simp only [Act.put, List.setIfInBounds_toArray, List.set_cons_zero, List.set_cons_succ, i64_w, i32_w]
                                  rfl
                                refine pure_ (i := 7) (N := some 99) (v := ?_) (a' := ?_) #[false, true, false, true, false, false, false, true, false, false, false, false, false, false, false] rfl rfl (any_of HT_.out (by kernel_rfl)) (fun _ _ _ h => h) (Or.inl ⟨by rfl, ?_⟩) ?_ ?_
                                rotate_left
                                · intro w'
                                  go_simp
                                  with_reducible rfl
                                rotate_left
                                · simp only [Act.put, List.setIfInBounds_toArray, List.set_cons_zero, List.set_cons_succ, i64_w, i32_w]
                                  rfl
                                refine pure_ (i := 9) (N := some 101) (v := ?_) (a' := ?_) #[false, true, false, true, false, false, false, true, false, true, false, false, false, false, false] rfl rfl (any_of HT_.out (by kernel_rfl)) (fun _ _ _ h => h) (Or.inl ⟨by rfl, ?_⟩) ?_ ?_
                                rotate_left
                                · intro w'
                                  go_simp
                                  with_reducible rfl
                                rotate_left
                                · simp only [Act.put, List.setIfInBounds_toArray, List.set_cons_zero, List.set_cons_succ, i64_w, i32_w]
                                  rfl
                                refine take_ (i := 0) (N := some 92) (v := ?_) (a' := ?_) #[true, true, false, true, false, false, false, true, false, true, false, false, false, false, false] rfl rfl (take_ofW HT_.out HW_.out (by kernel_rfl)) (fun _ _ _ h => h) (Or.inl ⟨by rfl, ?_⟩) hHeld ?_ ?_
                                rotate_left
                                · rintro w' ⟨s0, s1, s2, s3, s4, s5, s6, s7, s8, s9, s10, s11, s12, s13, s14, s15, s16, s17, s18, s19, s20, s21, s22, s23, s24, s25, s26, s27, s28⟩
                                  go_simp
                                  with_reducible rfl
                                rotate_left
                                · simp only [Act.put, List.setIfInBounds_toArray, List.set_cons_zero, List.set_cons_succ, i64_w, i32_w]
                                  rfl
                                refine take_ (i := 2) (N := some 94) (v := ?_) (a' := ?_) #[true, true, true, true, false, false, false, true, false, true, false, false, false, false, false] rfl rfl (take_ofW HT_.out HW_.out (by kernel_rfl)) (fun _ _ _ h => h) (Or.inl ⟨by rfl, ?_⟩) hHeld ?_ ?_
                                rotate_left
                                · rintro w' ⟨s0, s1, s2, s3, s4, s5, s6, s7, s8, s9, s10, s11, s12, s13, s14, s15, s16, s17, s18, s19, s20, s21, s22, s23, s24, s25, s26, s27, s28⟩
                                  go_simp
                                  with_reducible rfl
                                rotate_left
                                · simp only [Act.put, List.setIfInBounds_toArray, List.set_cons_zero, List.set_cons_succ, i64_w, i32_w]
                                  rfl
                                refine pure_ (i := 4) (N := some 96) (v := ?_) (a' := ?_) #[true, true, true, true, true, false, false, true, false, true, false, false, false, false, false] rfl rfl (any_of HT_.out (by kernel_rfl)) (fun _ _ _ h => h) (Or.inl ⟨by rfl, ?_⟩) ?_ ?_
                                rotate_left
                                · intro w'
                                  go_simp
                                  with_reducible rfl
                                rotate_left
                                · simp only [Act.put, List.setIfInBounds_toArray, List.set_cons_zero, List.set_cons_succ, i64_w, i32_w]
                                  rfl
                                refine pure_ (i := 5) (N := some 97) (v := ?_) (a' := ?_) #[true, true, true, true, true, true, false, true, false, true, false, false, false, false, false] rfl rfl (any_of HT_.out (by kernel_rfl)) (fun _ _ _ h => h) (Or.inl ⟨by rfl, ?_⟩) ?_ ?_
                                rotate_left
                                · intro w'
                                  go_simp
                                  with_reducible rfl
                                rotate_left
                                · simp only [Act.put, List.setIfInBounds_toArray, List.set_cons_zero, List.set_cons_succ, i64_w, i32_w]
                                  rfl
                                refine take_ (i := 6) (N := some 98) (v := ?_) (a' := ?_) #[true, true, true, true, true, true, true, true, false, true, false, false, false, false, false] rfl rfl (take_ofW HT_.out HW_.out (by kernel_rfl)) (fun _ _ _ h => h) (Or.inl ⟨by rfl, ?_⟩) hHeld ?_ ?_
                                rotate_left
                                · rintro w' ⟨s0, s1, s2, s3, s4, s5, s6, s7, s8, s9, s10, s11, s12, s13, s14, s15, s16, s17, s18, s19, s20, s21, s22, s23, s24, s25, s26, s27, s28⟩
                                  go_simp
                                  with_reducible rfl
                                rotate_left
                                · simp only [Act.put, List.setIfInBounds_toArray, List.set_cons_zero, List.set_cons_succ, i64_w, i32_w]
                                  rfl
                                refine take_ (i := 8) (N := some 100) (v := ?_) (a' := ?_) #[true, true, true, true, true, true, true, true, true, true, false, false, false, false, false] rfl rfl (take_ofW HT_.out HW_.out (by kernel_rfl)) (fun _ _ _ h => h) (Or.inl ⟨by rfl, ?_⟩) hHeld ?_ ?_
                                rotate_left
                                · rintro w' ⟨s0, s1, s2, s3, s4, s5, s6, s7, s8, s9, s10, s11, s12, s13, s14, s15, s16, s17, s18, s19, s20, s21, s22, s23, s24, s25, s26, s27, s28⟩
                                  go_simp
                                  with_reducible rfl
                                rotate_left
                                · simp only [Act.put, List.setIfInBounds_toArray, List.set_cons_zero, List.set_cons_succ, i64_w, i32_w]
                                  rfl
                                refine pure_ (i := 10) (N := some 102) (v := ?_) (a' := ?_) #[true, true, true, true, true, true, true, true, true, true, true, false, false, false, false] rfl rfl (any_of HT_.out (by kernel_rfl)) (fun _ _ _ h => h) (Or.inl ⟨by rfl, ?_⟩) ?_ ?_
                                rotate_left
                                · intro w'
                                  go_simp
                                  with_reducible rfl
                                rotate_left
                                · simp only [Act.put, List.setIfInBounds_toArray, List.set_cons_zero, List.set_cons_succ, i64_w, i32_w]
                                  rfl
                                refine pure_ (i := 11) (N := some 103) (v := ?_) (a' := ?_) #[true, true, true, true, true, true, true, true, true, true, true, true, false, false, false] rfl rfl (any_of HT_.out (by kernel_rfl)) (fun _ _ _ h => h) (Or.inl ⟨by rfl, ?_⟩) ?_ ?_
                                rotate_left
                                · intro w'
                                  go_simp
                                  with_reducible rfl
                                rotate_left
                                · simp only [Act.put, List.setIfInBounds_toArray, List.set_cons_zero, List.set_cons_succ, i64_w, i32_w]
                                  rfl
                                refine take_ (i := 12) (N := some 104) (v := ?_) (a' := ?_) #[true, true, true, true, true, true, true, true, true, true, true, true, true, false, false] rfl rfl (take_ofW HT_.out HW_.out (by kernel_rfl)) (fun _ _ _ h => h) (Or.inl ⟨by rfl, ?_⟩) hHeld ?_ ?_
                                rotate_left
                                · rintro w' ⟨s0, s1, s2, s3, s4, s5, s6, s7, s8, s9, s10, s11, s12, s13, s14, s15, s16, s17, s18, s19, s20, s21, s22, s23, s24, s25, s26, s27, s28⟩
                                  go_simp
                                  with_reducible rfl
                                rotate_left
                                · simp only [Act.put, List.setIfInBounds_toArray, List.set_cons_zero, List.set_cons_succ, i64_w, i32_w]
                                  rfl
                                refine one_ (i := 13) (N := some 105) #[true, true, true, true, true, true, true, true, true, true, true, true, true, true, false] rfl rfl (one_of HT_.out (by kernel_rfl)) (by decide) (fun K hK => ?_)
                                refine goes_ Try.func16 (by kernel_rfl) rfl #[.agg #[.slice A0_0 l0_0.length c0_0, .slice A0_1 l0_1.length c0_1, .slice (some ad157) l0_2.length c0_2], .int .i64 ((rd_T52 l0_2 x8_4).f0), .int .i64 ((rd_T52 l0_2 x8_4).f1)] (by rfl) rfl rfl (by (try simp only [List.map_toArray, List.map_cons, List.map_nil]); first | done | rfl | (simp only [List.length_drop, List.length_take]; rfl)) ?_
                                with_reducible refine (crossbuckref05_Port.calls k4 _ _ l0_0 _ _ l0_1 _ _ l0_2 ((rd_T52 l0_2 x8_4).f0) ((rd_T52 l0_2 x8_4).f1) t159 _ ?side1 ?side2 ?side3 ?side4 ?side5 ?side6 A41.out).mono ?_
                                (case side1 => repeat (first | exact (Kd.C_below HR0_0.out HB.out) | (with_reducible refine Kd.C_alloc ?_ _) | (with_reducible refine Kd.C_drewN ?_ _) | (with_reducible refine Kd.C_drew ?_)))
                                (case side2 => exact HC0_0.out)
                                (case side3 => repeat (first | exact (Kd.C_below HR0_1.out HB.out) | (with_reducible refine Kd.C_alloc ?_ _) | (with_reducible refine Kd.C_drewN ?_ _) | (with_reducible refine Kd.C_drew ?_)))
                                (case side4 => exact HC0_1.out)
                                (case side5 => repeat (first | exact (Kd.C_below HR0_2.out HB.out) | (with_reducible refine Kd.C_alloc ?_ _) | (with_reducible refine Kd.C_drewN ?_ _) | (with_reducible refine Kd.C_drew ?_)))
                                (case side6 => exact HC0_2.out)
                                rintro e w47 ⟨rfl, hb⟩
                                refine ⟨_, rfl, ?_⟩
                                have n0_ := Aside0.mk (blk_below (g := gb146) (o := .cells #[.slice A0_0 l0_0.length c0_0, .slice A0_1 l0_1.length c0_1, .slice (some ad157) l0_2.length c0_2] 26 (0, 0)) (by (with_reducible repeat (first | refine blk_drewN ?_ _ | refine blk_drew ?_ | refine blk_alloc ?_ _)); exact BK146.out) hb)
                                have n1_ := Aside0.mk (below_step (by repeat (first | (with_reducible first | exact HB.out | apply below_alloc | apply pw_below_drewN | apply below_drew1 | refine below_set ?_ GE146.out) | exact HB.out)) hb)
                                clear BK146
                                clear HB
                                have BK146 := n0_
                                have HB := n1_
                                clear n0_ n1_
                                (try clear hb)
                                (try clear hb2)
                                (try clear hk)
                                (try clear hi)
                                refine hK.out _ _ ⟨(blk_cell BK146.out 0).trans rfl, (blk_cell BK146.out 1).trans rfl, (blk_cell BK146.out 2).trans rfl, ((HB.out.cell (World.block_lt_of_cell? w _ hw157_0)).trans hw157_0), ((HB.out.cell (World.block_lt_of_cell? w _ hw157_1)).trans hw157_1), ((HB.out.cell (World.block_lt_of_cell? w _ hw157_2)).trans hw157_2), ((HB.out.cell (World.block_lt_of_cell? w _ hw157_3)).trans hw157_3), ((HB.out.cell (World.block_lt_of_cell? w _ hw157_4)).trans hw157_4), ((HB.out.cell (World.block_lt_of_cell? w _ hw157_5)).trans hw157_5), ((HB.out.cell (World.block_lt_of_cell? w _ hw157_6)).trans hw157_6), ((HB.out.cell (World.block_lt_of_cell? w _ hw157_7)).trans hw157_7), ((HB.out.cell (World.block_lt_of_cell? w _ hw157_8)).trans hw157_8), ((HB.out.cell (World.block_lt_of_cell? w _ hw157_9)).trans hw157_9), ((HB.out.cell (World.block_lt_of_cell? w _ hw157_10)).trans hw157_10), ((HB.out.cell (World.block_lt_of_cell? w _ hw157_11)).trans hw157_11), ((HB.out.cell (World.block_lt_of_cell? w _ hw157_12)).trans hw157_12), ((HB.out.cell (World.block_lt_of_cell? w _ hw158_0)).trans hw158_0), ((HB.out.cell (World.block_lt_of_cell? w _ hw158_1)).trans hw158_1), ((HB.out.cell (World.block_lt_of_cell? w _ hw158_2)).trans hw158_2), ((HB.out.cell (World.block_lt_of_cell? w _ hw158_3)).trans hw158_3), ((HB.out.cell (World.block_lt_of_cell? w _ hw158_4)).trans hw158_4), ((HB.out.cell (World.block_lt_of_cell? w _ hw158_5)).trans hw158_5), ((HB.out.cell (World.block_lt_of_cell? w _ hw158_6)).trans hw158_6), ((HB.out.cell (World.block_lt_of_cell? w _ hw158_7)).trans hw158_7), ((HB.out.cell (World.block_lt_of_cell? w _ hw158_8)).trans hw158_8), ((HB.out.cell (World.block_lt_of_cell? w _ hw158_9)).trans hw158_9), ((HB.out.cell (World.block_lt_of_cell? w _ hw158_10)).trans hw158_10), ((HB.out.cell (World.block_lt_of_cell? w _ hw158_11)).trans hw158_11), ((HB.out.cell (World.block_lt_of_cell? w _ hw158_12)).trans hw158_12)⟩ (fun hHeld => ?_)
                                clear hK K
                                refine norm_ (a' := ?_) ?_ ?_
                                rotate_left
                                · show Act.put _ (some 105) _ = _
                                  simp only [Act.put, List.setIfInBounds_toArray, List.set_cons_zero, List.set_cons_succ, i64_w, i32_w]
                                  rfl
                                refine pure_ (i := 14) (N := some 9) (v := ?_) (a' := ?_) #[true, true, true, true, true, true, true, true, true, true, true, true, true, true, true] rfl rfl (any_of HT_.out (by kernel_rfl)) (fun _ _ _ h => h) (Or.inl ⟨by rfl, ?_⟩) ?_ ?_
                                rotate_left
                                · intro w'
                                  go_simp
                                  with_reducible rfl
                                rotate_left
                                · simp only [Act.put, List.setIfInBounds_toArray, List.set_cons_zero, List.set_cons_succ, i64_w, i32_w]
                                  rfl
                                refine done_ (done_of HT_.out (by kernel_rfl)) ?_
                                have hcz48_0 : w47.cell? ⟨gb146, 0, none⟩ = some (.slice A0_0 l0_0.length c0_0) := (blk_cell BK146.out 0).trans rfl
                                have hcz48_1 : w47.cell? ⟨gb146, 1, none⟩ = some (.slice A0_1 l0_1.length c0_1) := (blk_cell BK146.out 1).trans rfl
                                have hcz48_2 : w47.cell? ⟨gb146, 2, none⟩ = some (.slice (some ad157) l0_2.length c0_2) := (blk_cell BK146.out 2).trans rfl
                                have hfz48_0 := blk_frozen BK146.out 0
                                have hfz48_1 := blk_frozen BK146.out 1
                                have hfz48_2 := blk_frozen BK146.out 2
                                have p160 : 0 ≤ (x8_4 : Int) := of_decide_eq_true (by first | (with_reducible assumption) | assumption)
                                have q160 : x8_4 < (l0_2.length : Int) := of_decide_eq_true (by first | (with_reducible assumption) | assumption)
                                obtain ⟨ad160, e160, hx160_0, hx160_1, hx160_2, hx160_3, hx160_4, hx160_5, hx160_6, hx160_7, hx160_8, hx160_9, hx160_10, hx160_11, hx160_12⟩ := at_T52 HR0_2.out x8_4 p160 q160
                                obtain rfl : ad157 = ad160 := (by injection e160)
                                replace hx160_0 := (HB.out.cell (World.block_lt_of_cell? w _ hx160_0)).trans hx160_0
                                replace hx160_1 := (HB.out.cell (World.block_lt_of_cell? w _ hx160_1)).trans hx160_1
                                replace hx160_2 := (HB.out.cell (World.block_lt_of_cell? w _ hx160_2)).trans hx160_2
                                replace hx160_3 := (HB.out.cell (World.block_lt_of_cell? w _ hx160_3)).trans hx160_3
                                replace hx160_4 := (HB.out.cell (World.block_lt_of_cell? w _ hx160_4)).trans hx160_4
                                replace hx160_5 := (HB.out.cell (World.block_lt_of_cell? w _ hx160_5)).trans hx160_5
                                replace hx160_6 := (HB.out.cell (World.block_lt_of_cell? w _ hx160_6)).trans hx160_6
                                replace hx160_7 := (HB.out.cell (World.block_lt_of_cell? w _ hx160_7)).trans hx160_7
                                replace hx160_8 := (HB.out.cell (World.block_lt_of_cell? w _ hx160_8)).trans hx160_8
                                replace hx160_9 := (HB.out.cell (World.block_lt_of_cell? w _ hx160_9)).trans hx160_9
                                replace hx160_10 := (HB.out.cell (World.block_lt_of_cell? w _ hx160_10)).trans hx160_10
                                replace hx160_11 := (HB.out.cell (World.block_lt_of_cell? w _ hx160_11)).trans hx160_11
                                replace hx160_12 := (HB.out.cell (World.block_lt_of_cell? w _ hx160_12)).trans hx160_12
                                replace p160 := eq_true p160
                                replace q160 := eq_true q160
                                try go_wp2_with (first | ((with_reducible refine gate_callee (f := 48) rfl ?_); refine goesL_ (some 115) rfl rfl Try.func48 (by kernel_rfl) rfl #[.agg #[.int .u32 ((rd_T52 l0_2 x8_4).f4.f0.f0), .int .i64 ((rd_T52 l0_2 x8_4).f4.f0.f1), .int .u32 ((rd_T52 l0_2 x8_4).f4.f1.f0), .int .i64 ((rd_T52 l0_2 x8_4).f4.f1.f1), .int .i64 ((rd_T52 l0_2 x8_4).f4.f2), .int .u16 ((rd_T52 l0_2 x8_4).f4.f3.f0), .int .u16 ((rd_T52 l0_2 x8_4).f4.f3.f1), .int .u16 ((rd_T52 l0_2 x8_4).f4.f4.f0), .int .u16 ((rd_T52 l0_2 x8_4).f4.f4.f1)]] rfl (by (try simp only [List.map_toArray, List.map_cons, List.map_nil]); first | done | rfl | (simp only [List.length_drop, List.length_take]; rfl)) ?_; (with_reducible refine (crossbuckref04_Check.calls k4 ((rd_T52 l0_2 x8_4).f4.f0.f0) ((rd_T52 l0_2 x8_4).f4.f0.f1) ((rd_T52 l0_2 x8_4).f4.f1.f0) ((rd_T52 l0_2 x8_4).f4.f1.f1) ((rd_T52 l0_2 x8_4).f4.f2) ((rd_T52 l0_2 x8_4).f4.f3.f0) ((rd_T52 l0_2 x8_4).f4.f3.f1) ((rd_T52 l0_2 x8_4).f4.f4.f0) ((rd_T52 l0_2 x8_4).f4.f4.f1) t161 _ A43.out).mono ?_); rintro e w49 ⟨rfl, hb⟩; refine ⟨_, rfl, ?_⟩; have n0_ := Aside0.mk (blk_below (g := gb146) (o := .cells #[.slice A0_0 l0_0.length c0_0, .slice A0_1 l0_1.length c0_1, .slice (some ad157) l0_2.length c0_2] 26 (0, 0)) (by (with_reducible repeat (first | refine blk_drewN ?_ _ | refine blk_drew ?_ | refine blk_alloc ?_ _)); exact BK146.out) hb); have n1_ := Aside0.mk (below_step (by repeat (first | (with_reducible first | exact HB.out | apply below_alloc | apply pw_below_drewN | apply below_drew1 | refine below_set ?_ GE146.out) | exact HB.out)) hb); clear BK146; clear HB; have BK146 := n0_; have HB := n1_; clear n0_ n1_; (try clear hb); (try clear hb2); (try clear hk); (try clear hi)))
                                go_roundg k4
                                case measure => have := HJ1.out; have := HK2.out; have := HK3.out; have := HK4.out; omega
                                case rel => exact ⟨(wrap64 (x8_4 + 1)), (by first | rfl | (simp; done) | (simp [*]; done)), H', ⟨by have := HJ1.out; have := HK2.out; have := HK3.out; have := HK4.out; omega⟩, ⟨by (with_reducible repeat (first | refine blk_drewN ?_ _ | refine blk_drew ?_ | refine blk_alloc ?_ _)); exact BK146.out⟩, ⟨by repeat (first | (with_reducible first | exact HB.out | apply below_alloc | apply pw_below_drewN | apply below_drew1 | refine below_set ?_ GE146.out) | exact HB.out)⟩⟩
                              · rw [if_neg c44] at H
                                have c44b0 : (t161 == 0) = false := beq_eq_false_iff_ne.mpr c44
                                have c44b1 : (t161 != 0) = true := bne_iff_ne.mpr c44
                                obtain rfl := Option.some.inj H
                                have hcz50_0 : wr.cell? ⟨gb146, 0, none⟩ = some (.slice A0_0 l0_0.length c0_0) := (blk_cell BK146.out 0).trans rfl
                                have hcz50_1 : wr.cell? ⟨gb146, 1, none⟩ = some (.slice A0_1 l0_1.length c0_1) := (blk_cell BK146.out 1).trans rfl
                                have hcz50_2 : wr.cell? ⟨gb146, 2, none⟩ = some (.slice A0_2 l0_2.length c0_2) := (blk_cell BK146.out 2).trans rfl
                                have hfz50_0 := blk_frozen BK146.out 0
                                have hfz50_1 := blk_frozen BK146.out 1
                                have hfz50_2 := blk_frozen BK146.out 2
                                try go_wp2
                                have n0_ := Aside0.mk (blk_drew BK146.out)
                                have n1_ := Aside0.mk (below_drew1 HB.out)
                                clear BK146
                                clear HB
                                have BK146 := n0_
                                have HB := n1_
                                clear n0_ n1_
                                have p157 : 0 ≤ (x8_4 : Int) := of_decide_eq_true (by first | (with_reducible assumption) | assumption)
                                have q157 : x8_4 < (l0_2.length : Int) := of_decide_eq_true (by first | (with_reducible assumption) | assumption)
                                obtain ⟨ad157, e157, hx157_0, hx157_1, hx157_2, hx157_3, hx157_4, hx157_5, hx157_6, hx157_7, hx157_8, hx157_9, hx157_10, hx157_11, hx157_12⟩ := at_T52 HR0_2.out x8_4 p157 q157
                                have hw157_12 := hx157_12
                                have hw157_11 := hx157_11
                                have hw157_10 := hx157_10
                                have hw157_9 := hx157_9
                                have hw157_8 := hx157_8
                                have hw157_7 := hx157_7
                                have hw157_6 := hx157_6
                                have hw157_5 := hx157_5
                                have hw157_4 := hx157_4
                                have hw157_3 := hx157_3
                                have hw157_2 := hx157_2
                                have hw157_1 := hx157_1
                                have hw157_0 := hx157_0
                                cases e157
                                replace hx157_0 := (HB.out.cell (World.block_lt_of_cell? w _ hx157_0)).trans hx157_0
                                replace hx157_1 := (HB.out.cell (World.block_lt_of_cell? w _ hx157_1)).trans hx157_1
                                replace hx157_2 := (HB.out.cell (World.block_lt_of_cell? w _ hx157_2)).trans hx157_2
                                replace hx157_3 := (HB.out.cell (World.block_lt_of_cell? w _ hx157_3)).trans hx157_3
                                replace hx157_4 := (HB.out.cell (World.block_lt_of_cell? w _ hx157_4)).trans hx157_4
                                replace hx157_5 := (HB.out.cell (World.block_lt_of_cell? w _ hx157_5)).trans hx157_5
                                replace hx157_6 := (HB.out.cell (World.block_lt_of_cell? w _ hx157_6)).trans hx157_6
                                replace hx157_7 := (HB.out.cell (World.block_lt_of_cell? w _ hx157_7)).trans hx157_7
                                replace hx157_8 := (HB.out.cell (World.block_lt_of_cell? w _ hx157_8)).trans hx157_8
                                replace hx157_9 := (HB.out.cell (World.block_lt_of_cell? w _ hx157_9)).trans hx157_9
                                replace hx157_10 := (HB.out.cell (World.block_lt_of_cell? w _ hx157_10)).trans hx157_10
                                replace hx157_11 := (HB.out.cell (World.block_lt_of_cell? w _ hx157_11)).trans hx157_11
                                replace hx157_12 := (HB.out.cell (World.block_lt_of_cell? w _ hx157_12)).trans hx157_12
                                replace p157 := eq_true p157
                                replace q157 := eq_true q157
                                have p158 : 0 ≤ (x8_4 : Int) := of_decide_eq_true (by first | (with_reducible assumption) | assumption)
                                have q158 : x8_4 < (l0_2.length : Int) := of_decide_eq_true (by first | (with_reducible assumption) | assumption)
                                obtain ⟨ad158, e158, hx158_0, hx158_1, hx158_2, hx158_3, hx158_4, hx158_5, hx158_6, hx158_7, hx158_8, hx158_9, hx158_10, hx158_11, hx158_12⟩ := at_T52 HR0_2.out x8_4 p158 q158
                                have hw158_12 := hx158_12
                                have hw158_11 := hx158_11
                                have hw158_10 := hx158_10
                                have hw158_9 := hx158_9
                                have hw158_8 := hx158_8
                                have hw158_7 := hx158_7
                                have hw158_6 := hx158_6
                                have hw158_5 := hx158_5
                                have hw158_4 := hx158_4
                                have hw158_3 := hx158_3
                                have hw158_2 := hx158_2
                                have hw158_1 := hx158_1
                                have hw158_0 := hx158_0
                                obtain rfl : ad157 = ad158 := (by injection e158)
                                replace hx158_0 := (HB.out.cell (World.block_lt_of_cell? w _ hx158_0)).trans hx158_0
                                replace hx158_1 := (HB.out.cell (World.block_lt_of_cell? w _ hx158_1)).trans hx158_1
                                replace hx158_2 := (HB.out.cell (World.block_lt_of_cell? w _ hx158_2)).trans hx158_2
                                replace hx158_3 := (HB.out.cell (World.block_lt_of_cell? w _ hx158_3)).trans hx158_3
                                replace hx158_4 := (HB.out.cell (World.block_lt_of_cell? w _ hx158_4)).trans hx158_4
                                replace hx158_5 := (HB.out.cell (World.block_lt_of_cell? w _ hx158_5)).trans hx158_5
                                replace hx158_6 := (HB.out.cell (World.block_lt_of_cell? w _ hx158_6)).trans hx158_6
                                replace hx158_7 := (HB.out.cell (World.block_lt_of_cell? w _ hx158_7)).trans hx158_7
                                replace hx158_8 := (HB.out.cell (World.block_lt_of_cell? w _ hx158_8)).trans hx158_8
                                replace hx158_9 := (HB.out.cell (World.block_lt_of_cell? w _ hx158_9)).trans hx158_9
                                replace hx158_10 := (HB.out.cell (World.block_lt_of_cell? w _ hx158_10)).trans hx158_10
                                replace hx158_11 := (HB.out.cell (World.block_lt_of_cell? w _ hx158_11)).trans hx158_11
                                replace hx158_12 := (HB.out.cell (World.block_lt_of_cell? w _ hx158_12)).trans hx158_12
                                replace p158 := eq_true p158
                                replace q158 := eq_true q158
                                refine start_ (n := 15) (S := fun w' => w'.cell? ⟨gb146, 0, none⟩ = some (.slice A0_0 l0_0.length c0_0) ∧ w'.cell? ⟨gb146, 1, none⟩ = some (.slice A0_1 l0_1.length c0_1) ∧ w'.cell? ⟨gb146, 2, none⟩ = some (.slice (some ad157) l0_2.length c0_2) ∧ w'.cell? (ad157.add ((x8_4).toNat * 13)) = some (.int .i64 ((rd_T52 l0_2 x8_4).f0)) ∧ w'.cell? ⟨(ad157.add ((x8_4).toNat * 13)).block, (ad157.add ((x8_4).toNat * 13)).off + 1, none⟩ = some (.int .i64 ((rd_T52 l0_2 x8_4).f1)) ∧ w'.cell? ⟨(ad157.add ((x8_4).toNat * 13)).block, (ad157.add ((x8_4).toNat * 13)).off + 2, none⟩ = some (.bool ((rd_T52 l0_2 x8_4).f2)) ∧ w'.cell? ⟨(ad157.add ((x8_4).toNat * 13)).block, (ad157.add ((x8_4).toNat * 13)).off + 3, none⟩ = some (.bool ((rd_T52 l0_2 x8_4).f3)) ∧ w'.cell? ⟨(ad157.add ((x8_4).toNat * 13)).block, (ad157.add ((x8_4).toNat * 13)).off + 4, none⟩ = some (.int .u32 ((rd_T52 l0_2 x8_4).f4.f0.f0)) ∧ w'.cell? ⟨(ad157.add ((x8_4).toNat * 13)).block, (ad157.add ((x8_4).toNat * 13)).off + 5, none⟩ = some (.int .i64 ((rd_T52 l0_2 x8_4).f4.f0.f1)) ∧ w'.cell? ⟨(ad157.add ((x8_4).toNat * 13)).block, (ad157.add ((x8_4).toNat * 13)).off + 6, none⟩ = some (.int .u32 ((rd_T52 l0_2 x8_4).f4.f1.f0)) ∧ w'.cell? ⟨(ad157.add ((x8_4).toNat * 13)).block, (ad157.add ((x8_4).toNat * 13)).off + 7, none⟩ = some (.int .i64 ((rd_T52 l0_2 x8_4).f4.f1.f1)) ∧ w'.cell? ⟨(ad157.add ((x8_4).toNat * 13)).block, (ad157.add ((x8_4).toNat * 13)).off + 8, none⟩ = some (.int .i64 ((rd_T52 l0_2 x8_4).f4.f2)) ∧ w'.cell? ⟨(ad157.add ((x8_4).toNat * 13)).block, (ad157.add ((x8_4).toNat * 13)).off + 9, none⟩ = some (.int .u16 ((rd_T52 l0_2 x8_4).f4.f3.f0)) ∧ w'.cell? ⟨(ad157.add ((x8_4).toNat * 13)).block, (ad157.add ((x8_4).toNat * 13)).off + 10, none⟩ = some (.int .u16 ((rd_T52 l0_2 x8_4).f4.f3.f1)) ∧ w'.cell? ⟨(ad157.add ((x8_4).toNat * 13)).block, (ad157.add ((x8_4).toNat * 13)).off + 11, none⟩ = some (.int .u16 ((rd_T52 l0_2 x8_4).f4.f4.f0)) ∧ w'.cell? ⟨(ad157.add ((x8_4).toNat * 13)).block, (ad157.add ((x8_4).toNat * 13)).off + 12, none⟩ = some (.int .u16 ((rd_T52 l0_2 x8_4).f4.f4.f1)) ∧ w'.cell? (ad157.add ((x8_4).toNat * 13)) = some (.int .i64 ((rd_T52 l0_2 x8_4).f0)) ∧ w'.cell? ⟨(ad157.add ((x8_4).toNat * 13)).block, (ad157.add ((x8_4).toNat * 13)).off + 1, none⟩ = some (.int .i64 ((rd_T52 l0_2 x8_4).f1)) ∧ w'.cell? ⟨(ad157.add ((x8_4).toNat * 13)).block, (ad157.add ((x8_4).toNat * 13)).off + 2, none⟩ = some (.bool ((rd_T52 l0_2 x8_4).f2)) ∧ w'.cell? ⟨(ad157.add ((x8_4).toNat * 13)).block, (ad157.add ((x8_4).toNat * 13)).off + 3, none⟩ = some (.bool ((rd_T52 l0_2 x8_4).f3)) ∧ w'.cell? ⟨(ad157.add ((x8_4).toNat * 13)).block, (ad157.add ((x8_4).toNat * 13)).off + 4, none⟩ = some (.int .u32 ((rd_T52 l0_2 x8_4).f4.f0.f0)) ∧ w'.cell? ⟨(ad157.add ((x8_4).toNat * 13)).block, (ad157.add ((x8_4).toNat * 13)).off + 5, none⟩ = some (.int .i64 ((rd_T52 l0_2 x8_4).f4.f0.f1)) ∧ w'.cell? ⟨(ad157.add ((x8_4).toNat * 13)).block, (ad157.add ((x8_4).toNat * 13)).off + 6, none⟩ = some (.int .u32 ((rd_T52 l0_2 x8_4).f4.f1.f0)) ∧ w'.cell? ⟨(ad157.add ((x8_4).toNat * 13)).block, (ad157.add ((x8_4).toNat * 13)).off + 7, none⟩ = some (.int .i64 ((rd_T52 l0_2 x8_4).f4.f1.f1)) ∧ w'.cell? ⟨(ad157.add ((x8_4).toNat * 13)).block, (ad157.add ((x8_4).toNat * 13)).off + 8, none⟩ = some (.int .i64 ((rd_T52 l0_2 x8_4).f4.f2)) ∧ w'.cell? ⟨(ad157.add ((x8_4).toNat * 13)).block, (ad157.add ((x8_4).toNat * 13)).off + 9, none⟩ = some (.int .u16 ((rd_T52 l0_2 x8_4).f4.f3.f0)) ∧ w'.cell? ⟨(ad157.add ((x8_4).toNat * 13)).block, (ad157.add ((x8_4).toNat * 13)).off + 10, none⟩ = some (.int .u16 ((rd_T52 l0_2 x8_4).f4.f3.f1)) ∧ w'.cell? ⟨(ad157.add ((x8_4).toNat * 13)).block, (ad157.add ((x8_4).toNat * 13)).off + 11, none⟩ = some (.int .u16 ((rd_T52 l0_2 x8_4).f4.f4.f0)) ∧ w'.cell? ⟨(ad157.add ((x8_4).toNat * 13)).block, (ad157.add ((x8_4).toNat * 13)).off + 12, none⟩ = some (.int .u16 ((rd_T52 l0_2 x8_4).f4.f4.f1))) (ds := []) #[false, false, false, false, false, false, false, false, false, false, false, false, false, false, false] (by kernel_rfl) rfl rfl ⟨(blk_cell BK146.out 0).trans rfl, (blk_cell BK146.out 1).trans rfl, (blk_cell BK146.out 2).trans rfl, ((HB.out.cell (World.block_lt_of_cell? w _ hw157_0)).trans hw157_0), ((HB.out.cell (World.block_lt_of_cell? w _ hw157_1)).trans hw157_1), ((HB.out.cell (World.block_lt_of_cell? w _ hw157_2)).trans hw157_2), ((HB.out.cell (World.block_lt_of_cell? w _ hw157_3)).trans hw157_3), ((HB.out.cell (World.block_lt_of_cell? w _ hw157_4)).trans hw157_4), ((HB.out.cell (World.block_lt_of_cell? w _ hw157_5)).trans hw157_5), ((HB.out.cell (World.block_lt_of_cell? w _ hw157_6)).trans hw157_6), ((HB.out.cell (World.block_lt_of_cell? w _ hw157_7)).trans hw157_7), ((HB.out.cell (World.block_lt_of_cell? w _ hw157_8)).trans hw157_8), ((HB.out.cell (World.block_lt_of_cell? w _ hw157_9)).trans hw157_9), ((HB.out.cell (World.block_lt_of_cell? w _ hw157_10)).trans hw157_10), ((HB.out.cell (World.block_lt_of_cell? w _ hw157_11)).trans hw157_11), ((HB.out.cell (World.block_lt_of_cell? w _ hw157_12)).trans hw157_12), ((HB.out.cell (World.block_lt_of_cell? w _ hw158_0)).trans hw158_0), ((HB.out.cell (World.block_lt_of_cell? w _ hw158_1)).trans hw158_1), ((HB.out.cell (World.block_lt_of_cell? w _ hw158_2)).trans hw158_2), ((HB.out.cell (World.block_lt_of_cell? w _ hw158_3)).trans hw158_3), ((HB.out.cell (World.block_lt_of_cell? w _ hw158_4)).trans hw158_4), ((HB.out.cell (World.block_lt_of_cell? w _ hw158_5)).trans hw158_5), ((HB.out.cell (World.block_lt_of_cell? w _ hw158_6)).trans hw158_6), ((HB.out.cell (World.block_lt_of_cell? w _ hw158_7)).trans hw158_7), ((HB.out.cell (World.block_lt_of_cell? w _ hw158_8)).trans hw158_8), ((HB.out.cell (World.block_lt_of_cell? w _ hw158_9)).trans hw158_9), ((HB.out.cell (World.block_lt_of_cell? w _ hw158_10)).trans hw158_10), ((HB.out.cell (World.block_lt_of_cell? w _ hw158_11)).trans hw158_11), ((HB.out.cell (World.block_lt_of_cell? w _ hw158_12)).trans hw158_12)⟩ (fun hHeld => ?_); refine with_tabW crossbuckref05_Check.tab23 crossbuckref05_Check.bits23 (fun HT_ HW_ => ?_)
                                generalize wr.drew = w51 at BK146 HB hx157_0 hx157_1 hx157_10 hx157_11 hx157_12 hx157_2 hx157_3 hx157_4 hx157_5 hx157_6 hx157_7 hx157_8 hx157_9 hx158_0 hx158_1 hx158_10 hx158_11 hx158_12 hx158_2 hx158_3 hx158_4 hx158_5 hx158_6 hx158_7 hx158_8 hx158_9 hHeld ⊢
                                refine pure_ (i := 1) (N := some 93) (v := ?_) (a' := ?_) #[false, true, false, false, false, false, false, false, false, false, false, false, false, false, false] rfl rfl (any_of HT_.out (by kernel_rfl)) (fun _ _ _ h => h) (Or.inl ⟨by rfl, ?_⟩) ?_ ?_
                                rotate_left
                                · intro w'
                                  go_simp
                                  with_reducible rfl
                                rotate_left
                                · simp only [Act.put, List.setIfInBounds_toArray, List.set_cons_zero, List.set_cons_succ, i64_w, i32_w]
                                  rfl
                                refine pure_ (i := 3) (N := some 95) (v := ?_) (a' := ?_) #[false, true, false, true, false, false, false, false, false, false, false, false, false, false, false] rfl rfl (any_of HT_.out (by kernel_rfl)) (fun _ _ _ h => h) (Or.inl ⟨by rfl, ?_⟩) ?_ ?_
                                rotate_left
                                · intro w'
                                  go_simp
                                  with_reducible rfl
                                rotate_left
                                · simp only [Act.put, List.setIfInBounds_toArray, List.set_cons_zero, List.set_cons_succ, i64_w, i32_w]
                                  rfl
                                refine pure_ (i := 7) (N := some 99) (v := ?_) (a' := ?_) #[false, true, false, true, false, false, false, true, false, false, false, false, false, false, false] rfl rfl (any_of HT_.out (by kernel_rfl)) (fun _ _ _ h => h) (Or.inl ⟨by rfl, ?_⟩) ?_ ?_
                                rotate_left
                                · intro w'
                                  go_simp
                                  with_reducible rfl
                                rotate_left
                                · simp only [Act.put, List.setIfInBounds_toArray, List.set_cons_zero, List.set_cons_succ, i64_w, i32_w]
                                  rfl
                                refine pure_ (i := 9) (N := some 101) (v := ?_) (a' := ?_) #[false, true, false, true, false, false, false, true, false, true, false, false, false, false, false] rfl rfl (any_of HT_.out (by kernel_rfl)) (fun _ _ _ h => h) (Or.inl ⟨by rfl, ?_⟩) ?_ ?_
                                rotate_left
                                · intro w'
                                  go_simp
                                  with_reducible rfl
                                rotate_left
                                · simp only [Act.put, List.setIfInBounds_toArray, List.set_cons_zero, List.set_cons_succ, i64_w, i32_w]
                                  rfl
                                refine take_ (i := 0) (N := some 92) (v := ?_) (a' := ?_) #[true, true, false, true, false, false, false, true, false, true, false, false, false, false, false] rfl rfl (take_ofW HT_.out HW_.out (by kernel_rfl)) (fun _ _ _ h => h) (Or.inl ⟨by rfl, ?_⟩) hHeld ?_ ?_
                                rotate_left
                                · rintro w' ⟨s0, s1, s2, s3, s4, s5, s6, s7, s8, s9, s10, s11, s12, s13, s14, s15, s16, s17, s18, s19, s20, s21, s22, s23, s24, s25, s26, s27, s28⟩
                                  go_simp
                                  with_reducible rfl
                                rotate_left
                                · simp only [Act.put, List.setIfInBounds_toArray, List.set_cons_zero, List.set_cons_succ, i64_w, i32_w]
                                  rfl
                                refine take_ (i := 2) (N := some 94) (v := ?_) (a' := ?_) #[true, true, true, true, false, false, false, true, false, true, false, false, false, false, false] rfl rfl (take_ofW HT_.out HW_.out (by kernel_rfl)) (fun _ _ _ h => h) (Or.inl ⟨by rfl, ?_⟩) hHeld ?_ ?_
                                rotate_left
                                · rintro w' ⟨s0, s1, s2, s3, s4, s5, s6, s7, s8, s9, s10, s11, s12, s13, s14, s15, s16, s17, s18, s19, s20, s21, s22, s23, s24, s25, s26, s27, s28⟩
                                  go_simp
                                  with_reducible rfl
                                rotate_left
                                · simp only [Act.put, List.setIfInBounds_toArray, List.set_cons_zero, List.set_cons_succ, i64_w, i32_w]
                                  rfl
                                refine pure_ (i := 4) (N := some 96) (v := ?_) (a' := ?_) #[true, true, true, true, true, false, false, true, false, true, false, false, false, false, false] rfl rfl (any_of HT_.out (by kernel_rfl)) (fun _ _ _ h => h) (Or.inl ⟨by rfl, ?_⟩) ?_ ?_
                                rotate_left
                                · intro w'
                                  go_simp
                                  with_reducible rfl
                                rotate_left
                                · simp only [Act.put, List.setIfInBounds_toArray, List.set_cons_zero, List.set_cons_succ, i64_w, i32_w]
                                  rfl
                                refine pure_ (i := 5) (N := some 97) (v := ?_) (a' := ?_) #[true, true, true, true, true, true, false, true, false, true, false, false, false, false, false] rfl rfl (any_of HT_.out (by kernel_rfl)) (fun _ _ _ h => h) (Or.inl ⟨by rfl, ?_⟩) ?_ ?_
                                rotate_left
                                · intro w'
                                  go_simp
                                  with_reducible rfl
                                rotate_left
                                · simp only [Act.put, List.setIfInBounds_toArray, List.set_cons_zero, List.set_cons_succ, i64_w, i32_w]
                                  rfl
                                refine take_ (i := 6) (N := some 98) (v := ?_) (a' := ?_) #[true, true, true, true, true, true, true, true, false, true, false, false, false, false, false] rfl rfl (take_ofW HT_.out HW_.out (by kernel_rfl)) (fun _ _ _ h => h) (Or.inl ⟨by rfl, ?_⟩) hHeld ?_ ?_
                                rotate_left
                                · rintro w' ⟨s0, s1, s2, s3, s4, s5, s6, s7, s8, s9, s10, s11, s12, s13, s14, s15, s16, s17, s18, s19, s20, s21, s22, s23, s24, s25, s26, s27, s28⟩
                                  go_simp
                                  with_reducible rfl
                                rotate_left
                                · simp only [Act.put, List.setIfInBounds_toArray, List.set_cons_zero, List.set_cons_succ, i64_w, i32_w]
                                  rfl
                                refine take_ (i := 8) (N := some 100) (v := ?_) (a' := ?_) #[true, true, true, true, true, true, true, true, true, true, false, false, false, false, false] rfl rfl (take_ofW HT_.out HW_.out (by kernel_rfl)) (fun _ _ _ h => h) (Or.inl ⟨by rfl, ?_⟩) hHeld ?_ ?_
                                rotate_left
                                · rintro w' ⟨s0, s1, s2, s3, s4, s5, s6, s7, s8, s9, s10, s11, s12, s13, s14, s15, s16, s17, s18, s19, s20, s21, s22, s23, s24, s25, s26, s27, s28⟩
                                  go_simp
                                  with_reducible rfl
                                rotate_left
                                · simp only [Act.put, List.setIfInBounds_toArray, List.set_cons_zero, List.set_cons_succ, i64_w, i32_w]
                                  rfl
                                refine pure_ (i := 10) (N := some 102) (v := ?_) (a' := ?_) #[true, true, true, true, true, true, true, true, true, true, true, false, false, false, false] rfl rfl (any_of HT_.out (by kernel_rfl)) (fun _ _ _ h => h) (Or.inl ⟨by rfl, ?_⟩) ?_ ?_
                                rotate_left
                                · intro w'
                                  go_simp
                                  with_reducible rfl
                                rotate_left
                                · simp only [Act.put, List.setIfInBounds_toArray, List.set_cons_zero, List.set_cons_succ, i64_w, i32_w]
                                  rfl
                                refine pure_ (i := 11) (N := some 103) (v := ?_) (a' := ?_) #[true, true, true, true, true, true, true, true, true, true, true, true, false, false, false] rfl rfl (any_of HT_.out (by kernel_rfl)) (fun _ _ _ h => h) (Or.inl ⟨by rfl, ?_⟩) ?_ ?_
                                rotate_left
                                · intro w'
                                  go_simp
                                  with_reducible rfl
                                rotate_left
                                · simp only [Act.put, List.setIfInBounds_toArray, List.set_cons_zero, List.set_cons_succ, i64_w, i32_w]
                                  rfl
                                refine take_ (i := 12) (N := some 104) (v := ?_) (a' := ?_) #[true, true, true, true, true, true, true, true, true, true, true, true, true, false, false] rfl rfl (take_ofW HT_.out HW_.out (by kernel_rfl)) (fun _ _ _ h => h) (Or.inl ⟨by rfl, ?_⟩) hHeld ?_ ?_
                                rotate_left
                                · rintro w' ⟨s0, s1, s2, s3, s4, s5, s6, s7, s8, s9, s10, s11, s12, s13, s14, s15, s16, s17, s18, s19, s20, s21, s22, s23, s24, s25, s26, s27, s28⟩
                                  go_simp
                                  with_reducible rfl
                                rotate_left
                                · simp only [Act.put, List.setIfInBounds_toArray, List.set_cons_zero, List.set_cons_succ, i64_w, i32_w]
                                  rfl
                                refine one_ (i := 13) (N := some 105) #[true, true, true, true, true, true, true, true, true, true, true, true, true, true, false] rfl rfl (one_of HT_.out (by kernel_rfl)) (by decide) (fun K hK => ?_)
                                refine goes_ Try.func16 (by kernel_rfl) rfl #[.agg #[.slice A0_0 l0_0.length c0_0, .slice A0_1 l0_1.length c0_1, .slice (some ad157) l0_2.length c0_2], .int .i64 ((rd_T52 l0_2 x8_4).f0), .int .i64 ((rd_T52 l0_2 x8_4).f1)] (by rfl) rfl rfl (by (try simp only [List.map_toArray, List.map_cons, List.map_nil]); first | done | rfl | (simp only [List.length_drop, List.length_take]; rfl)) ?_
                                with_reducible refine (crossbuckref05_Port.calls k4 _ _ l0_0 _ _ l0_1 _ _ l0_2 ((rd_T52 l0_2 x8_4).f0) ((rd_T52 l0_2 x8_4).f1) t159 _ ?side1 ?side2 ?side3 ?side4 ?side5 ?side6 A41.out).mono ?_
                                (case side1 => repeat (first | exact (Kd.C_below HR0_0.out HB.out) | (with_reducible refine Kd.C_alloc ?_ _) | (with_reducible refine Kd.C_drewN ?_ _) | (with_reducible refine Kd.C_drew ?_)))
                                (case side2 => exact HC0_0.out)
                                (case side3 => repeat (first | exact (Kd.C_below HR0_1.out HB.out) | (with_reducible refine Kd.C_alloc ?_ _) | (with_reducible refine Kd.C_drewN ?_ _) | (with_reducible refine Kd.C_drew ?_)))
                                (case side4 => exact HC0_1.out)
                                (case side5 => repeat (first | exact (Kd.C_below HR0_2.out HB.out) | (with_reducible refine Kd.C_alloc ?_ _) | (with_reducible refine Kd.C_drewN ?_ _) | (with_reducible refine Kd.C_drew ?_)))
                                (case side6 => exact HC0_2.out)
                                rintro e w52 ⟨rfl, hb⟩
                                refine ⟨_, rfl, ?_⟩
                                have n0_ := Aside0.mk (blk_below (g := gb146) (o := .cells #[.slice A0_0 l0_0.length c0_0, .slice A0_1 l0_1.length c0_1, .slice (some ad157) l0_2.length c0_2] 26 (0, 0)) (by (with_reducible repeat (first | refine blk_drewN ?_ _ | refine blk_drew ?_ | refine blk_alloc ?_ _)); exact BK146.out) hb)
                                have n1_ := Aside0.mk (below_step (by repeat (first | (with_reducible first | exact HB.out | apply below_alloc | apply pw_below_drewN | apply below_drew1 | refine below_set ?_ GE146.out) | exact HB.out)) hb)
                                clear BK146
                                clear HB
                                have BK146 := n0_
                                have HB := n1_
                                clear n0_ n1_
                                (try clear hb)
                                (try clear hb2)
                                (try clear hk)
                                (try clear hi)
                                refine hK.out _ _ ⟨(blk_cell BK146.out 0).trans rfl, (blk_cell BK146.out 1).trans rfl, (blk_cell BK146.out 2).trans rfl, ((HB.out.cell (World.block_lt_of_cell? w _ hw157_0)).trans hw157_0), ((HB.out.cell (World.block_lt_of_cell? w _ hw157_1)).trans hw157_1), ((HB.out.cell (World.block_lt_of_cell? w _ hw157_2)).trans hw157_2), ((HB.out.cell (World.block_lt_of_cell? w _ hw157_3)).trans hw157_3), ((HB.out.cell (World.block_lt_of_cell? w _ hw157_4)).trans hw157_4), ((HB.out.cell (World.block_lt_of_cell? w _ hw157_5)).trans hw157_5), ((HB.out.cell (World.block_lt_of_cell? w _ hw157_6)).trans hw157_6), ((HB.out.cell (World.block_lt_of_cell? w _ hw157_7)).trans hw157_7), ((HB.out.cell (World.block_lt_of_cell? w _ hw157_8)).trans hw157_8), ((HB.out.cell (World.block_lt_of_cell? w _ hw157_9)).trans hw157_9), ((HB.out.cell (World.block_lt_of_cell? w _ hw157_10)).trans hw157_10), ((HB.out.cell (World.block_lt_of_cell? w _ hw157_11)).trans hw157_11), ((HB.out.cell (World.block_lt_of_cell? w _ hw157_12)).trans hw157_12), ((HB.out.cell (World.block_lt_of_cell? w _ hw158_0)).trans hw158_0), ((HB.out.cell (World.block_lt_of_cell? w _ hw158_1)).trans hw158_1), ((HB.out.cell (World.block_lt_of_cell? w _ hw158_2)).trans hw158_2), ((HB.out.cell (World.block_lt_of_cell? w _ hw158_3)).trans hw158_3), ((HB.out.cell (World.block_lt_of_cell? w _ hw158_4)).trans hw158_4), ((HB.out.cell (World.block_lt_of_cell? w _ hw158_5)).trans hw158_5), ((HB.out.cell (World.block_lt_of_cell? w _ hw158_6)).trans hw158_6), ((HB.out.cell (World.block_lt_of_cell? w _ hw158_7)).trans hw158_7), ((HB.out.cell (World.block_lt_of_cell? w _ hw158_8)).trans hw158_8), ((HB.out.cell (World.block_lt_of_cell? w _ hw158_9)).trans hw158_9), ((HB.out.cell (World.block_lt_of_cell? w _ hw158_10)).trans hw158_10), ((HB.out.cell (World.block_lt_of_cell? w _ hw158_11)).trans hw158_11), ((HB.out.cell (World.block_lt_of_cell? w _ hw158_12)).trans hw158_12)⟩ (fun hHeld => ?_)
                                clear hK K
                                refine norm_ (a' := ?_) ?_ ?_
                                rotate_left
                                · show Act.put _ (some 105) _ = _
                                  simp only [Act.put, List.setIfInBounds_toArray, List.set_cons_zero, List.set_cons_succ, i64_w, i32_w]
                                  rfl
                                refine pure_ (i := 14) (N := some 9) (v := ?_) (a' := ?_) #[true, true, true, true, true, true, true, true, true, true, true, true, true, true, true] rfl rfl (any_of HT_.out (by kernel_rfl)) (fun _ _ _ h => h) (Or.inl ⟨by rfl, ?_⟩) ?_ ?_
                                rotate_left
                                · intro w'
                                  go_simp
                                  with_reducible rfl
                                rotate_left
                                · simp only [Act.put, List.setIfInBounds_toArray, List.set_cons_zero, List.set_cons_succ, i64_w, i32_w]
                                  rfl
                                refine done_ (done_of HT_.out (by kernel_rfl)) ?_
                                have hcz53_0 : w52.cell? ⟨gb146, 0, none⟩ = some (.slice A0_0 l0_0.length c0_0) := (blk_cell BK146.out 0).trans rfl
                                have hcz53_1 : w52.cell? ⟨gb146, 1, none⟩ = some (.slice A0_1 l0_1.length c0_1) := (blk_cell BK146.out 1).trans rfl
                                have hcz53_2 : w52.cell? ⟨gb146, 2, none⟩ = some (.slice (some ad157) l0_2.length c0_2) := (blk_cell BK146.out 2).trans rfl
                                have hfz53_0 := blk_frozen BK146.out 0
                                have hfz53_1 := blk_frozen BK146.out 1
                                have hfz53_2 := blk_frozen BK146.out 2
                                have p160 : 0 ≤ (x8_4 : Int) := of_decide_eq_true (by first | (with_reducible assumption) | assumption)
                                have q160 : x8_4 < (l0_2.length : Int) := of_decide_eq_true (by first | (with_reducible assumption) | assumption)
                                obtain ⟨ad160, e160, hx160_0, hx160_1, hx160_2, hx160_3, hx160_4, hx160_5, hx160_6, hx160_7, hx160_8, hx160_9, hx160_10, hx160_11, hx160_12⟩ := at_T52 HR0_2.out x8_4 p160 q160
                                obtain rfl : ad157 = ad160 := (by injection e160)
                                replace hx160_0 := (HB.out.cell (World.block_lt_of_cell? w _ hx160_0)).trans hx160_0
                                replace hx160_1 := (HB.out.cell (World.block_lt_of_cell? w _ hx160_1)).trans hx160_1
                                replace hx160_2 := (HB.out.cell (World.block_lt_of_cell? w _ hx160_2)).trans hx160_2
                                replace hx160_3 := (HB.out.cell (World.block_lt_of_cell? w _ hx160_3)).trans hx160_3
                                replace hx160_4 := (HB.out.cell (World.block_lt_of_cell? w _ hx160_4)).trans hx160_4
                                replace hx160_5 := (HB.out.cell (World.block_lt_of_cell? w _ hx160_5)).trans hx160_5
                                replace hx160_6 := (HB.out.cell (World.block_lt_of_cell? w _ hx160_6)).trans hx160_6
                                replace hx160_7 := (HB.out.cell (World.block_lt_of_cell? w _ hx160_7)).trans hx160_7
                                replace hx160_8 := (HB.out.cell (World.block_lt_of_cell? w _ hx160_8)).trans hx160_8
                                replace hx160_9 := (HB.out.cell (World.block_lt_of_cell? w _ hx160_9)).trans hx160_9
                                replace hx160_10 := (HB.out.cell (World.block_lt_of_cell? w _ hx160_10)).trans hx160_10
                                replace hx160_11 := (HB.out.cell (World.block_lt_of_cell? w _ hx160_11)).trans hx160_11
                                replace hx160_12 := (HB.out.cell (World.block_lt_of_cell? w _ hx160_12)).trans hx160_12
                                replace p160 := eq_true p160
                                replace q160 := eq_true q160
                                try go_wp2_with (first | ((with_reducible refine gate_callee (f := 48) rfl ?_); refine goesL_ (some 115) rfl rfl Try.func48 (by kernel_rfl) rfl #[.agg #[.int .u32 ((rd_T52 l0_2 x8_4).f4.f0.f0), .int .i64 ((rd_T52 l0_2 x8_4).f4.f0.f1), .int .u32 ((rd_T52 l0_2 x8_4).f4.f1.f0), .int .i64 ((rd_T52 l0_2 x8_4).f4.f1.f1), .int .i64 ((rd_T52 l0_2 x8_4).f4.f2), .int .u16 ((rd_T52 l0_2 x8_4).f4.f3.f0), .int .u16 ((rd_T52 l0_2 x8_4).f4.f3.f1), .int .u16 ((rd_T52 l0_2 x8_4).f4.f4.f0), .int .u16 ((rd_T52 l0_2 x8_4).f4.f4.f1)]] rfl (by (try simp only [List.map_toArray, List.map_cons, List.map_nil]); first | done | rfl | (simp only [List.length_drop, List.length_take]; rfl)) ?_; (with_reducible refine (crossbuckref04_Check.calls k4 ((rd_T52 l0_2 x8_4).f4.f0.f0) ((rd_T52 l0_2 x8_4).f4.f0.f1) ((rd_T52 l0_2 x8_4).f4.f1.f0) ((rd_T52 l0_2 x8_4).f4.f1.f1) ((rd_T52 l0_2 x8_4).f4.f2) ((rd_T52 l0_2 x8_4).f4.f3.f0) ((rd_T52 l0_2 x8_4).f4.f3.f1) ((rd_T52 l0_2 x8_4).f4.f4.f0) ((rd_T52 l0_2 x8_4).f4.f4.f1) t161 _ A43.out).mono ?_); rintro e w54 ⟨rfl, hb⟩; refine ⟨_, rfl, ?_⟩; have n0_ := Aside0.mk (blk_below (g := gb146) (o := .cells #[.slice A0_0 l0_0.length c0_0, .slice A0_1 l0_1.length c0_1, .slice (some ad157) l0_2.length c0_2] 26 (0, 0)) (by (with_reducible repeat (first | refine blk_drewN ?_ _ | refine blk_drew ?_ | refine blk_alloc ?_ _)); exact BK146.out) hb); have n1_ := Aside0.mk (below_step (by repeat (first | (with_reducible first | exact HB.out | apply below_alloc | apply pw_below_drewN | apply below_drew1 | refine below_set ?_ GE146.out) | exact HB.out)) hb); clear BK146; clear HB; have BK146 := n0_; have HB := n1_; clear n0_ n1_; (try clear hb); (try clear hb2); (try clear hk); (try clear hi)))
                                go_ret
                                exact ⟨by first | rfl | (simp [errW_none, errW_some] <;> rfl) | (simp [*, errW_none, errW_some] <;> rfl), by repeat (first | (with_reducible first | exact HB.out | apply below_alloc | apply pw_below_drewN | apply below_drew1 | refine below_set ?_ GE146.out) | exact HB.out)⟩
                            · rw [if_neg c42] at H
                              have c42b0 : (t159 == 0) = false := beq_eq_false_iff_ne.mpr c42
                              have c42b1 : (t159 != 0) = true := bne_iff_ne.mpr c42
                              obtain rfl := Option.some.inj H
                              have hcz55_0 : wr.cell? ⟨gb146, 0, none⟩ = some (.slice A0_0 l0_0.length c0_0) := (blk_cell BK146.out 0).trans rfl
                              have hcz55_1 : wr.cell? ⟨gb146, 1, none⟩ = some (.slice A0_1 l0_1.length c0_1) := (blk_cell BK146.out 1).trans rfl
                              have hcz55_2 : wr.cell? ⟨gb146, 2, none⟩ = some (.slice A0_2 l0_2.length c0_2) := (blk_cell BK146.out 2).trans rfl
                              have hfz55_0 := blk_frozen BK146.out 0
                              have hfz55_1 := blk_frozen BK146.out 1
                              have hfz55_2 := blk_frozen BK146.out 2
                              try go_wp2
                              have n0_ := Aside0.mk (blk_drew BK146.out)
                              have n1_ := Aside0.mk (below_drew1 HB.out)
                              clear BK146
                              clear HB
                              have BK146 := n0_
                              have HB := n1_
                              clear n0_ n1_
                              have p157 : 0 ≤ (x8_4 : Int) := of_decide_eq_true (by first | (with_reducible assumption) | assumption)
                              have q157 : x8_4 < (l0_2.length : Int) := of_decide_eq_true (by first | (with_reducible assumption) | assumption)
                              obtain ⟨ad157, e157, hx157_0, hx157_1, hx157_2, hx157_3, hx157_4, hx157_5, hx157_6, hx157_7, hx157_8, hx157_9, hx157_10, hx157_11, hx157_12⟩ := at_T52 HR0_2.out x8_4 p157 q157
                              have hw157_12 := hx157_12
                              have hw157_11 := hx157_11
                              have hw157_10 := hx157_10
                              have hw157_9 := hx157_9
                              have hw157_8 := hx157_8
                              have hw157_7 := hx157_7
                              have hw157_6 := hx157_6
                              have hw157_5 := hx157_5
                              have hw157_4 := hx157_4
                              have hw157_3 := hx157_3
                              have hw157_2 := hx157_2
                              have hw157_1 := hx157_1
                              have hw157_0 := hx157_0
                              cases e157
                              replace hx157_0 := (HB.out.cell (World.block_lt_of_cell? w _ hx157_0)).trans hx157_0
                              replace hx157_1 := (HB.out.cell (World.block_lt_of_cell? w _ hx157_1)).trans hx157_1
                              replace hx157_2 := (HB.out.cell (World.block_lt_of_cell? w _ hx157_2)).trans hx157_2
                              replace hx157_3 := (HB.out.cell (World.block_lt_of_cell? w _ hx157_3)).trans hx157_3
                              replace hx157_4 := (HB.out.cell (World.block_lt_of_cell? w _ hx157_4)).trans hx157_4
                              replace hx157_5 := (HB.out.cell (World.block_lt_of_cell? w _ hx157_5)).trans hx157_5
                              replace hx157_6 := (HB.out.cell (World.block_lt_of_cell? w _ hx157_6)).trans hx157_6
                              replace hx157_7 := (HB.out.cell (World.block_lt_of_cell? w _ hx157_7)).trans hx157_7
                              replace hx157_8 := (HB.out.cell (World.block_lt_of_cell? w _ hx157_8)).trans hx157_8
                              replace hx157_9 := (HB.out.cell (World.block_lt_of_cell? w _ hx157_9)).trans hx157_9
                              replace hx157_10 := (HB.out.cell (World.block_lt_of_cell? w _ hx157_10)).trans hx157_10
                              replace hx157_11 := (HB.out.cell (World.block_lt_of_cell? w _ hx157_11)).trans hx157_11
                              replace hx157_12 := (HB.out.cell (World.block_lt_of_cell? w _ hx157_12)).trans hx157_12
                              replace p157 := eq_true p157
                              replace q157 := eq_true q157
                              have p158 : 0 ≤ (x8_4 : Int) := of_decide_eq_true (by first | (with_reducible assumption) | assumption)
                              have q158 : x8_4 < (l0_2.length : Int) := of_decide_eq_true (by first | (with_reducible assumption) | assumption)
                              obtain ⟨ad158, e158, hx158_0, hx158_1, hx158_2, hx158_3, hx158_4, hx158_5, hx158_6, hx158_7, hx158_8, hx158_9, hx158_10, hx158_11, hx158_12⟩ := at_T52 HR0_2.out x8_4 p158 q158
                              have hw158_12 := hx158_12
                              have hw158_11 := hx158_11
                              have hw158_10 := hx158_10
                              have hw158_9 := hx158_9
                              have hw158_8 := hx158_8
                              have hw158_7 := hx158_7
                              have hw158_6 := hx158_6
                              have hw158_5 := hx158_5
                              have hw158_4 := hx158_4
                              have hw158_3 := hx158_3
                              have hw158_2 := hx158_2
                              have hw158_1 := hx158_1
                              have hw158_0 := hx158_0
                              obtain rfl : ad157 = ad158 := (by injection e158)
                              replace hx158_0 := (HB.out.cell (World.block_lt_of_cell? w _ hx158_0)).trans hx158_0
                              replace hx158_1 := (HB.out.cell (World.block_lt_of_cell? w _ hx158_1)).trans hx158_1
                              replace hx158_2 := (HB.out.cell (World.block_lt_of_cell? w _ hx158_2)).trans hx158_2
                              replace hx158_3 := (HB.out.cell (World.block_lt_of_cell? w _ hx158_3)).trans hx158_3
                              replace hx158_4 := (HB.out.cell (World.block_lt_of_cell? w _ hx158_4)).trans hx158_4
                              replace hx158_5 := (HB.out.cell (World.block_lt_of_cell? w _ hx158_5)).trans hx158_5
                              replace hx158_6 := (HB.out.cell (World.block_lt_of_cell? w _ hx158_6)).trans hx158_6
                              replace hx158_7 := (HB.out.cell (World.block_lt_of_cell? w _ hx158_7)).trans hx158_7
                              replace hx158_8 := (HB.out.cell (World.block_lt_of_cell? w _ hx158_8)).trans hx158_8
                              replace hx158_9 := (HB.out.cell (World.block_lt_of_cell? w _ hx158_9)).trans hx158_9
                              replace hx158_10 := (HB.out.cell (World.block_lt_of_cell? w _ hx158_10)).trans hx158_10
                              replace hx158_11 := (HB.out.cell (World.block_lt_of_cell? w _ hx158_11)).trans hx158_11
                              replace hx158_12 := (HB.out.cell (World.block_lt_of_cell? w _ hx158_12)).trans hx158_12
                              replace p158 := eq_true p158
                              replace q158 := eq_true q158
                              refine start_ (n := 15) (S := fun w' => w'.cell? ⟨gb146, 0, none⟩ = some (.slice A0_0 l0_0.length c0_0) ∧ w'.cell? ⟨gb146, 1, none⟩ = some (.slice A0_1 l0_1.length c0_1) ∧ w'.cell? ⟨gb146, 2, none⟩ = some (.slice (some ad157) l0_2.length c0_2) ∧ w'.cell? (ad157.add ((x8_4).toNat * 13)) = some (.int .i64 ((rd_T52 l0_2 x8_4).f0)) ∧ w'.cell? ⟨(ad157.add ((x8_4).toNat * 13)).block, (ad157.add ((x8_4).toNat * 13)).off + 1, none⟩ = some (.int .i64 ((rd_T52 l0_2 x8_4).f1)) ∧ w'.cell? ⟨(ad157.add ((x8_4).toNat * 13)).block, (ad157.add ((x8_4).toNat * 13)).off + 2, none⟩ = some (.bool ((rd_T52 l0_2 x8_4).f2)) ∧ w'.cell? ⟨(ad157.add ((x8_4).toNat * 13)).block, (ad157.add ((x8_4).toNat * 13)).off + 3, none⟩ = some (.bool ((rd_T52 l0_2 x8_4).f3)) ∧ w'.cell? ⟨(ad157.add ((x8_4).toNat * 13)).block, (ad157.add ((x8_4).toNat * 13)).off + 4, none⟩ = some (.int .u32 ((rd_T52 l0_2 x8_4).f4.f0.f0)) ∧ w'.cell? ⟨(ad157.add ((x8_4).toNat * 13)).block, (ad157.add ((x8_4).toNat * 13)).off + 5, none⟩ = some (.int .i64 ((rd_T52 l0_2 x8_4).f4.f0.f1)) ∧ w'.cell? ⟨(ad157.add ((x8_4).toNat * 13)).block, (ad157.add ((x8_4).toNat * 13)).off + 6, none⟩ = some (.int .u32 ((rd_T52 l0_2 x8_4).f4.f1.f0)) ∧ w'.cell? ⟨(ad157.add ((x8_4).toNat * 13)).block, (ad157.add ((x8_4).toNat * 13)).off + 7, none⟩ = some (.int .i64 ((rd_T52 l0_2 x8_4).f4.f1.f1)) ∧ w'.cell? ⟨(ad157.add ((x8_4).toNat * 13)).block, (ad157.add ((x8_4).toNat * 13)).off + 8, none⟩ = some (.int .i64 ((rd_T52 l0_2 x8_4).f4.f2)) ∧ w'.cell? ⟨(ad157.add ((x8_4).toNat * 13)).block, (ad157.add ((x8_4).toNat * 13)).off + 9, none⟩ = some (.int .u16 ((rd_T52 l0_2 x8_4).f4.f3.f0)) ∧ w'.cell? ⟨(ad157.add ((x8_4).toNat * 13)).block, (ad157.add ((x8_4).toNat * 13)).off + 10, none⟩ = some (.int .u16 ((rd_T52 l0_2 x8_4).f4.f3.f1)) ∧ w'.cell? ⟨(ad157.add ((x8_4).toNat * 13)).block, (ad157.add ((x8_4).toNat * 13)).off + 11, none⟩ = some (.int .u16 ((rd_T52 l0_2 x8_4).f4.f4.f0)) ∧ w'.cell? ⟨(ad157.add ((x8_4).toNat * 13)).block, (ad157.add ((x8_4).toNat * 13)).off + 12, none⟩ = some (.int .u16 ((rd_T52 l0_2 x8_4).f4.f4.f1)) ∧ w'.cell? (ad157.add ((x8_4).toNat * 13)) = some (.int .i64 ((rd_T52 l0_2 x8_4).f0)) ∧ w'.cell? ⟨(ad157.add ((x8_4).toNat * 13)).block, (ad157.add ((x8_4).toNat * 13)).off + 1, none⟩ = some (.int .i64 ((rd_T52 l0_2 x8_4).f1)) ∧ w'.cell? ⟨(ad157.add ((x8_4).toNat * 13)).block, (ad157.add ((x8_4).toNat * 13)).off + 2, none⟩ = some (.bool ((rd_T52 l0_2 x8_4).f2)) ∧ w'.cell? ⟨(ad157.add ((x8_4).toNat * 13)).block, (ad157.add ((x8_4).toNat * 13)).off + 3, none⟩ = some (.bool ((rd_T52 l0_2 x8_4).f3)) ∧ w'.cell? ⟨(ad157.add ((x8_4).toNat * 13)).block, (ad157.add ((x8_4).toNat * 13)).off + 4, none⟩ = some (.int .u32 ((rd_T52 l0_2 x8_4).f4.f0.f0)) ∧ w'.cell? ⟨(ad157.add ((x8_4).toNat * 13)).block, (ad157.add ((x8_4).toNat * 13)).off + 5, none⟩ = some (.int .i64 ((rd_T52 l0_2 x8_4).f4.f0.f1)) ∧ w'.cell? ⟨(ad157.add ((x8_4).toNat * 13)).block, (ad157.add ((x8_4).toNat * 13)).off + 6, none⟩ = some (.int .u32 ((rd_T52 l0_2 x8_4).f4.f1.f0)) ∧ w'.cell? ⟨(ad157.add ((x8_4).toNat * 13)).block, (ad157.add ((x8_4).toNat * 13)).off + 7, none⟩ = some (.int .i64 ((rd_T52 l0_2 x8_4).f4.f1.f1)) ∧ w'.cell? ⟨(ad157.add ((x8_4).toNat * 13)).block, (ad157.add ((x8_4).toNat * 13)).off + 8, none⟩ = some (.int .i64 ((rd_T52 l0_2 x8_4).f4.f2)) ∧ w'.cell? ⟨(ad157.add ((x8_4).toNat * 13)).block, (ad157.add ((x8_4).toNat * 13)).off + 9, none⟩ = some (.int .u16 ((rd_T52 l0_2 x8_4).f4.f3.f0)) ∧ w'.cell? ⟨(ad157.add ((x8_4).toNat * 13)).block, (ad157.add ((x8_4).toNat * 13)).off + 10, none⟩ = some (.int .u16 ((rd_T52 l0_2 x8_4).f4.f3.f1)) ∧ w'.cell? ⟨(ad157.add ((x8_4).toNat * 13)).block, (ad157.add ((x8_4).toNat * 13)).off + 11, none⟩ = some (.int .u16 ((rd_T52 l0_2 x8_4).f4.f4.f0)) ∧ w'.cell? ⟨(ad157.add ((x8_4).toNat * 13)).block, (ad157.add ((x8_4).toNat * 13)).off + 12, none⟩ = some (.int .u16 ((rd_T52 l0_2 x8_4).f4.f4.f1))) (ds := []) #[false, false, false, false, false, false, false, false, false, false, false, false, false, false, false] (by kernel_rfl) rfl rfl ⟨(blk_cell BK146.out 0).trans rfl, (blk_cell BK146.out 1).trans rfl, (blk_cell BK146.out 2).trans rfl, ((HB.out.cell (World.block_lt_of_cell? w _ hw157_0)).trans hw157_0), ((HB.out.cell (World.block_lt_of_cell? w _ hw157_1)).trans hw157_1), ((HB.out.cell (World.block_lt_of_cell? w _ hw157_2)).trans hw157_2), ((HB.out.cell (World.block_lt_of_cell? w _ hw157_3)).trans hw157_3), ((HB.out.cell (World.block_lt_of_cell? w _ hw157_4)).trans hw157_4), ((HB.out.cell (World.block_lt_of_cell? w _ hw157_5)).trans hw157_5), ((HB.out.cell (World.block_lt_of_cell? w _ hw157_6)).trans hw157_6), ((HB.out.cell (World.block_lt_of_cell? w _ hw157_7)).trans hw157_7), ((HB.out.cell (World.block_lt_of_cell? w _ hw157_8)).trans hw157_8), ((HB.out.cell (World.block_lt_of_cell? w _ hw157_9)).trans hw157_9), ((HB.out.cell (World.block_lt_of_cell? w _ hw157_10)).trans hw157_10), ((HB.out.cell (World.block_lt_of_cell? w _ hw157_11)).trans hw157_11), ((HB.out.cell (World.block_lt_of_cell? w _ hw157_12)).trans hw157_12), ((HB.out.cell (World.block_lt_of_cell? w _ hw158_0)).trans hw158_0), ((HB.out.cell (World.block_lt_of_cell? w _ hw158_1)).trans hw158_1), ((HB.out.cell (World.block_lt_of_cell? w _ hw158_2)).trans hw158_2), ((HB.out.cell (World.block_lt_of_cell? w _ hw158_3)).trans hw158_3), ((HB.out.cell (World.block_lt_of_cell? w _ hw158_4)).trans hw158_4), ((HB.out.cell (World.block_lt_of_cell? w _ hw158_5)).trans hw158_5), ((HB.out.cell (World.block_lt_of_cell? w _ hw158_6)).trans hw158_6), ((HB.out.cell (World.block_lt_of_cell? w _ hw158_7)).trans hw158_7), ((HB.out.cell (World.block_lt_of_cell? w _ hw158_8)).trans hw158_8), ((HB.out.cell (World.block_lt_of_cell? w _ hw158_9)).trans hw158_9), ((HB.out.cell (World.block_lt_of_cell? w _ hw158_10)).trans hw158_10), ((HB.out.cell (World.block_lt_of_cell? w _ hw158_11)).trans hw158_11), ((HB.out.cell (World.block_lt_of_cell? w _ hw158_12)).trans hw158_12)⟩ (fun hHeld => ?_); refine with_tabW crossbuckref05_Check.tab23 crossbuckref05_Check.bits23 (fun HT_ HW_ => ?_)
                              generalize wr.drew = w56 at BK146 HB hx157_0 hx157_1 hx157_10 hx157_11 hx157_12 hx157_2 hx157_3 hx157_4 hx157_5 hx157_6 hx157_7 hx157_8 hx157_9 hx158_0 hx158_1 hx158_10 hx158_11 hx158_12 hx158_2 hx158_3 hx158_4 hx158_5 hx158_6 hx158_7 hx158_8 hx158_9 hHeld ⊢
                              refine pure_ (i := 1) (N := some 93) (v := ?_) (a' := ?_) #[false, true, false, false, false, false, false, false, false, false, false, false, false, false, false] rfl rfl (any_of HT_.out (by kernel_rfl)) (fun _ _ _ h => h) (Or.inl ⟨by rfl, ?_⟩) ?_ ?_
                              rotate_left
                              · intro w'
                                go_simp
                                with_reducible rfl
                              rotate_left
                              · simp only [Act.put, List.setIfInBounds_toArray, List.set_cons_zero, List.set_cons_succ, i64_w, i32_w]
                                rfl
                              refine pure_ (i := 3) (N := some 95) (v := ?_) (a' := ?_) #[false, true, false, true, false, false, false, false, false, false, false, false, false, false, false] rfl rfl (any_of HT_.out (by kernel_rfl)) (fun _ _ _ h => h) (Or.inl ⟨by rfl, ?_⟩) ?_ ?_
                              rotate_left
                              · intro w'
                                go_simp
                                with_reducible rfl
                              rotate_left
                              · simp only [Act.put, List.setIfInBounds_toArray, List.set_cons_zero, List.set_cons_succ, i64_w, i32_w]
                                rfl
                              refine pure_ (i := 7) (N := some 99) (v := ?_) (a' := ?_) #[false, true, false, true, false, false, false, true, false, false, false, false, false, false, false] rfl rfl (any_of HT_.out (by kernel_rfl)) (fun _ _ _ h => h) (Or.inl ⟨by rfl, ?_⟩) ?_ ?_
                              rotate_left
                              · intro w'
                                go_simp
                                with_reducible rfl
                              rotate_left
                              · simp only [Act.put, List.setIfInBounds_toArray, List.set_cons_zero, List.set_cons_succ, i64_w, i32_w]
                                rfl
                              refine pure_ (i := 9) (N := some 101) (v := ?_) (a' := ?_) #[false, true, false, true, false, false, false, true, false, true, false, false, false, false, false] rfl rfl (any_of HT_.out (by kernel_rfl)) (fun _ _ _ h => h) (Or.inl ⟨by rfl, ?_⟩) ?_ ?_
                              rotate_left
                              · intro w'
                                go_simp
                                with_reducible rfl
                              rotate_left
                              · simp only [Act.put, List.setIfInBounds_toArray, List.set_cons_zero, List.set_cons_succ, i64_w, i32_w]
                                rfl
                              refine take_ (i := 0) (N := some 92) (v := ?_) (a' := ?_) #[true, true, false, true, false, false, false, true, false, true, false, false, false, false, false] rfl rfl (take_ofW HT_.out HW_.out (by kernel_rfl)) (fun _ _ _ h => h) (Or.inl ⟨by rfl, ?_⟩) hHeld ?_ ?_
                              rotate_left
                              · rintro w' ⟨s0, s1, s2, s3, s4, s5, s6, s7, s8, s9, s10, s11, s12, s13, s14, s15, s16, s17, s18, s19, s20, s21, s22, s23, s24, s25, s26, s27, s28⟩
                                go_simp
                                with_reducible rfl
                              rotate_left
                              · simp only [Act.put, List.setIfInBounds_toArray, List.set_cons_zero, List.set_cons_succ, i64_w, i32_w]
                                rfl
                              refine take_ (i := 2) (N := some 94) (v := ?_) (a' := ?_) #[true, true, true, true, false, false, false, true, false, true, false, false, false, false, false] rfl rfl (take_ofW HT_.out HW_.out (by kernel_rfl)) (fun _ _ _ h => h) (Or.inl ⟨by rfl, ?_⟩) hHeld ?_ ?_
                              rotate_left
                              · rintro w' ⟨s0, s1, s2, s3, s4, s5, s6, s7, s8, s9, s10, s11, s12, s13, s14, s15, s16, s17, s18, s19, s20, s21, s22, s23, s24, s25, s26, s27, s28⟩
                                go_simp
                                with_reducible rfl
                              rotate_left
                              · simp only [Act.put, List.setIfInBounds_toArray, List.set_cons_zero, List.set_cons_succ, i64_w, i32_w]
                                rfl
                              refine pure_ (i := 4) (N := some 96) (v := ?_) (a' := ?_) #[true, true, true, true, true, false, false, true, false, true, false, false, false, false, false] rfl rfl (any_of HT_.out (by kernel_rfl)) (fun _ _ _ h => h) (Or.inl ⟨by rfl, ?_⟩) ?_ ?_
                              rotate_left
                              · intro w'
                                go_simp
                                with_reducible rfl
                              rotate_left
                              · simp only [Act.put, List.setIfInBounds_toArray, List.set_cons_zero, List.set_cons_succ, i64_w, i32_w]
                                rfl
                              refine pure_ (i := 5) (N := some 97) (v := ?_) (a' := ?_) #[true, true, true, true, true, true, false, true, false, true, false, false, false, false, false] rfl rfl (any_of HT_.out (by kernel_rfl)) (fun _ _ _ h => h) (Or.inl ⟨by rfl, ?_⟩) ?_ ?_
                              rotate_left
                              · intro w'
                                go_simp
                                with_reducible rfl
                              rotate_left
                              · simp only [Act.put, List.setIfInBounds_toArray, List.set_cons_zero, List.set_cons_succ, i64_w, i32_w]
                                rfl
                              refine take_ (i := 6) (N := some 98) (v := ?_) (a' := ?_) #[true, true, true, true, true, true, true, true, false, true, false, false, false, false, false] rfl rfl (take_ofW HT_.out HW_.out (by kernel_rfl)) (fun _ _ _ h => h) (Or.inl ⟨by rfl, ?_⟩) hHeld ?_ ?_
                              rotate_left
                              · rintro w' ⟨s0, s1, s2, s3, s4, s5, s6, s7, s8, s9, s10, s11, s12, s13, s14, s15, s16, s17, s18, s19, s20, s21, s22, s23, s24, s25, s26, s27, s28⟩
                                go_simp
                                with_reducible rfl
                              rotate_left
                              · simp only [Act.put, List.setIfInBounds_toArray, List.set_cons_zero, List.set_cons_succ, i64_w, i32_w]
                                rfl
                              refine take_ (i := 8) (N := some 100) (v := ?_) (a' := ?_) #[true, true, true, true, true, true, true, true, true, true, false, false, false, false, false] rfl rfl (take_ofW HT_.out HW_.out (by kernel_rfl)) (fun _ _ _ h => h) (Or.inl ⟨by rfl, ?_⟩) hHeld ?_ ?_
                              rotate_left
                              · rintro w' ⟨s0, s1, s2, s3, s4, s5, s6, s7, s8, s9, s10, s11, s12, s13, s14, s15, s16, s17, s18, s19, s20, s21, s22, s23, s24, s25, s26, s27, s28⟩
                                go_simp
                                with_reducible rfl
                              rotate_left
                              · simp only [Act.put, List.setIfInBounds_toArray, List.set_cons_zero, List.set_cons_succ, i64_w, i32_w]
                                rfl
                              refine pure_ (i := 10) (N := some 102) (v := ?_) (a' := ?_) #[true, true, true, true, true, true, true, true, true, true, true, false, false, false, false] rfl rfl (any_of HT_.out (by kernel_rfl)) (fun _ _ _ h => h) (Or.inl ⟨by rfl, ?_⟩) ?_ ?_
                              rotate_left
                              · intro w'
                                go_simp
                                with_reducible rfl
                              rotate_left
                              · simp only [Act.put, List.setIfInBounds_toArray, List.set_cons_zero, List.set_cons_succ, i64_w, i32_w]
                                rfl
                              refine pure_ (i := 11) (N := some 103) (v := ?_) (a' := ?_) #[true, true, true, true, true, true, true, true, true, true, true, true, false, false, false] rfl rfl (any_of HT_.out (by kernel_rfl)) (fun _ _ _ h => h) (Or.inl ⟨by rfl, ?_⟩) ?_ ?_
                              rotate_left
                              · intro w'
                                go_simp
                                with_reducible rfl
                              rotate_left
                              · simp only [Act.put, List.setIfInBounds_toArray, List.set_cons_zero, List.set_cons_succ, i64_w, i32_w]
                                rfl
                              refine take_ (i := 12) (N := some 104) (v := ?_) (a' := ?_) #[true, true, true, true, true, true, true, true, true, true, true, true, true, false, false] rfl rfl (take_ofW HT_.out HW_.out (by kernel_rfl)) (fun _ _ _ h => h) (Or.inl ⟨by rfl, ?_⟩) hHeld ?_ ?_
                              rotate_left
                              · rintro w' ⟨s0, s1, s2, s3, s4, s5, s6, s7, s8, s9, s10, s11, s12, s13, s14, s15, s16, s17, s18, s19, s20, s21, s22, s23, s24, s25, s26, s27, s28⟩
                                go_simp
                                with_reducible rfl
                              rotate_left
                              · simp only [Act.put, List.setIfInBounds_toArray, List.set_cons_zero, List.set_cons_succ, i64_w, i32_w]
                                rfl
                              refine one_ (i := 13) (N := some 105) #[true, true, true, true, true, true, true, true, true, true, true, true, true, true, false] rfl rfl (one_of HT_.out (by kernel_rfl)) (by decide) (fun K hK => ?_)
                              refine goes_ Try.func16 (by kernel_rfl) rfl #[.agg #[.slice A0_0 l0_0.length c0_0, .slice A0_1 l0_1.length c0_1, .slice (some ad157) l0_2.length c0_2], .int .i64 ((rd_T52 l0_2 x8_4).f0), .int .i64 ((rd_T52 l0_2 x8_4).f1)] (by rfl) rfl rfl (by (try simp only [List.map_toArray, List.map_cons, List.map_nil]); first | done | rfl | (simp only [List.length_drop, List.length_take]; rfl)) ?_
                              with_reducible refine (crossbuckref05_Port.calls k4 _ _ l0_0 _ _ l0_1 _ _ l0_2 ((rd_T52 l0_2 x8_4).f0) ((rd_T52 l0_2 x8_4).f1) t159 _ ?side1 ?side2 ?side3 ?side4 ?side5 ?side6 A41.out).mono ?_
                              (case side1 => repeat (first | exact (Kd.C_below HR0_0.out HB.out) | (with_reducible refine Kd.C_alloc ?_ _) | (with_reducible refine Kd.C_drewN ?_ _) | (with_reducible refine Kd.C_drew ?_)))
                              (case side2 => exact HC0_0.out)
                              (case side3 => repeat (first | exact (Kd.C_below HR0_1.out HB.out) | (with_reducible refine Kd.C_alloc ?_ _) | (with_reducible refine Kd.C_drewN ?_ _) | (with_reducible refine Kd.C_drew ?_)))
                              (case side4 => exact HC0_1.out)
                              (case side5 => repeat (first | exact (Kd.C_below HR0_2.out HB.out) | (with_reducible refine Kd.C_alloc ?_ _) | (with_reducible refine Kd.C_drewN ?_ _) | (with_reducible refine Kd.C_drew ?_)))
                              (case side6 => exact HC0_2.out)
                              rintro e w57 ⟨rfl, hb⟩
                              refine ⟨_, rfl, ?_⟩
                              have n0_ := Aside0.mk (blk_below (g := gb146) (o := .cells #[.slice A0_0 l0_0.length c0_0, .slice A0_1 l0_1.length c0_1, .slice (some ad157) l0_2.length c0_2] 26 (0, 0)) (by (with_reducible repeat (first | refine blk_drewN ?_ _ | refine blk_drew ?_ | refine blk_alloc ?_ _)); exact BK146.out) hb)
                              have n1_ := Aside0.mk (below_step (by repeat (first | (with_reducible first | exact HB.out | apply below_alloc | apply pw_below_drewN | apply below_drew1 | refine below_set ?_ GE146.out) | exact HB.out)) hb)
                              clear BK146
                              clear HB
                              have BK146 := n0_
                              have HB := n1_
                              clear n0_ n1_
                              (try clear hb)
                              (try clear hb2)
                              (try clear hk)
                              (try clear hi)
                              refine hK.out _ _ ⟨(blk_cell BK146.out 0).trans rfl, (blk_cell BK146.out 1).trans rfl, (blk_cell BK146.out 2).trans rfl, ((HB.out.cell (World.block_lt_of_cell? w _ hw157_0)).trans hw157_0), ((HB.out.cell (World.block_lt_of_cell? w _ hw157_1)).trans hw157_1), ((HB.out.cell (World.block_lt_of_cell? w _ hw157_2)).trans hw157_2), ((HB.out.cell (World.block_lt_of_cell? w _ hw157_3)).trans hw157_3), ((HB.out.cell (World.block_lt_of_cell? w _ hw157_4)).trans hw157_4), ((HB.out.cell (World.block_lt_of_cell? w _ hw157_5)).trans hw157_5), ((HB.out.cell (World.block_lt_of_cell? w _ hw157_6)).trans hw157_6), ((HB.out.cell (World.block_lt_of_cell? w _ hw157_7)).trans hw157_7), ((HB.out.cell (World.block_lt_of_cell? w _ hw157_8)).trans hw157_8), ((HB.out.cell (World.block_lt_of_cell? w _ hw157_9)).trans hw157_9), ((HB.out.cell (World.block_lt_of_cell? w _ hw157_10)).trans hw157_10), ((HB.out.cell (World.block_lt_of_cell? w _ hw157_11)).trans hw157_11), ((HB.out.cell (World.block_lt_of_cell? w _ hw157_12)).trans hw157_12), ((HB.out.cell (World.block_lt_of_cell? w _ hw158_0)).trans hw158_0), ((HB.out.cell (World.block_lt_of_cell? w _ hw158_1)).trans hw158_1), ((HB.out.cell (World.block_lt_of_cell? w _ hw158_2)).trans hw158_2), ((HB.out.cell (World.block_lt_of_cell? w _ hw158_3)).trans hw158_3), ((HB.out.cell (World.block_lt_of_cell? w _ hw158_4)).trans hw158_4), ((HB.out.cell (World.block_lt_of_cell? w _ hw158_5)).trans hw158_5), ((HB.out.cell (World.block_lt_of_cell? w _ hw158_6)).trans hw158_6), ((HB.out.cell (World.block_lt_of_cell? w _ hw158_7)).trans hw158_7), ((HB.out.cell (World.block_lt_of_cell? w _ hw158_8)).trans hw158_8), ((HB.out.cell (World.block_lt_of_cell? w _ hw158_9)).trans hw158_9), ((HB.out.cell (World.block_lt_of_cell? w _ hw158_10)).trans hw158_10), ((HB.out.cell (World.block_lt_of_cell? w _ hw158_11)).trans hw158_11), ((HB.out.cell (World.block_lt_of_cell? w _ hw158_12)).trans hw158_12)⟩ (fun hHeld => ?_)
                              clear hK K
                              refine norm_ (a' := ?_) ?_ ?_
                              rotate_left
                              · show Act.put _ (some 105) _ = _
                                simp only [Act.put, List.setIfInBounds_toArray, List.set_cons_zero, List.set_cons_succ, i64_w, i32_w]
                                rfl
                              refine pure_ (i := 14) (N := some 9) (v := ?_) (a' := ?_) #[true, true, true, true, true, true, true, true, true, true, true, true, true, true, true] rfl rfl (any_of HT_.out (by kernel_rfl)) (fun _ _ _ h => h) (Or.inl ⟨by rfl, ?_⟩) ?_ ?_
                              rotate_left
                              · intro w'
                                go_simp
                                with_reducible rfl
                              rotate_left
                              · simp only [Act.put, List.setIfInBounds_toArray, List.set_cons_zero, List.set_cons_succ, i64_w, i32_w]
                                rfl
                              refine done_ (done_of HT_.out (by kernel_rfl)) ?_
                              try go_wp2
                              go_ret
                              exact ⟨by first | rfl | (simp [errW_none, errW_some] <;> rfl) | (simp [*, errW_none, errW_some] <;> rfl), by repeat (first | (with_reducible first | exact HB.out | apply below_alloc | apply pw_below_drewN | apply below_drew1 | refine below_set ?_ GE146.out) | exact HB.out)⟩
                          · rw [if_neg c40] at H
                            exact absurd H (by simp)
                        · rw [if_neg c39] at H
                          have c39b0 : decide (x8_4 < (l0_2.length : Int)) = false := decide_eq_false c39
                          clear c39
                          obtain rfl := Option.some.inj H
                          have hcz58_0 : wr.cell? ⟨gb146, 0, none⟩ = some (.slice A0_0 l0_0.length c0_0) := (blk_cell BK146.out 0).trans rfl
                          have hcz58_1 : wr.cell? ⟨gb146, 1, none⟩ = some (.slice A0_1 l0_1.length c0_1) := (blk_cell BK146.out 1).trans rfl
                          have hcz58_2 : wr.cell? ⟨gb146, 2, none⟩ = some (.slice A0_2 l0_2.length c0_2) := (blk_cell BK146.out 2).trans rfl
                          have hfz58_0 := blk_frozen BK146.out 0
                          have hfz58_1 := blk_frozen BK146.out 1
                          have hfz58_2 := blk_frozen BK146.out 2
                          go_wp2
                          go_ret
                          exact ⟨by first | rfl | (simp [errW_none, errW_some] <;> rfl) | (simp [*, errW_none, errW_some] <;> rfl), by repeat (first | (with_reducible first | exact HB.out | apply below_alloc | apply pw_below_drewN | apply below_drew1 | refine below_set ?_ GE146.out) | exact HB.out)⟩

end Go.Proofs.Ytdemogdagemagaa.PTg
