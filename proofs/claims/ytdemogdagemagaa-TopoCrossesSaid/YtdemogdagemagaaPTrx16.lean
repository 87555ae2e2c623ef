-- Written by wip/myprint.py and wip/merge.py (this session's own programs); Lean checks it.
-- halved
import Derived.Test.YtdemogdagemagaaPTrx0
import Derived.Test.YtdemogdagemagaaPTrx15
namespace Go.Proofs.Ytdemogdagemagaa.PTr
open Go.RowKit Go.Proofs.YtdemogdagemagaaW.PrintWords Go.Proofs.YtdemogdagemagaaW.PrintLast Go.Proofs.YtdemogdagemagaaW.PrintMore
attribute [local go_sem] max2_int min2_int max_two min_two max_three min_three max_four min_four   -- for this text's walks alone
set_option linter.unusedVariables false
set_option linter.unusedSimpArgs false

/-! ### crossbuckref04_Match: function 50 -/
mutual
def crossbuckref04_Match.j0 : Nat → Bool → Int → Int → Int → Int → Int → Int → Int → Int → Int → Int → Int → Int → Int → Int → Option (Bool)
 | 0, _, _, _, _, _, _, _, _, _, _, _, _, _, _, _ => none
 | k + 1, x15, x270000, x270001, x270002, x270003, x270004, x270005, x270006, x270007, x270008, x271000, x271001, x271002, x271003, x271004 => if x15 = true then (some false) else (if x271003 < x270005 then (crossbuckref04_Match.j1 k true x270000 x270001 x270002 x270003 x270004 x270005 x270006 x270007 x270008 x271000 x271001 x271002 x271003 x271004) else (if x271003 > x270006 then (crossbuckref04_Match.j1 k true x270000 x270001 x270002 x270003 x270004 x270005 x270006 x270007 x270008 x271000 x271001 x271002 x271003 x271004) else (if x271004 < x270007 then (crossbuckref04_Match.j1 k true x270000 x270001 x270002 x270003 x270004 x270005 x270006 x270007 x270008 x271000 x271001 x271002 x271003 x271004) else (crossbuckref04_Match.j1 k (decide (x271004 > x270008)) x270000 x270001 x270002 x270003 x270004 x270005 x270006 x270007 x270008 x271000 x271001 x271002 x271003 x271004))))
def crossbuckref04_Match.j1 : Nat → Bool → Int → Int → Int → Int → Int → Int → Int → Int → Int → Int → Int → Int → Int → Int → Option (Bool)
 | 0, _, _, _, _, _, _, _, _, _, _, _, _, _, _, _ => none
 | k + 1, x45, x270000, x270001, x270002, x270003, x270004, x270005, x270006, x270007, x270008, x271000, x271001, x271002, x271003, x271004 => if x45 = true then (some false) else ((crossbuckref03_Has.f k x270000 x270001 x271000).bind fun t271 => (if t271 = true then ((crossbuckref03_Has.f k x270002 x270003 x271001).bind fun t272 => (some t272)) else (some false)))
end
def crossbuckref04_Match.f (k : Nat) (a0_0 : Int) (a0_1 : Int) (a0_2 : Int) (a0_3 : Int) (a0_4 : Int) (a0_5 : Int) (a0_6 : Int) (a0_7 : Int) (a0_8 : Int) (a1_0 : Int) (a1_1 : Int) (a1_2 : Int) (a1_3 : Int) (a1_4 : Int) : Option (Bool) := if a0_4 = (-1) then (crossbuckref04_Match.j0 k false a0_0 a0_1 a0_2 a0_3 a0_4 a0_5 a0_6 a0_7 a0_8 a1_0 a1_1 a1_2 a1_3 a1_4) else (crossbuckref04_Match.j0 k (a0_4 != (wrap64 (a1_2))) a0_0 a0_1 a0_2 a0_3 a0_4 a0_5 a0_6 a0_7 a0_8 a1_0 a1_1 a1_2 a1_3 a1_4)
theorem crossbuckref04_Match.mono_l : ∀ k, (∀ y0 y1 y2 y3 y4 y5 y6 y7 y8 y9 y10 y11 y12 y13 y14, LeO (crossbuckref04_Match.j0 k y0 y1 y2 y3 y4 y5 y6 y7 y8 y9 y10 y11 y12 y13 y14) (crossbuckref04_Match.j0 (k + 1) y0 y1 y2 y3 y4 y5 y6 y7 y8 y9 y10 y11 y12 y13 y14)) ∧ (∀ y0 y1 y2 y3 y4 y5 y6 y7 y8 y9 y10 y11 y12 y13 y14, LeO (crossbuckref04_Match.j1 k y0 y1 y2 y3 y4 y5 y6 y7 y8 y9 y10 y11 y12 y13 y14) (crossbuckref04_Match.j1 (k + 1) y0 y1 y2 y3 y4 y5 y6 y7 y8 y9 y10 y11 y12 y13 y14))
 | 0 => ⟨fun _ _ _ _ _ _ _ _ _ _ _ _ _ _ _ r h => by simp [crossbuckref04_Match.j0] at h, fun _ _ _ _ _ _ _ _ _ _ _ _ _ _ _ r h => by simp [crossbuckref04_Match.j1] at h⟩
 | k + 1 => by
  obtain ⟨ih0, ih1⟩ := crossbuckref04_Match.mono_l k
  refine ⟨?_, ?_⟩
  ·intro y0 y1 y2 y3 y4 y5 y6 y7 y8 y9 y10 y11 y12 y13 y14
   unfold crossbuckref04_Match.j0
   repeat' first
   | (with_reducible exact ih0 _ _ _ _ _ _ _ _ _ _ _ _ _ _ _)
   | (with_reducible exact ih1 _ _ _ _ _ _ _ _ _ _ _ _ _ _ _)
   | (with_reducible exact crossbuckref03_Has.mono _ _ _ _)
   | (with_reducible exact LeO.refl _)
   | (with_reducible exact LeO.none _)
   | (with_reducible refine LeO.ite ?_ ?_)
   | (with_reducible refine LeO.bind ?_ (fun _ => ?_))
   | exact ih0 _ _ _ _ _ _ _ _ _ _ _ _ _ _ _
   | exact ih1 _ _ _ _ _ _ _ _ _ _ _ _ _ _ _
   | exact crossbuckref03_Has.mono _ _ _ _
   | exact LeO.none _
   | refine LeO.ite ?_ ?_
   | refine LeO.bind ?_ (fun _ => ?_)
  ·intro y0 y1 y2 y3 y4 y5 y6 y7 y8 y9 y10 y11 y12 y13 y14
   unfold crossbuckref04_Match.j1
   repeat' first
   | (with_reducible exact ih0 _ _ _ _ _ _ _ _ _ _ _ _ _ _ _)
   | (with_reducible exact ih1 _ _ _ _ _ _ _ _ _ _ _ _ _ _ _)
   | (with_reducible exact crossbuckref03_Has.mono _ _ _ _)
   | (with_reducible exact LeO.refl _)
   | (with_reducible exact LeO.none _)
   | (with_reducible refine LeO.ite ?_ ?_)
   | (with_reducible refine LeO.bind ?_ (fun _ => ?_))
   | exact ih0 _ _ _ _ _ _ _ _ _ _ _ _ _ _ _
   | exact ih1 _ _ _ _ _ _ _ _ _ _ _ _ _ _ _
   | exact crossbuckref03_Has.mono _ _ _ _
   | exact LeO.none _
   | refine LeO.ite ?_ ?_
   | refine LeO.bind ?_ (fun _ => ?_)
theorem crossbuckref04_Match.mono : ∀ a0 a1 a2 a3 a4 a5 a6 a7 a8 a9 a10 a11 a12 a13 k, LeO (crossbuckref04_Match.f k a0 a1 a2 a3 a4 a5 a6 a7 a8 a9 a10 a11 a12 a13) (crossbuckref04_Match.f (k + 1) a0 a1 a2 a3 a4 a5 a6 a7 a8 a9 a10 a11 a12 a13) := by
 intro a0 a1 a2 a3 a4 a5 a6 a7 a8 a9 a10 a11 a12 a13 k
 obtain ⟨ih0, ih1⟩ := crossbuckref04_Match.mono_l k
 unfold crossbuckref04_Match.f
 repeat' first
   | (with_reducible exact ih0 _ _ _ _ _ _ _ _ _ _ _ _ _ _ _)
   | (with_reducible exact ih1 _ _ _ _ _ _ _ _ _ _ _ _ _ _ _)
   | (with_reducible exact crossbuckref03_Has.mono _ _ _ _)
   | (with_reducible exact LeO.refl _)
   | (with_reducible exact LeO.none _)
   | (with_reducible refine LeO.ite ?_ ?_)
   | (with_reducible refine LeO.bind ?_ (fun _ => ?_))
   | exact ih0 _ _ _ _ _ _ _ _ _ _ _ _ _ _ _
   | exact ih1 _ _ _ _ _ _ _ _ _ _ _ _ _ _ _
   | exact crossbuckref03_Has.mono _ _ _ _
   | exact LeO.none _
   | refine LeO.ite ?_ ?_
   | refine LeO.bind ?_ (fun _ => ?_)
set_option maxHeartbeats 8000000 in
set_option maxRecDepth 100000 in
theorem crossbuckref04_Match.calls (k : Nat) (a0_0 : Int) (a0_1 : Int) (a0_2 : Int) (a0_3 : Int) (a0_4 : Int) (a0_5 : Int) (a0_6 : Int) (a0_7 : Int) (a0_8 : Int) (a1_0 : Int) (a1_1 : Int) (a1_2 : Int) (a1_3 : Int) (a1_4 : Int) (r : Bool) (w : World) (h : crossbuckref04_Match.f k a0_0 a0_1 a0_2 a0_3 a0_4 a0_5 a0_6 a0_7 a0_8 a1_0 a1_1 a1_2 a1_3 a1_4 = some r) :
  Calls Try.prog 50 #[.agg #[.int .u32 a0_0, .int .i64 a0_1, .int .u32 a0_2, .int .i64 a0_3, .int .i64 a0_4, .int .u16 a0_5, .int .u16 a0_6, .int .u16 a0_7, .int .u16 a0_8], .agg #[.int .u32 a1_0, .int .u32 a1_1, .int .u8 a1_2, .int .u16 a1_3, .int .u16 a1_4]] w fun e w' => e = .returned (.bool r) ∧ Below w.heap.size w w' := by
 have hu50 := Try.underlying50
 have hu43 := Try.underlying43
 have hu48 := Try.underlying48
 have HB := Aside0.mk (Below.refl w.heap.size w)
 have H : (if a0_4 = (-1) then (crossbuckref04_Match.j0 k false a0_0 a0_1 a0_2 a0_3 a0_4 a0_5 a0_6 a0_7 a0_8 a1_0 a1_1 a1_2 a1_3 a1_4) else (crossbuckref04_Match.j0 k (a0_4 != (wrap64 (a1_2))) a0_0 a0_1 a0_2 a0_3 a0_4 a0_5 a0_6 a0_7 a0_8 a1_0 a1_1 a1_2 a1_3 a1_4)) = some r := h
 clear h
 have HC3 := Aside0.mk H
 clear H
 go_enter Try.func50, Try.ntmps50
 go_upto_region 1 with (first | ((with_reducible refine gate_dst (N := 2) rfl ?_); refine box_event ?hg (N := 2) ?hd (cs := #[.int .u32 a0_0, .int .i64 a0_1, .int .u32 a0_2, .int .i64 a0_3, .int .i64 a0_4, .int .u16 a0_5, .int .u16 a0_6, .int .u16 a0_7, .int .u16 a0_8]) (t := 50) ?hr ?_; (case hd => rfl); (case hg => rfl); (case hr => first | (go_simp; done) | (go_simp; rfl)); intro gb269 hg w4 hbox hb; have n0_ := Aside0.mk (below_step (by repeat (first | (with_reducible first | exact HB.out | apply below_alloc | apply pw_below_drewN | apply below_drew1) | exact HB.out)) hb); have n1_ := Aside0.mk (hbox); have n2_ := Aside0.mk ((by rw [hg]; exact (below_size (by repeat (first | (with_reducible first | exact HB.out | apply below_alloc | apply pw_below_drewN | apply below_drew1) | exact HB.out))) : w.heap.size ≤ gb269)); have n3_ := Aside0.mk ((by rw [hg]; exact (below_size (by repeat (first | (with_reducible first | exact HB.out | apply below_alloc | apply pw_below_drewN | apply below_drew1) | exact HB.out))) : w.heap.size ≤ gb269)); clear HB; have HB := n0_; have BK269 := n1_; have GW269 := n2_; have GE269 := n3_; clear n0_ n1_ n2_ n3_; clear hb hbox hg) | ((with_reducible refine gate_dst (N := 3) rfl ?_); refine box_event ?hg (N := 3) ?hd (cs := #[.int .u32 a1_0, .int .u32 a1_1, .int .u8 a1_2, .int .u16 a1_3, .int .u16 a1_4]) (t := 43) ?hr ?_; (case hd => rfl); (case hg => rfl); (case hr => first | (go_simp; done) | (go_simp; rfl)); intro gb270 hg w5 hbox hb; have n0_ := Aside0.mk (blk_below (g := gb269) (o := .cells #[.int .u32 a0_0, .int .i64 a0_1, .int .u32 a0_2, .int .i64 a0_3, .int .i64 a0_4, .int .u16 a0_5, .int .u16 a0_6, .int .u16 a0_7, .int .u16 a0_8] 50 (0, 0)) (by (with_reducible repeat (first | refine blk_drewN ?_ _ | refine blk_drew ?_ | refine blk_alloc ?_ _)); exact BK269.out) hb); have n1_ := Aside0.mk (below_step (by repeat (first | (with_reducible first | exact HB.out | apply below_alloc | apply pw_below_drewN | apply below_drew1 | refine below_set ?_ GE269.out) | exact HB.out)) hb); have n2_ := Aside0.mk (hbox); have n3_ := Aside0.mk ((by rw [hg]; exact (below_size (by repeat (first | (with_reducible first | exact HB.out | apply below_alloc | apply pw_below_drewN | apply below_drew1 | refine below_set ?_ GE269.out) | exact HB.out))) : w.heap.size ≤ gb270)); have n4_ := Aside0.mk ((by rw [hg]; exact (below_size (by repeat (first | (with_reducible first | exact HB.out | apply below_alloc | apply pw_below_drewN | apply below_drew1 | refine below_set ?_ GE269.out) | exact HB.out))) : w.heap.size ≤ gb270)); have n5_ := Aside0.mk ((by rw [hg]; exact Nat.ne_of_lt (blk_lt (g := gb269) (o := .cells #[.int .u32 a0_0, .int .i64 a0_1, .int .u32 a0_2, .int .i64 a0_3, .int .i64 a0_4, .int .u16 a0_5, .int .u16 a0_6, .int .u16 a0_7, .int .u16 a0_8] 50 (0, 0)) (by (with_reducible repeat (first | refine blk_drewN ?_ _ | refine blk_drew ?_ | refine blk_alloc ?_ _)); exact BK269.out)) : gb269 ≠ gb270)); have n6_ := Aside0.mk ((by rw [hg]; exact Nat.ne_of_gt (blk_lt (g := gb269) (o := .cells #[.int .u32 a0_0, .int .i64 a0_1, .int .u32 a0_2, .int .i64 a0_3, .int .i64 a0_4, .int .u16 a0_5, .int .u16 a0_6, .int .u16 a0_7, .int .u16 a0_8] 50 (0, 0)) (by (with_reducible repeat (first | refine blk_drewN ?_ _ | refine blk_drew ?_ | refine blk_alloc ?_ _)); exact BK269.out)) : gb270 ≠ gb269)); clear BK269; clear HB; have BK269 := n0_; have HB := n1_; have BK270 := n2_; have GW270 := n3_; have GE270 := n4_; have NB269_270 := n5_; have NB270_269 := n6_; clear n0_ n1_ n2_ n3_ n4_ n5_ n6_; clear hb hbox hg))
 (try simp only [Act.put, List.setIfInBounds_toArray, List.set_cons_zero, List.set_cons_succ])
 go_cut [15] (fun v15 wc => ∃ (kq : Nat) (x15_2 : Bool), v15 = .bool x15_2 ∧ Aside0 (crossbuckref04_Match.j0 kq x15_2 a0_0 a0_1 a0_2 a0_3 a0_4 a0_5 a0_6 a0_7 a0_8 a1_0 a1_1 a1_2 a1_3 a1_4 = some r) ∧ Aside0 (kq ≤ k) ∧ Aside0 (wc.heap[gb269]? = some (.cells #[.int .u32 a0_0, .int .i64 a0_1, .int .u32 a0_2, .int .i64 a0_3, .int .i64 a0_4, .int .u16 a0_5, .int .u16 a0_6, .int .u16 a0_7, .int .u16 a0_8] 50 (0, 0))) ∧ Aside0 (wc.heap[gb270]? = some (.cells #[.int .u32 a1_0, .int .u32 a1_1, .int .u8 a1_2, .int .u16 a1_3, .int .u16 a1_4] 43 (0, 0))) ∧ Aside0 (Below w.heap.size w wc))
 case first =>
  have H := HC3.out
  clear HC3
  by_cases c6 : a0_4 = (-1)
  ·rw [if_pos c6] at H
   have c6b0 : (a0_4 == (-1)) = true := beq_iff_eq.mpr c6
   have c6b1 : (a0_4 != (-1)) = false := bne_eq_false_iff_eq.mpr c6
   clear c6
   (first | rw [c6b0] | (simp only [i64_w, i32_w]; rw [c6b0]) | skip)
   have H' := Aside0.mk H
   clear H
   have hnb7 := NB269_270.out
   have hnc7 := NB270_269.out
   have hcz8_0 : w5.cell? ⟨gb269, 0, none⟩ = some (.int .u32 a0_0) := (blk_cell BK269.out 0).trans rfl
   have hcz8_1 : w5.cell? ⟨gb269, 1, none⟩ = some (.int .i64 a0_1) := (blk_cell BK269.out 1).trans rfl
   have hcz8_2 : w5.cell? ⟨gb269, 2, none⟩ = some (.int .u32 a0_2) := (blk_cell BK269.out 2).trans rfl
   have hcz8_3 : w5.cell? ⟨gb269, 3, none⟩ = some (.int .i64 a0_3) := (blk_cell BK269.out 3).trans rfl
   have hcz8_4 : w5.cell? ⟨gb269, 4, none⟩ = some (.int .i64 a0_4) := (blk_cell BK269.out 4).trans rfl
   have hcz8_5 : w5.cell? ⟨gb269, 5, none⟩ = some (.int .u16 a0_5) := (blk_cell BK269.out 5).trans rfl
   have hcz8_6 : w5.cell? ⟨gb269, 6, none⟩ = some (.int .u16 a0_6) := (blk_cell BK269.out 6).trans rfl
   have hcz8_7 : w5.cell? ⟨gb269, 7, none⟩ = some (.int .u16 a0_7) := (blk_cell BK269.out 7).trans rfl
   have hcz8_8 : w5.cell? ⟨gb269, 8, none⟩ = some (.int .u16 a0_8) := (blk_cell BK269.out 8).trans rfl
   have hfz8_0 := blk_frozen BK269.out 0
   have hfz8_1 := blk_frozen BK269.out 1
   have hfz8_2 := blk_frozen BK269.out 2
   have hfz8_3 := blk_frozen BK269.out 3
   have hfz8_4 := blk_frozen BK269.out 4
   have hfz8_5 := blk_frozen BK269.out 5
   have hfz8_6 := blk_frozen BK269.out 6
   have hfz8_7 := blk_frozen BK269.out 7
   have hfz8_8 := blk_frozen BK269.out 8
   go_wp2
   go_meet
   case rel => exact ⟨_, (false), (by first | rfl | (simp; done) | (simp [*]; done)), H', ⟨by first | omega | exact Nat.le_refl _⟩, ⟨by (with_reducible repeat (first | refine blk_drewN ?_ _ | refine blk_drew ?_ | refine blk_alloc ?_ _)); exact BK269.out⟩, ⟨by (with_reducible repeat (first | refine blk_drewN ?_ _ | refine blk_drew ?_ | refine blk_alloc ?_ _)); exact BK270.out⟩, ⟨by repeat (first | (with_reducible first | exact HB.out | apply below_alloc | apply pw_below_drewN | apply below_drew1 | refine below_set ?_ GE269.out | refine below_set ?_ GE270.out) | exact HB.out)⟩⟩
  ·rw [if_neg c6] at H
   have c6b0 : (a0_4 == (-1)) = false := beq_eq_false_iff_ne.mpr c6
   have c6b1 : (a0_4 != (-1)) = true := bne_iff_ne.mpr c6
   (first | rw [c6b0] | (simp only [i64_w, i32_w]; rw [c6b0]) | skip)
   have H' := Aside0.mk H
   clear H
   have hnb9 := NB269_270.out
   have hnc9 := NB270_269.out
   have hcz10_0 : w5.cell? ⟨gb269, 0, none⟩ = some (.int .u32 a0_0) := (blk_cell BK269.out 0).trans rfl
   have hcz10_1 : w5.cell? ⟨gb269, 1, none⟩ = some (.int .i64 a0_1) := (blk_cell BK269.out 1).trans rfl
   have hcz10_2 : w5.cell? ⟨gb269, 2, none⟩ = some (.int .u32 a0_2) := (blk_cell BK269.out 2).trans rfl
   have hcz10_3 : w5.cell? ⟨gb269, 3, none⟩ = some (.int .i64 a0_3) := (blk_cell BK269.out 3).trans rfl
   have hcz10_4 : w5.cell? ⟨gb269, 4, none⟩ = some (.int .i64 a0_4) := (blk_cell BK269.out 4).trans rfl
   have hcz10_5 : w5.cell? ⟨gb269, 5, none⟩ = some (.int .u16 a0_5) := (blk_cell BK269.out 5).trans rfl
   have hcz10_6 : w5.cell? ⟨gb269, 6, none⟩ = some (.int .u16 a0_6) := (blk_cell BK269.out 6).trans rfl
   have hcz10_7 : w5.cell? ⟨gb269, 7, none⟩ = some (.int .u16 a0_7) := (blk_cell BK269.out 7).trans rfl
   have hcz10_8 : w5.cell? ⟨gb269, 8, none⟩ = some (.int .u16 a0_8) := (blk_cell BK269.out 8).trans rfl
   have hfz10_0 := blk_frozen BK269.out 0
   have hfz10_1 := blk_frozen BK269.out 1
   have hfz10_2 := blk_frozen BK269.out 2
   have hfz10_3 := blk_frozen BK269.out 3
   have hfz10_4 := blk_frozen BK269.out 4
   have hfz10_5 := blk_frozen BK269.out 5
   have hfz10_6 := blk_frozen BK269.out 6
   have hfz10_7 := blk_frozen BK269.out 7
   have hfz10_8 := blk_frozen BK269.out 8
   have hcz11_0 : w5.cell? ⟨gb270, 0, none⟩ = some (.int .u32 a1_0) := (blk_cell BK270.out 0).trans rfl
   have hcz11_1 : w5.cell? ⟨gb270, 1, none⟩ = some (.int .u32 a1_1) := (blk_cell BK270.out 1).trans rfl
   have hcz11_2 : w5.cell? ⟨gb270, 2, none⟩ = some (.int .u8 a1_2) := (blk_cell BK270.out 2).trans rfl
   have hcz11_3 : w5.cell? ⟨gb270, 3, none⟩ = some (.int .u16 a1_3) := (blk_cell BK270.out 3).trans rfl
   have hcz11_4 : w5.cell? ⟨gb270, 4, none⟩ = some (.int .u16 a1_4) := (blk_cell BK270.out 4).trans rfl
   have hfz11_0 := blk_frozen BK270.out 0
   have hfz11_1 := blk_frozen BK270.out 1
   have hfz11_2 := blk_frozen BK270.out 2
   have hfz11_3 := blk_frozen BK270.out 3
   have hfz11_4 := blk_frozen BK270.out 4
   go_wp2
   go_meet
   case rel => exact ⟨_, ((a0_4 != (wrap64 (a1_2)))), (by first | rfl | (simp; done) | (simp [*]; done)), H', ⟨by first | omega | exact Nat.le_refl _⟩, ⟨by (with_reducible repeat (first | refine blk_drewN ?_ _ | refine blk_drew ?_ | refine blk_alloc ?_ _)); exact BK269.out⟩, ⟨by (with_reducible repeat (first | refine blk_drewN ?_ _ | refine blk_drew ?_ | refine blk_alloc ?_ _)); exact BK270.out⟩, ⟨by repeat (first | (with_reducible first | exact HB.out | apply below_alloc | apply pw_below_drewN | apply below_drew1 | refine below_set ?_ GE269.out | refine below_set ?_ GE270.out) | exact HB.out)⟩⟩
 case rest =>
  clear HC3
  try clear p2
  try clear c5
  try clear c6
  try clear c6b0
  try clear c6b1
  try clear p6
  try clear c7
  try clear c9
  try clear hcz10_0
  try clear hcz10_1
  try clear hcz10_2
  try clear hcz10_3
  try clear hcz10_4
  try clear hcz10_5
  try clear hcz10_6
  try clear hcz10_7
  try clear hcz10_8
  try clear hcz11_0
  try clear hcz11_1
  try clear hcz11_2
  try clear hcz11_3
  try clear hcz11_4
  try clear hcz8_0
  try clear hcz8_1
  try clear hcz8_2
  try clear hcz8_3
  try clear hcz8_4
  try clear hcz8_5
  try clear hcz8_6
  try clear hcz8_7
  try clear hcz8_8
  try clear hfz10_0
  try clear hfz10_1
  try clear hfz10_2
  try clear hfz10_3
  try clear hfz10_4
  try clear hfz10_5
  try clear hfz10_6
  try clear hfz10_7
  try clear hfz10_8
  try clear hfz11_0
  try clear hfz11_1
  try clear hfz11_2
  try clear hfz11_3
  try clear hfz11_4
  try clear hfz8_0
  try clear hfz8_1
  try clear hfz8_2
  try clear hfz8_3
  try clear hfz8_4
  try clear hfz8_5
  try clear hfz8_6
  try clear hfz8_7
  try clear hfz8_8
  obtain ⟨kq, x15_2, rfl, HA, HJ2, BK269, BK270, HB⟩ := hcut
  cases kq with
  | zero => exact absurd HA.out (by simp [crossbuckref04_Match.j0])
  | succ kj2 =>
   have H := HA.out
   clear HA
   simp only [crossbuckref04_Match.j0] at H
   by_cases c12 : x15_2 = true
   ·subst c12
    have H1 : (some false) = some r := by rw [if_pos rfl] at H; exact H
    clear H
    have H := H1
    clear H1
    obtain rfl := Option.some.inj H
    go_wp2
    go_ret
    exact ⟨by first | rfl | (simp [errW_none, errW_some] <;> rfl) | (simp [*, errW_none, errW_some] <;> rfl), by repeat (first | (with_reducible first | exact HB.out | apply below_alloc | apply pw_below_drewN | apply below_drew1 | refine below_set ?_ GE269.out | refine below_set ?_ GE270.out) | exact HB.out)⟩
   ·replace c12 := Bool.eq_false_iff.mpr c12
    subst c12
    have H1 : (if a1_3 < a0_5 then (crossbuckref04_Match.j1 kj2 true a0_0 a0_1 a0_2 a0_3 a0_4 a0_5 a0_6 a0_7 a0_8 a1_0 a1_1 a1_2 a1_3 a1_4) else (if a1_3 > a0_6 then (crossbuckref04_Match.j1 kj2 true a0_0 a0_1 a0_2 a0_3 a0_4 a0_5 a0_6 a0_7 a0_8 a1_0 a1_1 a1_2 a1_3 a1_4) else (if a1_4 < a0_7 then (crossbuckref04_Match.j1 kj2 true a0_0 a0_1 a0_2 a0_3 a0_4 a0_5 a0_6 a0_7 a0_8 a1_0 a1_1 a1_2 a1_3 a1_4) else (crossbuckref04_Match.j1 kj2 (decide (a1_4 > a0_8)) a0_0 a0_1 a0_2 a0_3 a0_4 a0_5 a0_6 a0_7 a0_8 a1_0 a1_1 a1_2 a1_3 a1_4)))) = some r := by rw [if_neg (show ¬ (false = true) by decide)] at H; exact H
    clear H
    have H := H1
    clear H1
    have HC13 := Aside0.mk H
    clear H
    go_upto_region 3 with (fail)
    go_cut [45] (fun v45 wc => ∃ (kq : Nat) (x45_12 : Bool), v45 = .bool x45_12 ∧ Aside0 (crossbuckref04_Match.j1 kq x45_12 a0_0 a0_1 a0_2 a0_3 a0_4 a0_5 a0_6 a0_7 a0_8 a1_0 a1_1 a1_2 a1_3 a1_4 = some r) ∧ Aside0 (kq ≤ kj2) ∧ Aside0 (wc.heap[gb269]? = some (.cells #[.int .u32 a0_0, .int .i64 a0_1, .int .u32 a0_2, .int .i64 a0_3, .int .i64 a0_4, .int .u16 a0_5, .int .u16 a0_6, .int .u16 a0_7, .int .u16 a0_8] 50 (0, 0))) ∧ Aside0 (wc.heap[gb270]? = some (.cells #[.int .u32 a1_0, .int .u32 a1_1, .int .u8 a1_2, .int .u16 a1_3, .int .u16 a1_4] 43 (0, 0))) ∧ Aside0 (Below w.heap.size w wc))
    case first =>
     have H := HC13.out
     clear HC13
     by_cases c14 : a1_3 < a0_5
     ·rw [if_pos c14] at H
      have c14b0 : decide (a1_3 < a0_5) = true := decide_eq_true c14
      clear c14
      (first | rw [c14b0] | (simp only [i64_w, i32_w]; rw [c14b0]) | skip)
      have H' := Aside0.mk H
      clear H
      have hnb15 := NB270_269.out
      have hnc15 := NB269_270.out
      have hcz16_0 : wc.cell? ⟨gb270, 0, none⟩ = some (.int .u32 a1_0) := (blk_cell BK270.out 0).trans rfl
      have hcz16_1 : wc.cell? ⟨gb270, 1, none⟩ = some (.int .u32 a1_1) := (blk_cell BK270.out 1).trans rfl
      have hcz16_2 : wc.cell? ⟨gb270, 2, none⟩ = some (.int .u8 a1_2) := (blk_cell BK270.out 2).trans rfl
      have hcz16_3 : wc.cell? ⟨gb270, 3, none⟩ = some (.int .u16 a1_3) := (blk_cell BK270.out 3).trans rfl
      have hcz16_4 : wc.cell? ⟨gb270, 4, none⟩ = some (.int .u16 a1_4) := (blk_cell BK270.out 4).trans rfl
      have hfz16_0 := blk_frozen BK270.out 0
      have hfz16_1 := blk_frozen BK270.out 1
      have hfz16_2 := blk_frozen BK270.out 2
      have hfz16_3 := blk_frozen BK270.out 3
      have hfz16_4 := blk_frozen BK270.out 4
      have hcz17_0 : wc.cell? ⟨gb269, 0, none⟩ = some (.int .u32 a0_0) := (blk_cell BK269.out 0).trans rfl
      have hcz17_1 : wc.cell? ⟨gb269, 1, none⟩ = some (.int .i64 a0_1) := (blk_cell BK269.out 1).trans rfl
      have hcz17_2 : wc.cell? ⟨gb269, 2, none⟩ = some (.int .u32 a0_2) := (blk_cell BK269.out 2).trans rfl
      have hcz17_3 : wc.cell? ⟨gb269, 3, none⟩ = some (.int .i64 a0_3) := (blk_cell BK269.out 3).trans rfl
      have hcz17_4 : wc.cell? ⟨gb269, 4, none⟩ = some (.int .i64 a0_4) := (blk_cell BK269.out 4).trans rfl
      have hcz17_5 : wc.cell? ⟨gb269, 5, none⟩ = some (.int .u16 a0_5) := (blk_cell BK269.out 5).trans rfl
      have hcz17_6 : wc.cell? ⟨gb269, 6, none⟩ = some (.int .u16 a0_6) := (blk_cell BK269.out 6).trans rfl
      have hcz17_7 : wc.cell? ⟨gb269, 7, none⟩ = some (.int .u16 a0_7) := (blk_cell BK269.out 7).trans rfl
      have hcz17_8 : wc.cell? ⟨gb269, 8, none⟩ = some (.int .u16 a0_8) := (blk_cell BK269.out 8).trans rfl
      have hfz17_0 := blk_frozen BK269.out 0
      have hfz17_1 := blk_frozen BK269.out 1
      have hfz17_2 := blk_frozen BK269.out 2
      have hfz17_3 := blk_frozen BK269.out 3
      have hfz17_4 := blk_frozen BK269.out 4
      have hfz17_5 := blk_frozen BK269.out 5
      have hfz17_6 := blk_frozen BK269.out 6
      have hfz17_7 := blk_frozen BK269.out 7
      have hfz17_8 := blk_frozen BK269.out 8
      go_wp2
      go_meet
      case rel => exact ⟨_, (true), (by first | rfl | (simp; done) | (simp [*]; done)), H', ⟨by have := HJ2.out; first | omega | exact Nat.le_refl _⟩, ⟨by (with_reducible repeat (first | refine blk_drewN ?_ _ | refine blk_drew ?_ | refine blk_alloc ?_ _)); exact BK269.out⟩, ⟨by (with_reducible repeat (first | refine blk_drewN ?_ _ | refine blk_drew ?_ | refine blk_alloc ?_ _)); exact BK270.out⟩, ⟨by repeat (first | (with_reducible first | exact HB.out | apply below_alloc | apply pw_below_drewN | apply below_drew1 | refine below_set ?_ GE269.out | refine below_set ?_ GE270.out) | exact HB.out)⟩⟩
     ·rw [if_neg c14] at H
      have c14b0 : decide (a1_3 < a0_5) = false := decide_eq_false c14
      clear c14
      (first | rw [c14b0] | (simp only [i64_w, i32_w]; rw [c14b0]) | skip)
      by_cases c18 : a1_3 > a0_6
      ·rw [if_pos c18] at H
       have c18b0 : decide (a0_6 < a1_3) = true := decide_eq_true c18
       clear c18
       have H' := Aside0.mk H
       clear H
       have hnb19 := NB270_269.out
       have hnc19 := NB269_270.out
       have hcz20_0 : wc.cell? ⟨gb270, 0, none⟩ = some (.int .u32 a1_0) := (blk_cell BK270.out 0).trans rfl
       have hcz20_1 : wc.cell? ⟨gb270, 1, none⟩ = some (.int .u32 a1_1) := (blk_cell BK270.out 1).trans rfl
       have hcz20_2 : wc.cell? ⟨gb270, 2, none⟩ = some (.int .u8 a1_2) := (blk_cell BK270.out 2).trans rfl
       have hcz20_3 : wc.cell? ⟨gb270, 3, none⟩ = some (.int .u16 a1_3) := (blk_cell BK270.out 3).trans rfl
       have hcz20_4 : wc.cell? ⟨gb270, 4, none⟩ = some (.int .u16 a1_4) := (blk_cell BK270.out 4).trans rfl
       have hfz20_0 := blk_frozen BK270.out 0
       have hfz20_1 := blk_frozen BK270.out 1
       have hfz20_2 := blk_frozen BK270.out 2
       have hfz20_3 := blk_frozen BK270.out 3
       have hfz20_4 := blk_frozen BK270.out 4
       have hcz21_0 : wc.cell? ⟨gb269, 0, none⟩ = some (.int .u32 a0_0) := (blk_cell BK269.out 0).trans rfl
       have hcz21_1 : wc.cell? ⟨gb269, 1, none⟩ = some (.int .i64 a0_1) := (blk_cell BK269.out 1).trans rfl
       have hcz21_2 : wc.cell? ⟨gb269, 2, none⟩ = some (.int .u32 a0_2) := (blk_cell BK269.out 2).trans rfl
       have hcz21_3 : wc.cell? ⟨gb269, 3, none⟩ = some (.int .i64 a0_3) := (blk_cell BK269.out 3).trans rfl
       have hcz21_4 : wc.cell? ⟨gb269, 4, none⟩ = some (.int .i64 a0_4) := (blk_cell BK269.out 4).trans rfl
       have hcz21_5 : wc.cell? ⟨gb269, 5, none⟩ = some (.int .u16 a0_5) := (blk_cell BK269.out 5).trans rfl
       have hcz21_6 : wc.cell? ⟨gb269, 6, none⟩ = some (.int .u16 a0_6) := (blk_cell BK269.out 6).trans rfl
       have hcz21_7 : wc.cell? ⟨gb269, 7, none⟩ = some (.int .u16 a0_7) := (blk_cell BK269.out 7).trans rfl
       have hcz21_8 : wc.cell? ⟨gb269, 8, none⟩ = some (.int .u16 a0_8) := (blk_cell BK269.out 8).trans rfl
       have hfz21_0 := blk_frozen BK269.out 0
       have hfz21_1 := blk_frozen BK269.out 1
       have hfz21_2 := blk_frozen BK269.out 2
       have hfz21_3 := blk_frozen BK269.out 3
       have hfz21_4 := blk_frozen BK269.out 4
       have hfz21_5 := blk_frozen BK269.out 5
       have hfz21_6 := blk_frozen BK269.out 6
       have hfz21_7 := blk_frozen BK269.out 7
       have hfz21_8 := blk_frozen BK269.out 8
       go_wp2
       go_meet
       case rel => exact ⟨_, (true), (by first | rfl | (simp; done) | (simp [*]; done)), H', ⟨by have := HJ2.out; first | omega | exact Nat.le_refl _⟩, ⟨by (with_reducible repeat (first | refine blk_drewN ?_ _ | refine blk_drew ?_ | refine blk_alloc ?_ _)); exact BK269.out⟩, ⟨by (with_reducible repeat (first | refine blk_drewN ?_ _ | refine blk_drew ?_ | refine blk_alloc ?_ _)); exact BK270.out⟩, ⟨by repeat (first | (with_reducible first | exact HB.out | apply below_alloc | apply pw_below_drewN | apply below_drew1 | refine below_set ?_ GE269.out | refine below_set ?_ GE270.out) | exact HB.out)⟩⟩
      ·rw [if_neg c18] at H
       have c18b0 : decide (a0_6 < a1_3) = false := decide_eq_false c18
       clear c18
       by_cases c22 : a1_4 < a0_7
       ·rw [if_pos c22] at H
        have c22b0 : decide (a1_4 < a0_7) = true := decide_eq_true c22
        clear c22
        have H' := Aside0.mk H
        clear H
        have hnb23 := NB270_269.out
        have hnc23 := NB269_270.out
        have hcz24_0 : wc.cell? ⟨gb270, 0, none⟩ = some (.int .u32 a1_0) := (blk_cell BK270.out 0).trans rfl
        have hcz24_1 : wc.cell? ⟨gb270, 1, none⟩ = some (.int .u32 a1_1) := (blk_cell BK270.out 1).trans rfl
        have hcz24_2 : wc.cell? ⟨gb270, 2, none⟩ = some (.int .u8 a1_2) := (blk_cell BK270.out 2).trans rfl
        have hcz24_3 : wc.cell? ⟨gb270, 3, none⟩ = some (.int .u16 a1_3) := (blk_cell BK270.out 3).trans rfl
        have hcz24_4 : wc.cell? ⟨gb270, 4, none⟩ = some (.int .u16 a1_4) := (blk_cell BK270.out 4).trans rfl
        have hfz24_0 := blk_frozen BK270.out 0
        have hfz24_1 := blk_frozen BK270.out 1
        have hfz24_2 := blk_frozen BK270.out 2
        have hfz24_3 := blk_frozen BK270.out 3
        have hfz24_4 := blk_frozen BK270.out 4
        have hcz25_0 : wc.cell? ⟨gb269, 0, none⟩ = some (.int .u32 a0_0) := (blk_cell BK269.out 0).trans rfl
        have hcz25_1 : wc.cell? ⟨gb269, 1, none⟩ = some (.int .i64 a0_1) := (blk_cell BK269.out 1).trans rfl
        have hcz25_2 : wc.cell? ⟨gb269, 2, none⟩ = some (.int .u32 a0_2) := (blk_cell BK269.out 2).trans rfl
        have hcz25_3 : wc.cell? ⟨gb269, 3, none⟩ = some (.int .i64 a0_3) := (blk_cell BK269.out 3).trans rfl
        have hcz25_4 : wc.cell? ⟨gb269, 4, none⟩ = some (.int .i64 a0_4) := (blk_cell BK269.out 4).trans rfl
        have hcz25_5 : wc.cell? ⟨gb269, 5, none⟩ = some (.int .u16 a0_5) := (blk_cell BK269.out 5).trans rfl
        have hcz25_6 : wc.cell? ⟨gb269, 6, none⟩ = some (.int .u16 a0_6) := (blk_cell BK269.out 6).trans rfl
        have hcz25_7 : wc.cell? ⟨gb269, 7, none⟩ = some (.int .u16 a0_7) := (blk_cell BK269.out 7).trans rfl
        have hcz25_8 : wc.cell? ⟨gb269, 8, none⟩ = some (.int .u16 a0_8) := (blk_cell BK269.out 8).trans rfl
        have hfz25_0 := blk_frozen BK269.out 0
        have hfz25_1 := blk_frozen BK269.out 1
        have hfz25_2 := blk_frozen BK269.out 2
        have hfz25_3 := blk_frozen BK269.out 3
        have hfz25_4 := blk_frozen BK269.out 4
        have hfz25_5 := blk_frozen BK269.out 5
        have hfz25_6 := blk_frozen BK269.out 6
        have hfz25_7 := blk_frozen BK269.out 7
        have hfz25_8 := blk_frozen BK269.out 8
        go_wp2
        go_meet
        case rel => exact ⟨_, (true), (by first | rfl | (simp; done) | (simp [*]; done)), H', ⟨by have := HJ2.out; first | omega | exact Nat.le_refl _⟩, ⟨by (with_reducible repeat (first | refine blk_drewN ?_ _ | refine blk_drew ?_ | refine blk_alloc ?_ _)); exact BK269.out⟩, ⟨by (with_reducible repeat (first | refine blk_drewN ?_ _ | refine blk_drew ?_ | refine blk_alloc ?_ _)); exact BK270.out⟩, ⟨by repeat (first | (with_reducible first | exact HB.out | apply below_alloc | apply pw_below_drewN | apply below_drew1 | refine below_set ?_ GE269.out | refine below_set ?_ GE270.out) | exact HB.out)⟩⟩
       ·rw [if_neg c22] at H
        have c22b0 : decide (a1_4 < a0_7) = false := decide_eq_false c22
        clear c22
        have H' := Aside0.mk H
        clear H
        have hnb26 := NB270_269.out
        have hnc26 := NB269_270.out
        have hcz27_0 : wc.cell? ⟨gb270, 0, none⟩ = some (.int .u32 a1_0) := (blk_cell BK270.out 0).trans rfl
        have hcz27_1 : wc.cell? ⟨gb270, 1, none⟩ = some (.int .u32 a1_1) := (blk_cell BK270.out 1).trans rfl
        have hcz27_2 : wc.cell? ⟨gb270, 2, none⟩ = some (.int .u8 a1_2) := (blk_cell BK270.out 2).trans rfl
        have hcz27_3 : wc.cell? ⟨gb270, 3, none⟩ = some (.int .u16 a1_3) := (blk_cell BK270.out 3).trans rfl
        have hcz27_4 : wc.cell? ⟨gb270, 4, none⟩ = some (.int .u16 a1_4) := (blk_cell BK270.out 4).trans rfl
        have hfz27_0 := blk_frozen BK270.out 0
        have hfz27_1 := blk_frozen BK270.out 1
        have hfz27_2 := blk_frozen BK270.out 2
        have hfz27_3 := blk_frozen BK270.out 3
        have hfz27_4 := blk_frozen BK270.out 4
        have hcz28_0 : wc.cell? ⟨gb269, 0, none⟩ = some (.int .u32 a0_0) := (blk_cell BK269.out 0).trans rfl
        have hcz28_1 : wc.cell? ⟨gb269, 1, none⟩ = some (.int .i64 a0_1) := (blk_cell BK269.out 1).trans rfl
        have hcz28_2 : wc.cell? ⟨gb269, 2, none⟩ = some (.int .u32 a0_2) := (blk_cell BK269.out 2).trans rfl
        have hcz28_3 : wc.cell? ⟨gb269, 3, none⟩ = some (.int .i64 a0_3) := (blk_cell BK269.out 3).trans rfl
        have hcz28_4 : wc.cell? ⟨gb269, 4, none⟩ = some (.int .i64 a0_4) := (blk_cell BK269.out 4).trans rfl
        have hcz28_5 : wc.cell? ⟨gb269, 5, none⟩ = some (.int .u16 a0_5) := (blk_cell BK269.out 5).trans rfl
        have hcz28_6 : wc.cell? ⟨gb269, 6, none⟩ = some (.int .u16 a0_6) := (blk_cell BK269.out 6).trans rfl
        have hcz28_7 : wc.cell? ⟨gb269, 7, none⟩ = some (.int .u16 a0_7) := (blk_cell BK269.out 7).trans rfl
        have hcz28_8 : wc.cell? ⟨gb269, 8, none⟩ = some (.int .u16 a0_8) := (blk_cell BK269.out 8).trans rfl
        have hfz28_0 := blk_frozen BK269.out 0
        have hfz28_1 := blk_frozen BK269.out 1
        have hfz28_2 := blk_frozen BK269.out 2
        have hfz28_3 := blk_frozen BK269.out 3
        have hfz28_4 := blk_frozen BK269.out 4
        have hfz28_5 := blk_frozen BK269.out 5
        have hfz28_6 := blk_frozen BK269.out 6
        have hfz28_7 := blk_frozen BK269.out 7
        have hfz28_8 := blk_frozen BK269.out 8
        go_wp2
        go_meet
        case rel => exact ⟨_, (decide (a1_4 > a0_8)), (by first | rfl | (simp; done) | (simp [*]; done)), H', ⟨by have := HJ2.out; first | omega | exact Nat.le_refl _⟩, ⟨by (with_reducible repeat (first | refine blk_drewN ?_ _ | refine blk_drew ?_ | refine blk_alloc ?_ _)); exact BK269.out⟩, ⟨by (with_reducible repeat (first | refine blk_drewN ?_ _ | refine blk_drew ?_ | refine blk_alloc ?_ _)); exact BK270.out⟩, ⟨by repeat (first | (with_reducible first | exact HB.out | apply below_alloc | apply pw_below_drewN | apply below_drew1 | refine below_set ?_ GE269.out | refine below_set ?_ GE270.out) | exact HB.out)⟩⟩
    case rest =>
     clear HC13
     try clear c1
     try clear c2
     try clear p2
     try clear c5
     try clear c6
     try clear c6b0
     try clear c6b1
     try clear p6
     try clear c7
     try clear c9
     try clear c12
     try clear c14
     try clear c14b0
     try clear c15
     try clear c18
     try clear c18b0
     try clear c19
     try clear c22
     try clear c22b0
     try clear c23
     try clear c26
     try clear hcz10_0
     try clear hcz10_1
     try clear hcz10_2
     try clear hcz10_3
     try clear hcz10_4
     try clear hcz10_5
     try clear hcz10_6
     try clear hcz10_7
     try clear hcz10_8
     try clear hcz11_0
     try clear hcz11_1
     try clear hcz11_2
     try clear hcz11_3
     try clear hcz11_4
     try clear hcz16_0
     try clear hcz16_1
     try clear hcz16_2
     try clear hcz16_3
     try clear hcz16_4
     try clear hcz17_0
     try clear hcz17_1
     try clear hcz17_2
     try clear hcz17_3
     try clear hcz17_4
     try clear hcz17_5
     try clear hcz17_6
     try clear hcz17_7
     try clear hcz17_8
     try clear hcz20_0
     try clear hcz20_1
     try clear hcz20_2
     try clear hcz20_3
     try clear hcz20_4
     try clear hcz21_0
     try clear hcz21_1
     try clear hcz21_2
     try clear hcz21_3
     try clear hcz21_4
     try clear hcz21_5
     try clear hcz21_6
     try clear hcz21_7
     try clear hcz21_8
     try clear hcz24_0
     try clear hcz24_1
     try clear hcz24_2
     try clear hcz24_3
     try clear hcz24_4
     try clear hcz25_0
     try clear hcz25_1
     try clear hcz25_2
     try clear hcz25_3
     try clear hcz25_4
     try clear hcz25_5
     try clear hcz25_6
     try clear hcz25_7
     try clear hcz25_8
     try clear hcz27_0
     try clear hcz27_1
     try clear hcz27_2
     try clear hcz27_3
     try clear hcz27_4
     try clear hcz28_0
     try clear hcz28_1
     try clear hcz28_2
     try clear hcz28_3
     try clear hcz28_4
     try clear hcz28_5
     try clear hcz28_6
     try clear hcz28_7
     try clear hcz28_8
     try clear hcz8_0
     try clear hcz8_1
     try clear hcz8_2
     try clear hcz8_3
     try clear hcz8_4
     try clear hcz8_5
     try clear hcz8_6
     try clear hcz8_7
     try clear hcz8_8
     try clear hfz10_0
     try clear hfz10_1
     try clear hfz10_2
     try clear hfz10_3
     try clear hfz10_4
     try clear hfz10_5
     try clear hfz10_6
     try clear hfz10_7
     try clear hfz10_8
     try clear hfz11_0
     try clear hfz11_1
     try clear hfz11_2
     try clear hfz11_3
     try clear hfz11_4
     try clear hfz16_0
     try clear hfz16_1
     try clear hfz16_2
     try clear hfz16_3
     try clear hfz16_4
     try clear hfz17_0
     try clear hfz17_1
     try clear hfz17_2
     try clear hfz17_3
     try clear hfz17_4
     try clear hfz17_5
     try clear hfz17_6
     try clear hfz17_7
     try clear hfz17_8
     try clear hfz20_0
     try clear hfz20_1
     try clear hfz20_2
     try clear hfz20_3
     try clear hfz20_4
     try clear hfz21_0
     try clear hfz21_1
     try clear hfz21_2
     try clear hfz21_3
     try clear hfz21_4
     try clear hfz21_5
     try clear hfz21_6
     try clear hfz21_7
     try clear hfz21_8
     try clear hfz24_0
     try clear hfz24_1
     try clear hfz24_2
     try clear hfz24_3
     try clear hfz24_4
     try clear hfz25_0
     try clear hfz25_1
     try clear hfz25_2
     try clear hfz25_3
     try clear hfz25_4
     try clear hfz25_5
     try clear hfz25_6
     try clear hfz25_7
     try clear hfz25_8
     try clear hfz27_0
     try clear hfz27_1
     try clear hfz27_2
     try clear hfz27_3
     try clear hfz27_4
     try clear hfz28_0
     try clear hfz28_1
     try clear hfz28_2
     try clear hfz28_3
     try clear hfz28_4
     try clear hfz28_5
     try clear hfz28_6
     try clear hfz28_7
     try clear hfz28_8
     try clear hfz8_0
     try clear hfz8_1
     try clear hfz8_2
     try clear hfz8_3
     try clear hfz8_4
     try clear hfz8_5
     try clear hfz8_6
     try clear hfz8_7
     try clear hfz8_8
     try clear p2
     try clear p6
     obtain ⟨kq, x45_12, rfl, HA, HJ12, BK269, BK270, HB⟩ := hcut
     cases kq with
     | zero => exact absurd HA.out (by simp [crossbuckref04_Match.j1])
     | succ kj12 =>
      have H := HA.out
      clear HA
      simp only [crossbuckref04_Match.j1] at H
      by_cases c29 : x45_12 = true
      ·subst c29
       have H1 : (some false) = some r := by rw [if_pos rfl] at H; exact H
       clear H
       have H := H1
       clear H1
       obtain rfl := Option.some.inj H
       go_wp2
       go_ret
       exact ⟨by first | rfl | (simp [errW_none, errW_some] <;> rfl) | (simp [*, errW_none, errW_some] <;> rfl), by repeat (first | (with_reducible first | exact HB.out | apply below_alloc | apply pw_below_drewN | apply below_drew1 | refine below_set ?_ GE269.out | refine below_set ?_ GE270.out) | exact HB.out)⟩
      ·replace c29 := Bool.eq_false_iff.mpr c29
       subst c29
       have H1 : ((crossbuckref03_Has.f kj12 a0_0 a0_1 a1_0).bind fun t271 => (if t271 = true then ((crossbuckref03_Has.f kj12 a0_2 a0_3 a1_1).bind fun t272 => (some t272)) else (some false))) = some r := by rw [if_neg (show ¬ (false = true) by decide)] at H; exact H
       clear H
       have H := H1
       clear H1
       replace H := Option.bind_eq_some_iff.mp H
       obtain ⟨t271, A300, H⟩ := H
       replace H : (if t271 = true then ((crossbuckref03_Has.f kj12 a0_2 a0_3 a1_1).bind fun t272 => (some t272)) else (some false)) = some r := H
       have A30 := Aside0.mk A300
       clear A300
       by_cases c31 : t271 = true
       ·subst c31
        have H1 : ((crossbuckref03_Has.f kj12 a0_2 a0_3 a1_1).bind fun t272 => (some t272)) = some r := by rw [if_pos rfl] at H; exact H
        clear H
        have H := H1
        clear H1
        replace H := Option.bind_eq_some_iff.mp H
        obtain ⟨t272, A320, H⟩ := H
        replace H : (some t272) = some r := H
        have A32 := Aside0.mk A320
        clear A320
        obtain rfl := Option.some.inj H
        have hnb33 := NB269_270.out
        have hnc33 := NB270_269.out
        have hcz34_0 : wc.cell? ⟨gb269, 0, none⟩ = some (.int .u32 a0_0) := (blk_cell BK269.out 0).trans rfl
        have hcz34_1 : wc.cell? ⟨gb269, 1, none⟩ = some (.int .i64 a0_1) := (blk_cell BK269.out 1).trans rfl
        have hcz34_2 : wc.cell? ⟨gb269, 2, none⟩ = some (.int .u32 a0_2) := (blk_cell BK269.out 2).trans rfl
        have hcz34_3 : wc.cell? ⟨gb269, 3, none⟩ = some (.int .i64 a0_3) := (blk_cell BK269.out 3).trans rfl
        have hcz34_4 : wc.cell? ⟨gb269, 4, none⟩ = some (.int .i64 a0_4) := (blk_cell BK269.out 4).trans rfl
        have hcz34_5 : wc.cell? ⟨gb269, 5, none⟩ = some (.int .u16 a0_5) := (blk_cell BK269.out 5).trans rfl
        have hcz34_6 : wc.cell? ⟨gb269, 6, none⟩ = some (.int .u16 a0_6) := (blk_cell BK269.out 6).trans rfl
        have hcz34_7 : wc.cell? ⟨gb269, 7, none⟩ = some (.int .u16 a0_7) := (blk_cell BK269.out 7).trans rfl
        have hcz34_8 : wc.cell? ⟨gb269, 8, none⟩ = some (.int .u16 a0_8) := (blk_cell BK269.out 8).trans rfl
        have hfz34_0 := blk_frozen BK269.out 0
        have hfz34_1 := blk_frozen BK269.out 1
        have hfz34_2 := blk_frozen BK269.out 2
        have hfz34_3 := blk_frozen BK269.out 3
        have hfz34_4 := blk_frozen BK269.out 4
        have hfz34_5 := blk_frozen BK269.out 5
        have hfz34_6 := blk_frozen BK269.out 6
        have hfz34_7 := blk_frozen BK269.out 7
        have hfz34_8 := blk_frozen BK269.out 8
        have hcz35_0 : wc.cell? ⟨gb270, 0, none⟩ = some (.int .u32 a1_0) := (blk_cell BK270.out 0).trans rfl
        have hcz35_1 : wc.cell? ⟨gb270, 1, none⟩ = some (.int .u32 a1_1) := (blk_cell BK270.out 1).trans rfl
        have hcz35_2 : wc.cell? ⟨gb270, 2, none⟩ = some (.int .u8 a1_2) := (blk_cell BK270.out 2).trans rfl
        have hcz35_3 : wc.cell? ⟨gb270, 3, none⟩ = some (.int .u16 a1_3) := (blk_cell BK270.out 3).trans rfl
        have hcz35_4 : wc.cell? ⟨gb270, 4, none⟩ = some (.int .u16 a1_4) := (blk_cell BK270.out 4).trans rfl
        have hfz35_0 := blk_frozen BK270.out 0
        have hfz35_1 := blk_frozen BK270.out 1
        have hfz35_2 := blk_frozen BK270.out 2
        have hfz35_3 := blk_frozen BK270.out 3
        have hfz35_4 := blk_frozen BK270.out 4
        go_wp2_with (first | ((with_reducible refine gate_callee (f := 66) rfl ?_); refine goesL_ (some 50) rfl rfl Try.func66 (by kernel_rfl) rfl #[.agg #[.int .u32 a0_0, .int .i64 a0_1], .int .u32 a1_0] rfl (by (try simp only [List.map_toArray, List.map_cons, List.map_nil]); first | done | rfl | (simp only [List.length_drop, List.length_take]; rfl)) ?_; (with_reducible refine (crossbuckref03_Has.calls kj12 a0_0 a0_1 a1_0 true _ A30.out).mono ?_); rintro e w36 ⟨rfl, hb⟩; refine ⟨_, rfl, ?_⟩; have n0_ := Aside0.mk (blk_below (g := gb269) (o := .cells #[.int .u32 a0_0, .int .i64 a0_1, .int .u32 a0_2, .int .i64 a0_3, .int .i64 a0_4, .int .u16 a0_5, .int .u16 a0_6, .int .u16 a0_7, .int .u16 a0_8] 50 (0, 0)) (by (with_reducible repeat (first | refine blk_drewN ?_ _ | refine blk_drew ?_ | refine blk_alloc ?_ _)); exact BK269.out) hb); have n1_ := Aside0.mk (blk_below (g := gb270) (o := .cells #[.int .u32 a1_0, .int .u32 a1_1, .int .u8 a1_2, .int .u16 a1_3, .int .u16 a1_4] 43 (0, 0)) (by (with_reducible repeat (first | refine blk_drewN ?_ _ | refine blk_drew ?_ | refine blk_alloc ?_ _)); exact BK270.out) hb); have n2_ := Aside0.mk (below_step (by repeat (first | (with_reducible first | exact HB.out | apply below_alloc | apply pw_below_drewN | apply below_drew1 | refine below_set ?_ GE269.out | refine below_set ?_ GE270.out) | exact HB.out)) hb); clear BK269; clear BK270; clear HB; have BK269 := n0_; have BK270 := n1_; have HB := n2_; clear n0_ n1_ n2_; (try clear hb); (try clear hb2); (try clear hk); (try clear hi); have hcz37_0 : w36.cell? ⟨gb269, 0, none⟩ = some (.int .u32 a0_0) := (blk_cell BK269.out 0).trans rfl; have hcz37_1 : w36.cell? ⟨gb269, 1, none⟩ = some (.int .i64 a0_1) := (blk_cell BK269.out 1).trans rfl; have hcz37_2 : w36.cell? ⟨gb269, 2, none⟩ = some (.int .u32 a0_2) := (blk_cell BK269.out 2).trans rfl; have hcz37_3 : w36.cell? ⟨gb269, 3, none⟩ = some (.int .i64 a0_3) := (blk_cell BK269.out 3).trans rfl; have hcz37_4 : w36.cell? ⟨gb269, 4, none⟩ = some (.int .i64 a0_4) := (blk_cell BK269.out 4).trans rfl; have hcz37_5 : w36.cell? ⟨gb269, 5, none⟩ = some (.int .u16 a0_5) := (blk_cell BK269.out 5).trans rfl; have hcz37_6 : w36.cell? ⟨gb269, 6, none⟩ = some (.int .u16 a0_6) := (blk_cell BK269.out 6).trans rfl; have hcz37_7 : w36.cell? ⟨gb269, 7, none⟩ = some (.int .u16 a0_7) := (blk_cell BK269.out 7).trans rfl; have hcz37_8 : w36.cell? ⟨gb269, 8, none⟩ = some (.int .u16 a0_8) := (blk_cell BK269.out 8).trans rfl; have hfz37_0 := blk_frozen BK269.out 0; have hfz37_1 := blk_frozen BK269.out 1; have hfz37_2 := blk_frozen BK269.out 2; have hfz37_3 := blk_frozen BK269.out 3; have hfz37_4 := blk_frozen BK269.out 4; have hfz37_5 := blk_frozen BK269.out 5; have hfz37_6 := blk_frozen BK269.out 6; have hfz37_7 := blk_frozen BK269.out 7; have hfz37_8 := blk_frozen BK269.out 8; have hcz38_0 : w36.cell? ⟨gb270, 0, none⟩ = some (.int .u32 a1_0) := (blk_cell BK270.out 0).trans rfl; have hcz38_1 : w36.cell? ⟨gb270, 1, none⟩ = some (.int .u32 a1_1) := (blk_cell BK270.out 1).trans rfl; have hcz38_2 : w36.cell? ⟨gb270, 2, none⟩ = some (.int .u8 a1_2) := (blk_cell BK270.out 2).trans rfl; have hcz38_3 : w36.cell? ⟨gb270, 3, none⟩ = some (.int .u16 a1_3) := (blk_cell BK270.out 3).trans rfl; have hcz38_4 : w36.cell? ⟨gb270, 4, none⟩ = some (.int .u16 a1_4) := (blk_cell BK270.out 4).trans rfl; have hfz38_0 := blk_frozen BK270.out 0; have hfz38_1 := blk_frozen BK270.out 1; have hfz38_2 := blk_frozen BK270.out 2; have hfz38_3 := blk_frozen BK270.out 3; have hfz38_4 := blk_frozen BK270.out 4) | (go_at_call 66; (with_reducible refine (crossbuckref03_Has.calls kj12 a0_2 a0_3 a1_1 t272 _ A32.out).mono ?_); rintro e w39 ⟨rfl, hb⟩; have n0_ := Aside0.mk (blk_below (g := gb269) (o := .cells #[.int .u32 a0_0, .int .i64 a0_1, .int .u32 a0_2, .int .i64 a0_3, .int .i64 a0_4, .int .u16 a0_5, .int .u16 a0_6, .int .u16 a0_7, .int .u16 a0_8] 50 (0, 0)) (by (with_reducible repeat (first | refine blk_drewN ?_ _ | refine blk_drew ?_ | refine blk_alloc ?_ _)); exact BK269.out) hb); have n1_ := Aside0.mk (blk_below (g := gb270) (o := .cells #[.int .u32 a1_0, .int .u32 a1_1, .int .u8 a1_2, .int .u16 a1_3, .int .u16 a1_4] 43 (0, 0)) (by (with_reducible repeat (first | refine blk_drewN ?_ _ | refine blk_drew ?_ | refine blk_alloc ?_ _)); exact BK270.out) hb); have n2_ := Aside0.mk (below_step (by repeat (first | (with_reducible first | exact HB.out | apply below_alloc | apply pw_below_drewN | apply below_drew1 | refine below_set ?_ GE269.out | refine below_set ?_ GE270.out) | exact HB.out)) hb); clear BK269; clear BK270; clear HB; have BK269 := n0_; have BK270 := n1_; have HB := n2_; clear n0_ n1_ n2_; (try clear hb); (try clear hb2); (try clear hk); (try clear hi)))
        go_ret
        exact ⟨by first | rfl | (simp [errW_none, errW_some] <;> rfl) | (simp [*, errW_none, errW_some] <;> rfl), by repeat (first | (with_reducible first | exact HB.out | apply below_alloc | apply pw_below_drewN | apply below_drew1 | refine below_set ?_ GE269.out | refine below_set ?_ GE270.out) | exact HB.out)⟩
       ·replace c31 := Bool.eq_false_iff.mpr c31
        subst c31
        have H1 : (some false) = some r := by rw [if_neg (show ¬ (false = true) by decide)] at H; exact H
        clear H
        have H := H1
        clear H1
        obtain rfl := Option.some.inj H
        have hnb40 := NB269_270.out
        have hnc40 := NB270_269.out
        have hcz41_0 : wc.cell? ⟨gb269, 0, none⟩ = some (.int .u32 a0_0) := (blk_cell BK269.out 0).trans rfl
        have hcz41_1 : wc.cell? ⟨gb269, 1, none⟩ = some (.int .i64 a0_1) := (blk_cell BK269.out 1).trans rfl
        have hcz41_2 : wc.cell? ⟨gb269, 2, none⟩ = some (.int .u32 a0_2) := (blk_cell BK269.out 2).trans rfl
        have hcz41_3 : wc.cell? ⟨gb269, 3, none⟩ = some (.int .i64 a0_3) := (blk_cell BK269.out 3).trans rfl
        have hcz41_4 : wc.cell? ⟨gb269, 4, none⟩ = some (.int .i64 a0_4) := (blk_cell BK269.out 4).trans rfl
        have hcz41_5 : wc.cell? ⟨gb269, 5, none⟩ = some (.int .u16 a0_5) := (blk_cell BK269.out 5).trans rfl
        have hcz41_6 : wc.cell? ⟨gb269, 6, none⟩ = some (.int .u16 a0_6) := (blk_cell BK269.out 6).trans rfl
        have hcz41_7 : wc.cell? ⟨gb269, 7, none⟩ = some (.int .u16 a0_7) := (blk_cell BK269.out 7).trans rfl
        have hcz41_8 : wc.cell? ⟨gb269, 8, none⟩ = some (.int .u16 a0_8) := (blk_cell BK269.out 8).trans rfl
        have hfz41_0 := blk_frozen BK269.out 0
        have hfz41_1 := blk_frozen BK269.out 1
        have hfz41_2 := blk_frozen BK269.out 2
        have hfz41_3 := blk_frozen BK269.out 3
        have hfz41_4 := blk_frozen BK269.out 4
        have hfz41_5 := blk_frozen BK269.out 5
        have hfz41_6 := blk_frozen BK269.out 6
        have hfz41_7 := blk_frozen BK269.out 7
        have hfz41_8 := blk_frozen BK269.out 8
        have hcz42_0 : wc.cell? ⟨gb270, 0, none⟩ = some (.int .u32 a1_0) := (blk_cell BK270.out 0).trans rfl
        have hcz42_1 : wc.cell? ⟨gb270, 1, none⟩ = some (.int .u32 a1_1) := (blk_cell BK270.out 1).trans rfl
        have hcz42_2 : wc.cell? ⟨gb270, 2, none⟩ = some (.int .u8 a1_2) := (blk_cell BK270.out 2).trans rfl
        have hcz42_3 : wc.cell? ⟨gb270, 3, none⟩ = some (.int .u16 a1_3) := (blk_cell BK270.out 3).trans rfl
        have hcz42_4 : wc.cell? ⟨gb270, 4, none⟩ = some (.int .u16 a1_4) := (blk_cell BK270.out 4).trans rfl
        have hfz42_0 := blk_frozen BK270.out 0
        have hfz42_1 := blk_frozen BK270.out 1
        have hfz42_2 := blk_frozen BK270.out 2
        have hfz42_3 := blk_frozen BK270.out 3
        have hfz42_4 := blk_frozen BK270.out 4
        go_wp2_with (first | ((with_reducible refine gate_callee (f := 66) rfl ?_); refine goesL_ (some 50) rfl rfl Try.func66 (by kernel_rfl) rfl #[.agg #[.int .u32 a0_0, .int .i64 a0_1], .int .u32 a1_0] rfl (by (try simp only [List.map_toArray, List.map_cons, List.map_nil]); first | done | rfl | (simp only [List.length_drop, List.length_take]; rfl)) ?_; (with_reducible refine (crossbuckref03_Has.calls kj12 a0_0 a0_1 a1_0 false _ A30.out).mono ?_); rintro e w43 ⟨rfl, hb⟩; refine ⟨_, rfl, ?_⟩; have n0_ := Aside0.mk (blk_below (g := gb269) (o := .cells #[.int .u32 a0_0, .int .i64 a0_1, .int .u32 a0_2, .int .i64 a0_3, .int .i64 a0_4, .int .u16 a0_5, .int .u16 a0_6, .int .u16 a0_7, .int .u16 a0_8] 50 (0, 0)) (by (with_reducible repeat (first | refine blk_drewN ?_ _ | refine blk_drew ?_ | refine blk_alloc ?_ _)); exact BK269.out) hb); have n1_ := Aside0.mk (blk_below (g := gb270) (o := .cells #[.int .u32 a1_0, .int .u32 a1_1, .int .u8 a1_2, .int .u16 a1_3, .int .u16 a1_4] 43 (0, 0)) (by (with_reducible repeat (first | refine blk_drewN ?_ _ | refine blk_drew ?_ | refine blk_alloc ?_ _)); exact BK270.out) hb); have n2_ := Aside0.mk (below_step (by repeat (first | (with_reducible first | exact HB.out | apply below_alloc | apply pw_below_drewN | apply below_drew1 | refine below_set ?_ GE269.out | refine below_set ?_ GE270.out) | exact HB.out)) hb); clear BK269; clear BK270; clear HB; have BK269 := n0_; have BK270 := n1_; have HB := n2_; clear n0_ n1_ n2_; (try clear hb); (try clear hb2); (try clear hk); (try clear hi)))
        go_ret
        exact ⟨by first | rfl | (simp [errW_none, errW_some] <;> rfl) | (simp [*, errW_none, errW_some] <;> rfl), by repeat (first | (with_reducible first | exact HB.out | apply below_alloc | apply pw_below_drewN | apply below_drew1 | refine below_set ?_ GE269.out | refine below_set ?_ GE270.out) | exact HB.out)⟩

end Go.Proofs.Ytdemogdagemagaa.PTr
