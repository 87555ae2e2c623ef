-- Written by wip/myprint.py (this session's own driver); Lean checks it.
import Derived.Test.YtbnjbjjbfbbdcaaPAllx0
import Derived.Test.YtbnjbjjbfbbdcaaPAllx6
import Derived.Test.YtbnjbjjbfbbdcaaPAllx12
import Derived.Test.YtbnjbjjbfbbdcaaPAllx21
import Derived.Test.YtbnjbjjbfbbdcaaPAllx22
namespace Go.Proofs.Ytbnjbjjbfbbdcaa.PAll
open Go.RowKit Go.Proofs.YtbnjbjjbfbbdcaaW.PrintWords Go.Proofs.YtbnjbjjbfbbdcaaW.PrintLast Go.Proofs.YtbnjbjjbfbbdcaaW.PrintMore
attribute [local go_sem] max2_int min2_int max_two min_two max_three min_three max_four min_four   -- for this text's walks alone
set_option linter.unusedVariables false
set_option linter.unusedSimpArgs false

/-! ### region_Part: function 29 -/
def region_Part.j0 : Nat → Bool → Int → Int → Int → Int → Int → Int → Int → Int → Int → Int → Int → Option (Int × Int × Int × Int × Int × Int × Int × Int × Int × Bool)
  | 0, _, _, _, _, _, _, _, _, _, _, _, _ => none
  | k + 1, x12, x159000, x159001, x159002, x159003, x159004, x159005, x159006, x159007, x159008, x163000, x163001 => if x12 = true then (some (0, 0, 0, 0, 0, 0, 0, 0, 0, false)) else ((cidr_Within.f x163000 x163001 x159000 x159001).bind fun t165 => (if t165 = true then (some (x163000, x163001, x159002, x159003, x159004, x159005, x159006, x159007, x159008, true)) else (some (x159000, x159001, x159002, x159003, x159004, x159005, x159006, x159007, x159008, true))))
def region_Part.f (k : Nat) (a0 : Int) (a1 : Int) (a2_0 : Int) (a2_1 : Int) (a2_2 : Int) (a2_3 : Int) (a2_4 : Int) (a2_5 : Int) (a2_6 : Int) (a2_7 : Int) (a2_8 : Int) : Option (Int × Int × Int × Int × Int × Int × Int × Int × Int × Bool) := (region_Prefix.f a0 a1).bind fun bt160 => (if a1 < 0 then (region_Part.j0 k true a2_0 a2_1 a2_2 a2_3 a2_4 a2_5 a2_6 a2_7 a2_8 bt160.1 bt160.2) else ((region_Count.f a0).bind fun t163 => (if a1 ≥ t163 then (region_Part.j0 k true a2_0 a2_1 a2_2 a2_3 a2_4 a2_5 a2_6 a2_7 a2_8 bt160.1 bt160.2) else ((cidr_Meet.f bt160.1 bt160.2 a2_0 a2_1).bind fun t164 => (region_Part.j0 k (!t164) a2_0 a2_1 a2_2 a2_3 a2_4 a2_5 a2_6 a2_7 a2_8 bt160.1 bt160.2)))))
theorem region_Part.mono_l : ∀ k, (∀ y0 y1 y2 y3 y4 y5 y6 y7 y8 y9 y10 y11, LeO (region_Part.j0 k y0 y1 y2 y3 y4 y5 y6 y7 y8 y9 y10 y11) (region_Part.j0 (k + 1) y0 y1 y2 y3 y4 y5 y6 y7 y8 y9 y10 y11))
  | 0 => fun _ _ _ _ _ _ _ _ _ _ _ _ r h => by simp [region_Part.j0] at h
  | k + 1 => by
    have ih0 := region_Part.mono_l k
    · intro y0 y1 y2 y3 y4 y5 y6 y7 y8 y9 y10 y11
      unfold region_Part.j0
      repeat' first
      | (with_reducible exact ih0 _ _ _ _ _ _ _ _ _ _ _ _)
      | (with_reducible exact LeO.refl _)
      | (with_reducible exact LeO.none _)
      | (with_reducible refine LeO.ite ?_ ?_)
      | (with_reducible refine LeO.bind ?_ (fun _ => ?_))
      | exact ih0 _ _ _ _ _ _ _ _ _ _ _ _
      | exact LeO.none _
      | refine LeO.ite ?_ ?_
      | refine LeO.bind ?_ (fun _ => ?_)
theorem region_Part.mono : ∀ a0 a1 a2 a3 a4 a5 a6 a7 a8 a9 a10 k, LeO (region_Part.f k a0 a1 a2 a3 a4 a5 a6 a7 a8 a9 a10) (region_Part.f (k + 1) a0 a1 a2 a3 a4 a5 a6 a7 a8 a9 a10) := by
  intro a0 a1 a2 a3 a4 a5 a6 a7 a8 a9 a10 k
  have ih0 := region_Part.mono_l k
  unfold region_Part.f
  repeat' first
      | (with_reducible exact ih0 _ _ _ _ _ _ _ _ _ _ _ _)
      | (with_reducible exact LeO.refl _)
      | (with_reducible exact LeO.none _)
      | (with_reducible refine LeO.ite ?_ ?_)
      | (with_reducible refine LeO.bind ?_ (fun _ => ?_))
      | exact ih0 _ _ _ _ _ _ _ _ _ _ _ _
      | exact LeO.none _
      | refine LeO.ite ?_ ?_
      | refine LeO.bind ?_ (fun _ => ?_)
set_option maxHeartbeats 8000000 in
set_option maxRecDepth 100000 in
theorem region_Part.calls (k : Nat) (a0 : Int) (a1 : Int) (a2_0 : Int) (a2_1 : Int) (a2_2 : Int) (a2_3 : Int) (a2_4 : Int) (a2_5 : Int) (a2_6 : Int) (a2_7 : Int) (a2_8 : Int) (r1 : Int) (r2 : Int) (r3 : Int) (r4 : Int) (r5 : Int) (r6 : Int) (r7 : Int) (r8 : Int) (r9 : Int) (r10 : Bool) (w : World) (h : region_Part.f k a0 a1 a2_0 a2_1 a2_2 a2_3 a2_4 a2_5 a2_6 a2_7 a2_8 = some (r1, r2, r3, r4, r5, r6, r7, r8, r9, r10)) :
    Calls Try.prog 29 #[.int .i64 a0, .int .i64 a1, .agg #[.int .u32 a2_0, .int .i64 a2_1, .int .u32 a2_2, .int .i64 a2_3, .int .i64 a2_4, .int .u16 a2_5, .int .u16 a2_6, .int .u16 a2_7, .int .u16 a2_8]] w fun e w' => e = .returned (.tuple #[.agg #[.int .u32 r1, .int .i64 r2, .int .u32 r3, .int .i64 r4, .int .i64 r5, .int .u16 r6, .int .u16 r7, .int .u16 r8, .int .u16 r9], .bool r10]) ∧ Below w.heap.size w w' := by
  have hu49 := Try.underlying49
  have hu37 := Try.underlying37
  have HB := Aside0.mk (Below.refl w.heap.size w)
  have H : ((region_Prefix.f a0 a1).bind fun bt160 => (if a1 < 0 then (region_Part.j0 k true a2_0 a2_1 a2_2 a2_3 a2_4 a2_5 a2_6 a2_7 a2_8 bt160.1 bt160.2) else ((region_Count.f a0).bind fun t163 => (if a1 ≥ t163 then (region_Part.j0 k true a2_0 a2_1 a2_2 a2_3 a2_4 a2_5 a2_6 a2_7 a2_8 bt160.1 bt160.2) else ((cidr_Meet.f bt160.1 bt160.2 a2_0 a2_1).bind fun t164 => (region_Part.j0 k (!t164) a2_0 a2_1 a2_2 a2_3 a2_4 a2_5 a2_6 a2_7 a2_8 bt160.1 bt160.2)))))) = some (r1, r2, r3, r4, r5, r6, r7, r8, r9, r10) := h
  clear h
  replace H := Option.bind_eq_some_iff.mp H
  obtain ⟨⟨t160, t161⟩, A40, H⟩ := H
  replace H : (if a1 < 0 then (region_Part.j0 k true a2_0 a2_1 a2_2 a2_3 a2_4 a2_5 a2_6 a2_7 a2_8 t160 t161) else ((region_Count.f a0).bind fun t163 => (if a1 ≥ t163 then (region_Part.j0 k true a2_0 a2_1 a2_2 a2_3 a2_4 a2_5 a2_6 a2_7 a2_8 t160 t161) else ((cidr_Meet.f t160 t161 a2_0 a2_1).bind fun t164 => (region_Part.j0 k (!t164) a2_0 a2_1 a2_2 a2_3 a2_4 a2_5 a2_6 a2_7 a2_8 t160 t161))))) = some (r1, r2, r3, r4, r5, r6, r7, r8, r9, r10) := H
  have A4 := Aside0.mk A40
  clear A40
  have HC5 := Aside0.mk H
  clear H
  go_enter Try.func29, Try.ntmps29
  go_upto_region 2 with (first | ((with_reducible refine gate_dst (N := 5) rfl ?_); refine box_event ?hg (N := 5) ?hd (cs := #[.int .u32 a2_0, .int .i64 a2_1, .int .u32 a2_2, .int .i64 a2_3, .int .i64 a2_4, .int .u16 a2_5, .int .u16 a2_6, .int .u16 a2_7, .int .u16 a2_8]) (t := 49) ?hr ?_; (case hd => rfl); (case hg => rfl); (case hr => first | (go_simp; done) | (go_simp; rfl)); intro gb158 hg w6 hbox hb; have n0_ := Aside0.mk (below_step (by repeat (first | (with_reducible first | exact HB.out | apply below_alloc | apply pw_below_drewN | apply below_drew1) | exact HB.out)) hb); have n1_ := Aside0.mk (hbox); have n2_ := Aside0.mk ((by rw [hg]; exact (below_size (by repeat (first | (with_reducible first | exact HB.out | apply below_alloc | apply pw_below_drewN | apply below_drew1) | exact HB.out))) : w.heap.size ≤ gb158)); have n3_ := Aside0.mk ((by rw [hg]; exact (below_size (by repeat (first | (with_reducible first | exact HB.out | apply below_alloc | apply pw_below_drewN | apply below_drew1) | exact HB.out))) : w.heap.size ≤ gb158)); clear HB; have HB := n0_; have BK158 := n1_; have GW158 := n2_; have GE158 := n3_; clear n0_ n1_ n2_ n3_; clear hb hbox hg) | ((with_reducible refine gate_dst (N := 6) rfl ?_); refine box_event ?hg (N := 6) ?hd (cs := #[.int .u32 0, .int .i64 0, .int .u32 0, .int .i64 0, .int .i64 0, .int .u16 0, .int .u16 0, .int .u16 0, .int .u16 0]) (t := 49) ?hr ?_; (case hd => rfl); (case hg => rfl); (case hr => first | (go_simp; done) | (go_simp; rfl)); intro gb159 hg w7 hbox hb; have n0_ := Aside0.mk (blk_below (g := gb158) (o := .cells #[.int .u32 a2_0, .int .i64 a2_1, .int .u32 a2_2, .int .i64 a2_3, .int .i64 a2_4, .int .u16 a2_5, .int .u16 a2_6, .int .u16 a2_7, .int .u16 a2_8] 49 (0, 0)) (by (with_reducible repeat (first | refine blk_drewN ?_ _ | refine blk_drew ?_ | refine blk_alloc ?_ _)); exact BK158.out) hb); have n1_ := Aside0.mk (below_step (by repeat (first | (with_reducible first | exact HB.out | apply below_alloc | apply pw_below_drewN | apply below_drew1 | refine below_set ?_ GE158.out) | exact HB.out)) hb); have n2_ := Aside0.mk (hbox); have n3_ := Aside0.mk ((by rw [hg]; exact (below_size (by repeat (first | (with_reducible first | exact HB.out | apply below_alloc | apply pw_below_drewN | apply below_drew1 | refine below_set ?_ GE158.out) | exact HB.out))) : w.heap.size ≤ gb159)); have n4_ := Aside0.mk ((by rw [hg]; exact (below_size (by repeat (first | (with_reducible first | exact HB.out | apply below_alloc | apply pw_below_drewN | apply below_drew1 | refine below_set ?_ GE158.out) | exact HB.out))) : w.heap.size ≤ gb159)); have n5_ := Aside0.mk ((by rw [hg]; exact Nat.ne_of_lt (blk_lt (g := gb158) (o := .cells #[.int .u32 a2_0, .int .i64 a2_1, .int .u32 a2_2, .int .i64 a2_3, .int .i64 a2_4, .int .u16 a2_5, .int .u16 a2_6, .int .u16 a2_7, .int .u16 a2_8] 49 (0, 0)) (by (with_reducible repeat (first | refine blk_drewN ?_ _ | refine blk_drew ?_ | refine blk_alloc ?_ _)); exact BK158.out)) : gb158 ≠ gb159)); have n6_ := Aside0.mk ((by rw [hg]; exact Nat.ne_of_gt (blk_lt (g := gb158) (o := .cells #[.int .u32 a2_0, .int .i64 a2_1, .int .u32 a2_2, .int .i64 a2_3, .int .i64 a2_4, .int .u16 a2_5, .int .u16 a2_6, .int .u16 a2_7, .int .u16 a2_8] 49 (0, 0)) (by (with_reducible repeat (first | refine blk_drewN ?_ _ | refine blk_drew ?_ | refine blk_alloc ?_ _)); exact BK158.out)) : gb159 ≠ gb158)); clear BK158; clear HB; have BK158 := n0_; have HB := n1_; have BK159 := n2_; have GW159 := n3_; have GE159 := n4_; have NB158_159 := n5_; have NB159_158 := n6_; clear n0_ n1_ n2_ n3_ n4_ n5_ n6_; clear hb hbox hg) | ((with_reducible refine gate_callee (f := 19) rfl ?_); refine goesL_ (some 11) rfl rfl Try.func19 (by kernel_rfl) rfl #[.int .i64 a0, .int .i64 a1] rfl (by (try simp only [List.map_toArray, List.map_cons, List.map_nil]); first | done | rfl | (simp only [List.length_drop, List.length_take]; rfl)) ?_; (with_reducible refine (region_Prefix.calls a0 a1 t160 t161 _ A4.out).mono ?_); rintro e w8 ⟨rfl, hb⟩; refine ⟨_, rfl, ?_⟩; have n0_ := Aside0.mk (blk_below (g := gb158) (o := .cells #[.int .u32 a2_0, .int .i64 a2_1, .int .u32 a2_2, .int .i64 a2_3, .int .i64 a2_4, .int .u16 a2_5, .int .u16 a2_6, .int .u16 a2_7, .int .u16 a2_8] 49 (0, 0)) (by (with_reducible repeat (first | refine blk_drewN ?_ _ | refine blk_drew ?_ | refine blk_alloc ?_ _)); exact BK158.out) hb); have n1_ := Aside0.mk (blk_below (g := gb159) (o := .cells #[.int .u32 0, .int .i64 0, .int .u32 0, .int .i64 0, .int .i64 0, .int .u16 0, .int .u16 0, .int .u16 0, .int .u16 0] 49 (0, 0)) (by (with_reducible repeat (first | refine blk_drewN ?_ _ | refine blk_drew ?_ | refine blk_alloc ?_ _)); exact BK159.out) hb); have n2_ := Aside0.mk (below_step (by repeat (first | (with_reducible first | exact HB.out | apply below_alloc | apply pw_below_drewN | apply below_drew1 | refine below_set ?_ GE158.out | refine below_set ?_ GE159.out) | exact HB.out)) hb); clear BK158; clear BK159; clear HB; have BK158 := n0_; have BK159 := n1_; have HB := n2_; clear n0_ n1_ n2_; (try clear hb); (try clear hb2); (try clear hk); (try clear hi)) | ((with_reducible refine gate_dst (N := 8) rfl ?_); refine box_event ?hg (N := 8) ?hd (cs := #[.int .u32 0, .int .i64 0]) (t := 37) ?hr ?_; (case hd => rfl); (case hg => rfl); (case hr => first | (go_simp; done) | (go_simp; rfl)); intro gb162 hg w9 hbox hb; have n0_ := Aside0.mk (blk_below (g := gb158) (o := .cells #[.int .u32 a2_0, .int .i64 a2_1, .int .u32 a2_2, .int .i64 a2_3, .int .i64 a2_4, .int .u16 a2_5, .int .u16 a2_6, .int .u16 a2_7, .int .u16 a2_8] 49 (0, 0)) (by (with_reducible repeat (first | refine blk_drewN ?_ _ | refine blk_drew ?_ | refine blk_alloc ?_ _)); exact BK158.out) hb); have n1_ := Aside0.mk (blk_below (g := gb159) (o := .cells #[.int .u32 0, .int .i64 0, .int .u32 0, .int .i64 0, .int .i64 0, .int .u16 0, .int .u16 0, .int .u16 0, .int .u16 0] 49 (0, 0)) (by (with_reducible repeat (first | refine blk_drewN ?_ _ | refine blk_drew ?_ | refine blk_alloc ?_ _)); exact BK159.out) hb); have n2_ := Aside0.mk (below_step (by repeat (first | (with_reducible first | exact HB.out | apply below_alloc | apply pw_below_drewN | apply below_drew1 | refine below_set ?_ GE158.out | refine below_set ?_ GE159.out) | exact HB.out)) hb); have n3_ := Aside0.mk (hbox); have n4_ := Aside0.mk ((by rw [hg]; exact (below_size (by repeat (first | (with_reducible first | exact HB.out | apply below_alloc | apply pw_below_drewN | apply below_drew1 | refine below_set ?_ GE158.out | refine below_set ?_ GE159.out) | exact HB.out))) : w.heap.size ≤ gb162)); have n5_ := Aside0.mk ((by rw [hg]; exact (below_size (by repeat (first | (with_reducible first | exact HB.out | apply below_alloc | apply pw_below_drewN | apply below_drew1 | refine below_set ?_ GE158.out | refine below_set ?_ GE159.out) | exact HB.out))) : w.heap.size ≤ gb162)); have n6_ := Aside0.mk ((by rw [hg]; exact Nat.ne_of_lt (blk_lt (g := gb158) (o := .cells #[.int .u32 a2_0, .int .i64 a2_1, .int .u32 a2_2, .int .i64 a2_3, .int .i64 a2_4, .int .u16 a2_5, .int .u16 a2_6, .int .u16 a2_7, .int .u16 a2_8] 49 (0, 0)) (by (with_reducible repeat (first | refine blk_drewN ?_ _ | refine blk_drew ?_ | refine blk_alloc ?_ _)); exact BK158.out)) : gb158 ≠ gb162)); have n7_ := Aside0.mk ((by rw [hg]; exact Nat.ne_of_gt (blk_lt (g := gb158) (o := .cells #[.int .u32 a2_0, .int .i64 a2_1, .int .u32 a2_2, .int .i64 a2_3, .int .i64 a2_4, .int .u16 a2_5, .int .u16 a2_6, .int .u16 a2_7, .int .u16 a2_8] 49 (0, 0)) (by (with_reducible repeat (first | refine blk_drewN ?_ _ | refine blk_drew ?_ | refine blk_alloc ?_ _)); exact BK158.out)) : gb162 ≠ gb158)); have n8_ := Aside0.mk ((by rw [hg]; exact Nat.ne_of_lt (blk_lt (g := gb159) (o := .cells #[.int .u32 0, .int .i64 0, .int .u32 0, .int .i64 0, .int .i64 0, .int .u16 0, .int .u16 0, .int .u16 0, .int .u16 0] 49 (0, 0)) (by (with_reducible repeat (first | refine blk_drewN ?_ _ | refine blk_drew ?_ | refine blk_alloc ?_ _)); exact BK159.out)) : gb159 ≠ gb162)); have n9_ := Aside0.mk ((by rw [hg]; exact Nat.ne_of_gt (blk_lt (g := gb159) (o := .cells #[.int .u32 0, .int .i64 0, .int .u32 0, .int .i64 0, .int .i64 0, .int .u16 0, .int .u16 0, .int .u16 0, .int .u16 0] 49 (0, 0)) (by (with_reducible repeat (first | refine blk_drewN ?_ _ | refine blk_drew ?_ | refine blk_alloc ?_ _)); exact BK159.out)) : gb162 ≠ gb159)); clear BK158; clear BK159; clear HB; have BK158 := n0_; have BK159 := n1_; have HB := n2_; have BK162 := n3_; have GW162 := n4_; have GE162 := n5_; have NB158_162 := n6_; have NB162_158 := n7_; have NB159_162 := n8_; have NB162_159 := n9_; clear n0_ n1_ n2_ n3_ n4_ n5_ n6_ n7_ n8_ n9_; clear hb hbox hg; have hnb10 := NB162_158.out; have hnc10 := NB158_162.out; have hnb11 := NB162_159.out; have hnc11 := NB159_162.out; have hcz12_0 : w9.cell? ⟨gb162, 0, none⟩ = some (.int .u32 0) := (blk_cell BK162.out 0).trans rfl; have hcz12_1 : w9.cell? ⟨gb162, 1, none⟩ = some (.int .i64 0) := (blk_cell BK162.out 1).trans rfl; have hfz12_0 := blk_frozen BK162.out 0; have hfz12_1 := blk_frozen BK162.out 1))
  (try simp only [Act.put, List.setIfInBounds_toArray, List.set_cons_zero, List.set_cons_succ])
  go_cut [12] (fun v12 wc => ∃ (kq : Nat) (x12_4 : Bool), v12 = .bool x12_4 ∧ Aside0 (region_Part.j0 kq x12_4 a2_0 a2_1 a2_2 a2_3 a2_4 a2_5 a2_6 a2_7 a2_8 t160 t161 = some (r1, r2, r3, r4, r5, r6, r7, r8, r9, r10)) ∧ Aside0 (kq ≤ k) ∧ Aside0 (wc.heap[gb158]? = some (.cells #[.int .u32 a2_0, .int .i64 a2_1, .int .u32 a2_2, .int .i64 a2_3, .int .i64 a2_4, .int .u16 a2_5, .int .u16 a2_6, .int .u16 a2_7, .int .u16 a2_8] 49 (0, 0))) ∧ Aside0 (wc.heap[gb159]? = some (.cells #[.int .u32 0, .int .i64 0, .int .u32 0, .int .i64 0, .int .i64 0, .int .u16 0, .int .u16 0, .int .u16 0, .int .u16 0] 49 (0, 0))) ∧ Aside0 (wc.heap[gb162]? = some (.cells #[.int .u32 t160, .int .i64 t161] 37 (0, 0))) ∧ Aside0 (Below w.heap.size w wc))
  case first =>
    have H := HC5.out
    clear HC5
    by_cases c13 : a1 < 0
    · rw [if_pos c13] at H
      have c13b0 : decide (a1 < 0) = true := decide_eq_true c13
      clear c13
      (first | rw [c13b0] | (simp only [i64_w, i32_w]; rw [c13b0]) | skip)
      have H' := Aside0.mk H
      clear H
      go_wp2
      go_meet
      case rel => exact ⟨_, (true), (by first | rfl | (simp; done) | (simp [*]; done)), H', ⟨by first | omega | exact Nat.le_refl _⟩, ⟨by (with_reducible repeat (first | refine blk_drewN ?_ _ | refine blk_drew ?_ | refine blk_alloc ?_ _)); refine blk_far ?_ NB158_162.out _; (with_reducible repeat (first | refine blk_drewN ?_ _ | refine blk_drew ?_ | refine blk_alloc ?_ _)); refine blk_far ?_ NB158_162.out _; (with_reducible repeat (first | refine blk_drewN ?_ _ | refine blk_drew ?_ | refine blk_alloc ?_ _)); exact BK158.out⟩, ⟨by (with_reducible repeat (first | refine blk_drewN ?_ _ | refine blk_drew ?_ | refine blk_alloc ?_ _)); refine blk_far ?_ NB159_162.out _; (with_reducible repeat (first | refine blk_drewN ?_ _ | refine blk_drew ?_ | refine blk_alloc ?_ _)); refine blk_far ?_ NB159_162.out _; (with_reducible repeat (first | refine blk_drewN ?_ _ | refine blk_drew ?_ | refine blk_alloc ?_ _)); exact BK159.out⟩, ⟨by (with_reducible repeat (first | refine blk_drewN ?_ _ | refine blk_drew ?_ | refine blk_alloc ?_ _)); refine blk_put (cs := #[.int .u32 t160, .int .i64 0]) ?_ 1 _ rfl; (with_reducible repeat (first | refine blk_drewN ?_ _ | refine blk_drew ?_ | refine blk_alloc ?_ _)); refine blk_put (cs := #[.int .u32 0, .int .i64 0]) ?_ 0 _ rfl; (with_reducible repeat (first | refine blk_drewN ?_ _ | refine blk_drew ?_ | refine blk_alloc ?_ _)); exact BK162.out⟩, ⟨by repeat (first | (with_reducible first | exact HB.out | apply below_alloc | apply pw_below_drewN | apply below_drew1 | refine below_set ?_ GE158.out | refine below_set ?_ GE159.out | refine below_set ?_ GE162.out) | exact HB.out)⟩⟩
    · rw [if_neg c13] at H
      have c13b0 : decide (a1 < 0) = false := decide_eq_false c13
      clear c13
      (first | rw [c13b0] | (simp only [i64_w, i32_w]; rw [c13b0]) | skip)
      replace H := Option.bind_eq_some_iff.mp H
      obtain ⟨t163, A140, H⟩ := H
      replace H : (if a1 ≥ t163 then (region_Part.j0 k true a2_0 a2_1 a2_2 a2_3 a2_4 a2_5 a2_6 a2_7 a2_8 t160 t161) else ((cidr_Meet.f t160 t161 a2_0 a2_1).bind fun t164 => (region_Part.j0 k (!t164) a2_0 a2_1 a2_2 a2_3 a2_4 a2_5 a2_6 a2_7 a2_8 t160 t161))) = some (r1, r2, r3, r4, r5, r6, r7, r8, r9, r10) := H
      have A14 := Aside0.mk A140
      clear A140
      by_cases c15 : a1 ≥ t163
      · rw [if_pos c15] at H
        have c15b0 : decide (t163 ≤ a1) = true := decide_eq_true c15
        clear c15
        have H' := Aside0.mk H
        clear H
        go_wp2_with (first | (go_at_call 15; (with_reducible refine (region_Count.calls a0 t163 _ A14.out).mono ?_); rintro e w' ⟨rfl, ⟨nd, rfl⟩⟩))
        go_meet
        case rel => exact ⟨_, (true), (by first | rfl | (simp; done) | (simp [*]; done)), H', ⟨by first | omega | exact Nat.le_refl _⟩, ⟨by (with_reducible repeat (first | refine blk_drewN ?_ _ | refine blk_drew ?_ | refine blk_alloc ?_ _)); refine blk_far ?_ NB158_162.out _; (with_reducible repeat (first | refine blk_drewN ?_ _ | refine blk_drew ?_ | refine blk_alloc ?_ _)); refine blk_far ?_ NB158_162.out _; (with_reducible repeat (first | refine blk_drewN ?_ _ | refine blk_drew ?_ | refine blk_alloc ?_ _)); exact BK158.out⟩, ⟨by (with_reducible repeat (first | refine blk_drewN ?_ _ | refine blk_drew ?_ | refine blk_alloc ?_ _)); refine blk_far ?_ NB159_162.out _; (with_reducible repeat (first | refine blk_drewN ?_ _ | refine blk_drew ?_ | refine blk_alloc ?_ _)); refine blk_far ?_ NB159_162.out _; (with_reducible repeat (first | refine blk_drewN ?_ _ | refine blk_drew ?_ | refine blk_alloc ?_ _)); exact BK159.out⟩, ⟨by (with_reducible repeat (first | refine blk_drewN ?_ _ | refine blk_drew ?_ | refine blk_alloc ?_ _)); refine blk_put (cs := #[.int .u32 t160, .int .i64 0]) ?_ 1 _ rfl; (with_reducible repeat (first | refine blk_drewN ?_ _ | refine blk_drew ?_ | refine blk_alloc ?_ _)); refine blk_put (cs := #[.int .u32 0, .int .i64 0]) ?_ 0 _ rfl; (with_reducible repeat (first | refine blk_drewN ?_ _ | refine blk_drew ?_ | refine blk_alloc ?_ _)); exact BK162.out⟩, ⟨by repeat (first | (with_reducible first | exact HB.out | apply below_alloc | apply pw_below_drewN | apply below_drew1 | refine below_set ?_ GE158.out | refine below_set ?_ GE159.out | refine below_set ?_ GE162.out) | exact HB.out)⟩⟩
      · rw [if_neg c15] at H
        have c15b0 : decide (t163 ≤ a1) = false := decide_eq_false c15
        clear c15
        replace H := Option.bind_eq_some_iff.mp H
        obtain ⟨t164, A160, H⟩ := H
        replace H : (region_Part.j0 k (!t164) a2_0 a2_1 a2_2 a2_3 a2_4 a2_5 a2_6 a2_7 a2_8 t160 t161) = some (r1, r2, r3, r4, r5, r6, r7, r8, r9, r10) := H
        have A16 := Aside0.mk A160
        clear A160
        have H' := Aside0.mk H
        clear H
        go_wp2_with (first | (go_at_call 15; (with_reducible refine (region_Count.calls a0 t163 _ A14.out).mono ?_); rintro e w' ⟨rfl, ⟨nd, rfl⟩⟩; have hnb17 := NB162_158.out; have hnc17 := NB158_162.out; have hnb18 := NB162_159.out; have hnc18 := NB159_162.out; have hcz19_0 : w9.cell? ⟨gb162, 0, none⟩ = some (.int .u32 0) := (blk_cell BK162.out 0).trans rfl; have hcz19_1 : w9.cell? ⟨gb162, 1, none⟩ = some (.int .i64 0) := (blk_cell BK162.out 1).trans rfl; have hfz19_0 := blk_frozen BK162.out 0; have hfz19_1 := blk_frozen BK162.out 1; have hnb20 := NB158_159.out; have hnc20 := NB159_158.out; have hcz21_0 : w9.cell? ⟨gb158, 0, none⟩ = some (.int .u32 a2_0) := (blk_cell BK158.out 0).trans rfl; have hcz21_1 : w9.cell? ⟨gb158, 1, none⟩ = some (.int .i64 a2_1) := (blk_cell BK158.out 1).trans rfl; have hcz21_2 : w9.cell? ⟨gb158, 2, none⟩ = some (.int .u32 a2_2) := (blk_cell BK158.out 2).trans rfl; have hcz21_3 : w9.cell? ⟨gb158, 3, none⟩ = some (.int .i64 a2_3) := (blk_cell BK158.out 3).trans rfl; have hcz21_4 : w9.cell? ⟨gb158, 4, none⟩ = some (.int .i64 a2_4) := (blk_cell BK158.out 4).trans rfl; have hcz21_5 : w9.cell? ⟨gb158, 5, none⟩ = some (.int .u16 a2_5) := (blk_cell BK158.out 5).trans rfl; have hcz21_6 : w9.cell? ⟨gb158, 6, none⟩ = some (.int .u16 a2_6) := (blk_cell BK158.out 6).trans rfl; have hcz21_7 : w9.cell? ⟨gb158, 7, none⟩ = some (.int .u16 a2_7) := (blk_cell BK158.out 7).trans rfl; have hcz21_8 : w9.cell? ⟨gb158, 8, none⟩ = some (.int .u16 a2_8) := (blk_cell BK158.out 8).trans rfl; have hfz21_0 := blk_frozen BK158.out 0; have hfz21_1 := blk_frozen BK158.out 1; have hfz21_2 := blk_frozen BK158.out 2; have hfz21_3 := blk_frozen BK158.out 3; have hfz21_4 := blk_frozen BK158.out 4; have hfz21_5 := blk_frozen BK158.out 5; have hfz21_6 := blk_frozen BK158.out 6; have hfz21_7 := blk_frozen BK158.out 7; have hfz21_8 := blk_frozen BK158.out 8) | (go_at_call 25; (with_reducible refine (cidr_Meet.calls t160 t161 a2_0 a2_1 t164 _ A16.out).mono ?_); rintro e w22 ⟨rfl, hb⟩; have n0_ := Aside0.mk (blk_below (g := gb158) (o := .cells #[.int .u32 a2_0, .int .i64 a2_1, .int .u32 a2_2, .int .i64 a2_3, .int .i64 a2_4, .int .u16 a2_5, .int .u16 a2_6, .int .u16 a2_7, .int .u16 a2_8] 49 (0, 0)) (by (with_reducible repeat (first | refine blk_drewN ?_ _ | refine blk_drew ?_ | refine blk_alloc ?_ _)); refine blk_far ?_ NB158_162.out _; (with_reducible repeat (first | refine blk_drewN ?_ _ | refine blk_drew ?_ | refine blk_alloc ?_ _)); refine blk_far ?_ NB158_162.out _; (with_reducible repeat (first | refine blk_drewN ?_ _ | refine blk_drew ?_ | refine blk_alloc ?_ _)); exact BK158.out) hb); have n1_ := Aside0.mk (blk_below (g := gb159) (o := .cells #[.int .u32 0, .int .i64 0, .int .u32 0, .int .i64 0, .int .i64 0, .int .u16 0, .int .u16 0, .int .u16 0, .int .u16 0] 49 (0, 0)) (by (with_reducible repeat (first | refine blk_drewN ?_ _ | refine blk_drew ?_ | refine blk_alloc ?_ _)); refine blk_far ?_ NB159_162.out _; (with_reducible repeat (first | refine blk_drewN ?_ _ | refine blk_drew ?_ | refine blk_alloc ?_ _)); refine blk_far ?_ NB159_162.out _; (with_reducible repeat (first | refine blk_drewN ?_ _ | refine blk_drew ?_ | refine blk_alloc ?_ _)); exact BK159.out) hb); have n2_ := Aside0.mk (blk_below (g := gb162) (o := .cells #[.int .u32 t160, .int .i64 t161] 37 (0, 0)) (by (with_reducible repeat (first | refine blk_drewN ?_ _ | refine blk_drew ?_ | refine blk_alloc ?_ _)); refine blk_put (cs := #[.int .u32 t160, .int .i64 0]) ?_ 1 _ rfl; (with_reducible repeat (first | refine blk_drewN ?_ _ | refine blk_drew ?_ | refine blk_alloc ?_ _)); refine blk_put (cs := #[.int .u32 0, .int .i64 0]) ?_ 0 _ rfl; (with_reducible repeat (first | refine blk_drewN ?_ _ | refine blk_drew ?_ | refine blk_alloc ?_ _)); exact BK162.out) hb); have n3_ := Aside0.mk (below_step (by repeat (first | (with_reducible first | exact HB.out | apply below_alloc | apply pw_below_drewN | apply below_drew1 | refine below_set ?_ GE158.out | refine below_set ?_ GE159.out | refine below_set ?_ GE162.out) | exact HB.out)) hb); clear BK158; clear BK159; clear BK162; clear HB; have BK158 := n0_; have BK159 := n1_; have BK162 := n2_; have HB := n3_; clear n0_ n1_ n2_ n3_; (try clear hb); (try clear hb2); (try clear hk); (try clear hi)))
        go_meet
        case rel => exact ⟨_, (!t164), (by first | rfl | (simp; done) | (simp [*]; done)), H', ⟨by first | omega | exact Nat.le_refl _⟩, ⟨by (with_reducible repeat (first | refine blk_drewN ?_ _ | refine blk_drew ?_ | refine blk_alloc ?_ _)); exact BK158.out⟩, ⟨by (with_reducible repeat (first | refine blk_drewN ?_ _ | refine blk_drew ?_ | refine blk_alloc ?_ _)); exact BK159.out⟩, ⟨by (with_reducible repeat (first | refine blk_drewN ?_ _ | refine blk_drew ?_ | refine blk_alloc ?_ _)); exact BK162.out⟩, ⟨by repeat (first | (with_reducible first | exact HB.out | apply below_alloc | apply pw_below_drewN | apply below_drew1 | refine below_set ?_ GE158.out | refine below_set ?_ GE159.out | refine below_set ?_ GE162.out) | exact HB.out)⟩⟩
  case rest =>
    clear HC5
    try clear c1
    try clear c2
    try clear p2
    try clear c10
    try clear c11
    try clear c13
    try clear c13b0
    try clear c15
    try clear c15b0
    try clear c17
    try clear c18
    try clear c19
    try clear c20
    try clear hcz12_0
    try clear hcz12_1
    try clear hcz19_0
    try clear hcz19_1
    try clear hcz21_0
    try clear hcz21_1
    try clear hcz21_2
    try clear hcz21_3
    try clear hcz21_4
    try clear hcz21_5
    try clear hcz21_6
    try clear hcz21_7
    try clear hcz21_8
    try clear hfz12_0
    try clear hfz12_1
    try clear hfz19_0
    try clear hfz19_1
    try clear hfz21_0
    try clear hfz21_1
    try clear hfz21_2
    try clear hfz21_3
    try clear hfz21_4
    try clear hfz21_5
    try clear hfz21_6
    try clear hfz21_7
    try clear hfz21_8
    obtain ⟨kq, x12_4, rfl, HA, HJ4, BK158, BK159, BK162, HB⟩ := hcut
    cases kq with
    | zero => exact absurd HA.out (by simp [region_Part.j0])
    | succ kj4 =>
      have H := HA.out
      clear HA
      simp only [region_Part.j0] at H
      by_cases c23 : x12_4 = true
      · subst c23
        have H1 : (some (0, 0, 0, 0, 0, 0, 0, 0, 0, false)) = some (r1, r2, r3, r4, r5, r6, r7, r8, r9, r10) := by rw [if_pos rfl] at H; exact H
        clear H
        have H := H1
        clear H1
        simp only [Option.some.injEq, Prod.mk.injEq] at H
        obtain ⟨rfl, rfl, rfl, rfl, rfl, rfl, rfl, rfl, rfl, rfl⟩ := H
        have hnb24 := NB159_158.out
        have hnc24 := NB158_159.out
        have hnb25 := NB159_162.out
        have hnc25 := NB162_159.out
        have hcz26_0 : wc.cell? ⟨gb159, 0, none⟩ = some (.int .u32 0) := (blk_cell BK159.out 0).trans rfl
        have hcz26_1 : wc.cell? ⟨gb159, 1, none⟩ = some (.int .i64 0) := (blk_cell BK159.out 1).trans rfl
        have hcz26_2 : wc.cell? ⟨gb159, 2, none⟩ = some (.int .u32 0) := (blk_cell BK159.out 2).trans rfl
        have hcz26_3 : wc.cell? ⟨gb159, 3, none⟩ = some (.int .i64 0) := (blk_cell BK159.out 3).trans rfl
        have hcz26_4 : wc.cell? ⟨gb159, 4, none⟩ = some (.int .i64 0) := (blk_cell BK159.out 4).trans rfl
        have hcz26_5 : wc.cell? ⟨gb159, 5, none⟩ = some (.int .u16 0) := (blk_cell BK159.out 5).trans rfl
        have hcz26_6 : wc.cell? ⟨gb159, 6, none⟩ = some (.int .u16 0) := (blk_cell BK159.out 6).trans rfl
        have hcz26_7 : wc.cell? ⟨gb159, 7, none⟩ = some (.int .u16 0) := (blk_cell BK159.out 7).trans rfl
        have hcz26_8 : wc.cell? ⟨gb159, 8, none⟩ = some (.int .u16 0) := (blk_cell BK159.out 8).trans rfl
        have hfz26_0 := blk_frozen BK159.out 0
        have hfz26_1 := blk_frozen BK159.out 1
        have hfz26_2 := blk_frozen BK159.out 2
        have hfz26_3 := blk_frozen BK159.out 3
        have hfz26_4 := blk_frozen BK159.out 4
        have hfz26_5 := blk_frozen BK159.out 5
        have hfz26_6 := blk_frozen BK159.out 6
        have hfz26_7 := blk_frozen BK159.out 7
        have hfz26_8 := blk_frozen BK159.out 8
        go_wp2
        refine bodyPost_ret (results_ct rfl _ _ gb159 49 #[.int .u32 0, .int .i64 0, .int .u32 0, .int .i64 0, .int .i64 0, .int .u16 0, .int .u16 0, .int .u16 0, .int .u16 0] (0, 0) _ rfl (by (with_reducible repeat (first | refine blk_drewN ?_ _ | refine blk_drew ?_ | refine blk_alloc ?_ _)); refine blk_put (cs := #[.int .u32 0, .int .i64 0, .int .u32 0, .int .i64 0, .int .i64 0, .int .u16 0, .int .u16 0, .int .u16 0, .int .u16 0]) ?_ 8 _ rfl; (with_reducible repeat (first | refine blk_drewN ?_ _ | refine blk_drew ?_ | refine blk_alloc ?_ _)); refine blk_put (cs := #[.int .u32 0, .int .i64 0, .int .u32 0, .int .i64 0, .int .i64 0, .int .u16 0, .int .u16 0, .int .u16 0, .int .u16 0]) ?_ 7 _ rfl; (with_reducible repeat (first | refine blk_drewN ?_ _ | refine blk_drew ?_ | refine blk_alloc ?_ _)); refine blk_put (cs := #[.int .u32 0, .int .i64 0, .int .u32 0, .int .i64 0, .int .i64 0, .int .u16 0, .int .u16 0, .int .u16 0, .int .u16 0]) ?_ 6 _ rfl; (with_reducible repeat (first | refine blk_drewN ?_ _ | refine blk_drew ?_ | refine blk_alloc ?_ _)); refine blk_put (cs := #[.int .u32 0, .int .i64 0, .int .u32 0, .int .i64 0, .int .i64 0, .int .u16 0, .int .u16 0, .int .u16 0, .int .u16 0]) ?_ 5 _ rfl; (with_reducible repeat (first | refine blk_drewN ?_ _ | refine blk_drew ?_ | refine blk_alloc ?_ _)); refine blk_put (cs := #[.int .u32 0, .int .i64 0, .int .u32 0, .int .i64 0, .int .i64 0, .int .u16 0, .int .u16 0, .int .u16 0, .int .u16 0]) ?_ 4 _ rfl; (with_reducible repeat (first | refine blk_drewN ?_ _ | refine blk_drew ?_ | refine blk_alloc ?_ _)); refine blk_put (cs := #[.int .u32 0, .int .i64 0, .int .u32 0, .int .i64 0, .int .i64 0, .int .u16 0, .int .u16 0, .int .u16 0, .int .u16 0]) ?_ 3 _ rfl; (with_reducible repeat (first | refine blk_drewN ?_ _ | refine blk_drew ?_ | refine blk_alloc ?_ _)); refine blk_put (cs := #[.int .u32 0, .int .i64 0, .int .u32 0, .int .i64 0, .int .i64 0, .int .u16 0, .int .u16 0, .int .u16 0, .int .u16 0]) ?_ 2 _ rfl; (with_reducible repeat (first | refine blk_drewN ?_ _ | refine blk_drew ?_ | refine blk_alloc ?_ _)); refine blk_put (cs := #[.int .u32 0, .int .i64 0, .int .u32 0, .int .i64 0, .int .i64 0, .int .u16 0, .int .u16 0, .int .u16 0, .int .u16 0]) ?_ 1 _ rfl; (with_reducible repeat (first | refine blk_drewN ?_ _ | refine blk_drew ?_ | refine blk_alloc ?_ _)); refine blk_put (cs := #[.int .u32 0, .int .i64 0, .int .u32 0, .int .i64 0, .int .i64 0, .int .u16 0, .int .u16 0, .int .u16 0, .int .u16 0]) ?_ 0 _ rfl; (with_reducible repeat (first | refine blk_drewN ?_ _ | refine blk_drew ?_ | refine blk_alloc ?_ _)); exact BK159.out) Try.underlying49 rfl (by kernel_rfl)) rfl ?_
        exact ⟨by first | rfl | (simp [errW_none, errW_some] <;> rfl) | (simp [*, errW_none, errW_some] <;> rfl), by repeat (first | (with_reducible first | exact HB.out | apply below_alloc | apply pw_below_drewN | apply below_drew1 | refine below_set ?_ GE158.out | refine below_set ?_ GE159.out | refine below_set ?_ GE162.out) | exact HB.out)⟩
      · replace c23 := Bool.eq_false_iff.mpr c23
        subst c23
        have H1 : ((cidr_Within.f t160 t161 a2_0 a2_1).bind fun t165 => (if t165 = true then (some (t160, t161, a2_2, a2_3, a2_4, a2_5, a2_6, a2_7, a2_8, true)) else (some (a2_0, a2_1, a2_2, a2_3, a2_4, a2_5, a2_6, a2_7, a2_8, true)))) = some (r1, r2, r3, r4, r5, r6, r7, r8, r9, r10) := by rw [if_neg (show ¬ (false = true) by decide)] at H; exact H
        clear H
        have H := H1
        clear H1
        replace H := Option.bind_eq_some_iff.mp H
        obtain ⟨t165, A270, H⟩ := H
        replace H : (if t165 = true then (some (t160, t161, a2_2, a2_3, a2_4, a2_5, a2_6, a2_7, a2_8, true)) else (some (a2_0, a2_1, a2_2, a2_3, a2_4, a2_5, a2_6, a2_7, a2_8, true))) = some (r1, r2, r3, r4, r5, r6, r7, r8, r9, r10) := H
        have A27 := Aside0.mk A270
        clear A270
        by_cases c28 : t165 = true
        · subst c28
          have H1 : (some (t160, t161, a2_2, a2_3, a2_4, a2_5, a2_6, a2_7, a2_8, true)) = some (r1, r2, r3, r4, r5, r6, r7, r8, r9, r10) := by rw [if_pos rfl] at H; exact H
          clear H
          have H := H1
          clear H1
          simp only [Option.some.injEq, Prod.mk.injEq] at H
          obtain ⟨rfl, rfl, rfl, rfl, rfl, rfl, rfl, rfl, rfl, rfl⟩ := H
          have hnb29 := NB162_158.out
          have hnc29 := NB158_162.out
          have hnb30 := NB162_159.out
          have hnc30 := NB159_162.out
          have hcz31_0 : wc.cell? ⟨gb162, 0, none⟩ = some (.int .u32 t160) := (blk_cell BK162.out 0).trans rfl
          have hcz31_1 : wc.cell? ⟨gb162, 1, none⟩ = some (.int .i64 t161) := (blk_cell BK162.out 1).trans rfl
          have hfz31_0 := blk_frozen BK162.out 0
          have hfz31_1 := blk_frozen BK162.out 1
          have hnb32 := NB158_159.out
          have hnc32 := NB159_158.out
          have hcz33_0 : wc.cell? ⟨gb158, 0, none⟩ = some (.int .u32 a2_0) := (blk_cell BK158.out 0).trans rfl
          have hcz33_1 : wc.cell? ⟨gb158, 1, none⟩ = some (.int .i64 a2_1) := (blk_cell BK158.out 1).trans rfl
          have hcz33_2 : wc.cell? ⟨gb158, 2, none⟩ = some (.int .u32 a2_2) := (blk_cell BK158.out 2).trans rfl
          have hcz33_3 : wc.cell? ⟨gb158, 3, none⟩ = some (.int .i64 a2_3) := (blk_cell BK158.out 3).trans rfl
          have hcz33_4 : wc.cell? ⟨gb158, 4, none⟩ = some (.int .i64 a2_4) := (blk_cell BK158.out 4).trans rfl
          have hcz33_5 : wc.cell? ⟨gb158, 5, none⟩ = some (.int .u16 a2_5) := (blk_cell BK158.out 5).trans rfl
          have hcz33_6 : wc.cell? ⟨gb158, 6, none⟩ = some (.int .u16 a2_6) := (blk_cell BK158.out 6).trans rfl
          have hcz33_7 : wc.cell? ⟨gb158, 7, none⟩ = some (.int .u16 a2_7) := (blk_cell BK158.out 7).trans rfl
          have hcz33_8 : wc.cell? ⟨gb158, 8, none⟩ = some (.int .u16 a2_8) := (blk_cell BK158.out 8).trans rfl
          have hfz33_0 := blk_frozen BK158.out 0
          have hfz33_1 := blk_frozen BK158.out 1
          have hfz33_2 := blk_frozen BK158.out 2
          have hfz33_3 := blk_frozen BK158.out 3
          have hfz33_4 := blk_frozen BK158.out 4
          have hfz33_5 := blk_frozen BK158.out 5
          have hfz33_6 := blk_frozen BK158.out 6
          have hfz33_7 := blk_frozen BK158.out 7
          have hfz33_8 := blk_frozen BK158.out 8
          go_wp2_with (first | ((with_reducible refine gate_callee (f := 26) rfl ?_); refine goesL_ (some 33) rfl rfl Try.func26 (by kernel_rfl) rfl #[.agg #[.int .u32 t160, .int .i64 t161], .agg #[.int .u32 a2_0, .int .i64 a2_1]] rfl (by (try simp only [List.map_toArray, List.map_cons, List.map_nil]); first | done | rfl | (simp only [List.length_drop, List.length_take]; rfl)) ?_; (with_reducible refine (cidr_Within.calls t160 t161 a2_0 a2_1 true _ A27.out).mono ?_); rintro e w34 ⟨rfl, hb⟩; refine ⟨_, rfl, ?_⟩; have n0_ := Aside0.mk (blk_below (g := gb158) (o := .cells #[.int .u32 a2_0, .int .i64 a2_1, .int .u32 a2_2, .int .i64 a2_3, .int .i64 a2_4, .int .u16 a2_5, .int .u16 a2_6, .int .u16 a2_7, .int .u16 a2_8] 49 (0, 0)) (by (with_reducible repeat (first | refine blk_drewN ?_ _ | refine blk_drew ?_ | refine blk_alloc ?_ _)); exact BK158.out) hb); have n1_ := Aside0.mk (blk_below (g := gb159) (o := .cells #[.int .u32 0, .int .i64 0, .int .u32 0, .int .i64 0, .int .i64 0, .int .u16 0, .int .u16 0, .int .u16 0, .int .u16 0] 49 (0, 0)) (by (with_reducible repeat (first | refine blk_drewN ?_ _ | refine blk_drew ?_ | refine blk_alloc ?_ _)); exact BK159.out) hb); have n2_ := Aside0.mk (blk_below (g := gb162) (o := .cells #[.int .u32 t160, .int .i64 t161] 37 (0, 0)) (by (with_reducible repeat (first | refine blk_drewN ?_ _ | refine blk_drew ?_ | refine blk_alloc ?_ _)); exact BK162.out) hb); have n3_ := Aside0.mk (below_step (by repeat (first | (with_reducible first | exact HB.out | apply below_alloc | apply pw_below_drewN | apply below_drew1 | refine below_set ?_ GE158.out | refine below_set ?_ GE159.out | refine below_set ?_ GE162.out) | exact HB.out)) hb); clear BK158; clear BK159; clear BK162; clear HB; have BK158 := n0_; have BK159 := n1_; have BK162 := n2_; have HB := n3_; clear n0_ n1_ n2_ n3_; (try clear hb); (try clear hb2); (try clear hk); (try clear hi); have hcz35_0 : w34.cell? ⟨gb162, 0, none⟩ = some (.int .u32 t160) := (blk_cell BK162.out 0).trans rfl; have hcz35_1 : w34.cell? ⟨gb162, 1, none⟩ = some (.int .i64 t161) := (blk_cell BK162.out 1).trans rfl; have hfz35_0 := blk_frozen BK162.out 0; have hfz35_1 := blk_frozen BK162.out 1; have hcz36_0 : w34.cell? ⟨gb158, 0, none⟩ = some (.int .u32 a2_0) := (blk_cell BK158.out 0).trans rfl; have hcz36_1 : w34.cell? ⟨gb158, 1, none⟩ = some (.int .i64 a2_1) := (blk_cell BK158.out 1).trans rfl; have hcz36_2 : w34.cell? ⟨gb158, 2, none⟩ = some (.int .u32 a2_2) := (blk_cell BK158.out 2).trans rfl; have hcz36_3 : w34.cell? ⟨gb158, 3, none⟩ = some (.int .i64 a2_3) := (blk_cell BK158.out 3).trans rfl; have hcz36_4 : w34.cell? ⟨gb158, 4, none⟩ = some (.int .i64 a2_4) := (blk_cell BK158.out 4).trans rfl; have hcz36_5 : w34.cell? ⟨gb158, 5, none⟩ = some (.int .u16 a2_5) := (blk_cell BK158.out 5).trans rfl; have hcz36_6 : w34.cell? ⟨gb158, 6, none⟩ = some (.int .u16 a2_6) := (blk_cell BK158.out 6).trans rfl; have hcz36_7 : w34.cell? ⟨gb158, 7, none⟩ = some (.int .u16 a2_7) := (blk_cell BK158.out 7).trans rfl; have hcz36_8 : w34.cell? ⟨gb158, 8, none⟩ = some (.int .u16 a2_8) := (blk_cell BK158.out 8).trans rfl; have hfz36_0 := blk_frozen BK158.out 0; have hfz36_1 := blk_frozen BK158.out 1; have hfz36_2 := blk_frozen BK158.out 2; have hfz36_3 := blk_frozen BK158.out 3; have hfz36_4 := blk_frozen BK158.out 4; have hfz36_5 := blk_frozen BK158.out 5; have hfz36_6 := blk_frozen BK158.out 6; have hfz36_7 := blk_frozen BK158.out 7; have hfz36_8 := blk_frozen BK158.out 8; have hcz37_0 : w34.cell? ⟨gb159, 0, none⟩ = some (.int .u32 0) := (blk_cell BK159.out 0).trans rfl; have hcz37_1 : w34.cell? ⟨gb159, 1, none⟩ = some (.int .i64 0) := (blk_cell BK159.out 1).trans rfl; have hcz37_2 : w34.cell? ⟨gb159, 2, none⟩ = some (.int .u32 0) := (blk_cell BK159.out 2).trans rfl; have hcz37_3 : w34.cell? ⟨gb159, 3, none⟩ = some (.int .i64 0) := (blk_cell BK159.out 3).trans rfl; have hcz37_4 : w34.cell? ⟨gb159, 4, none⟩ = some (.int .i64 0) := (blk_cell BK159.out 4).trans rfl; have hcz37_5 : w34.cell? ⟨gb159, 5, none⟩ = some (.int .u16 0) := (blk_cell BK159.out 5).trans rfl; have hcz37_6 : w34.cell? ⟨gb159, 6, none⟩ = some (.int .u16 0) := (blk_cell BK159.out 6).trans rfl; have hcz37_7 : w34.cell? ⟨gb159, 7, none⟩ = some (.int .u16 0) := (blk_cell BK159.out 7).trans rfl; have hcz37_8 : w34.cell? ⟨gb159, 8, none⟩ = some (.int .u16 0) := (blk_cell BK159.out 8).trans rfl; have hfz37_0 := blk_frozen BK159.out 0; have hfz37_1 := blk_frozen BK159.out 1; have hfz37_2 := blk_frozen BK159.out 2; have hfz37_3 := blk_frozen BK159.out 3; have hfz37_4 := blk_frozen BK159.out 4; have hfz37_5 := blk_frozen BK159.out 5; have hfz37_6 := blk_frozen BK159.out 6; have hfz37_7 := blk_frozen BK159.out 7; have hfz37_8 := blk_frozen BK159.out 8))
          refine bodyPost_ret (results_ct rfl _ _ gb159 49 #[.int .u32 t160, .int .i64 t161, .int .u32 a2_2, .int .i64 a2_3, .int .i64 a2_4, .int .u16 a2_5, .int .u16 a2_6, .int .u16 a2_7, .int .u16 a2_8] (0, 0) _ rfl (by (with_reducible repeat (first | refine blk_drewN ?_ _ | refine blk_drew ?_ | refine blk_alloc ?_ _)); refine blk_put (cs := #[.int .u32 t160, .int .i64 t161, .int .u32 a2_2, .int .i64 a2_3, .int .i64 a2_4, .int .u16 a2_5, .int .u16 a2_6, .int .u16 a2_7, .int .u16 0]) ?_ 8 _ rfl; (with_reducible repeat (first | refine blk_drewN ?_ _ | refine blk_drew ?_ | refine blk_alloc ?_ _)); refine blk_put (cs := #[.int .u32 t160, .int .i64 t161, .int .u32 a2_2, .int .i64 a2_3, .int .i64 a2_4, .int .u16 a2_5, .int .u16 a2_6, .int .u16 0, .int .u16 0]) ?_ 7 _ rfl; (with_reducible repeat (first | refine blk_drewN ?_ _ | refine blk_drew ?_ | refine blk_alloc ?_ _)); refine blk_put (cs := #[.int .u32 t160, .int .i64 t161, .int .u32 a2_2, .int .i64 a2_3, .int .i64 a2_4, .int .u16 a2_5, .int .u16 0, .int .u16 0, .int .u16 0]) ?_ 6 _ rfl; (with_reducible repeat (first | refine blk_drewN ?_ _ | refine blk_drew ?_ | refine blk_alloc ?_ _)); refine blk_put (cs := #[.int .u32 t160, .int .i64 t161, .int .u32 a2_2, .int .i64 a2_3, .int .i64 a2_4, .int .u16 0, .int .u16 0, .int .u16 0, .int .u16 0]) ?_ 5 _ rfl; (with_reducible repeat (first | refine blk_drewN ?_ _ | refine blk_drew ?_ | refine blk_alloc ?_ _)); refine blk_put (cs := #[.int .u32 t160, .int .i64 t161, .int .u32 a2_2, .int .i64 a2_3, .int .i64 0, .int .u16 0, .int .u16 0, .int .u16 0, .int .u16 0]) ?_ 4 _ rfl; (with_reducible repeat (first | refine blk_drewN ?_ _ | refine blk_drew ?_ | refine blk_alloc ?_ _)); refine blk_put (cs := #[.int .u32 t160, .int .i64 t161, .int .u32 a2_2, .int .i64 0, .int .i64 0, .int .u16 0, .int .u16 0, .int .u16 0, .int .u16 0]) ?_ 3 _ rfl; (with_reducible repeat (first | refine blk_drewN ?_ _ | refine blk_drew ?_ | refine blk_alloc ?_ _)); refine blk_put (cs := #[.int .u32 t160, .int .i64 t161, .int .u32 0, .int .i64 0, .int .i64 0, .int .u16 0, .int .u16 0, .int .u16 0, .int .u16 0]) ?_ 2 _ rfl; (with_reducible repeat (first | refine blk_drewN ?_ _ | refine blk_drew ?_ | refine blk_alloc ?_ _)); refine blk_put (cs := #[.int .u32 t160, .int .i64 0, .int .u32 0, .int .i64 0, .int .i64 0, .int .u16 0, .int .u16 0, .int .u16 0, .int .u16 0]) ?_ 1 _ rfl; (with_reducible repeat (first | refine blk_drewN ?_ _ | refine blk_drew ?_ | refine blk_alloc ?_ _)); refine blk_put (cs := #[.int .u32 0, .int .i64 0, .int .u32 0, .int .i64 0, .int .i64 0, .int .u16 0, .int .u16 0, .int .u16 0, .int .u16 0]) ?_ 0 _ rfl; (with_reducible repeat (first | refine blk_drewN ?_ _ | refine blk_drew ?_ | refine blk_alloc ?_ _)); refine blk_far ?_ NB159_158.out _; (with_reducible repeat (first | refine blk_drewN ?_ _ | refine blk_drew ?_ | refine blk_alloc ?_ _)); refine blk_far ?_ NB159_158.out _; (with_reducible repeat (first | refine blk_drewN ?_ _ | refine blk_drew ?_ | refine blk_alloc ?_ _)); exact BK159.out) Try.underlying49 rfl (by kernel_rfl)) rfl ?_
          exact ⟨by first | rfl | (simp [errW_none, errW_some] <;> rfl) | (simp [*, errW_none, errW_some] <;> rfl), by repeat (first | (with_reducible first | exact HB.out | apply below_alloc | apply pw_below_drewN | apply below_drew1 | refine below_set ?_ GE158.out | refine below_set ?_ GE159.out | refine below_set ?_ GE162.out) | exact HB.out)⟩
        · replace c28 := Bool.eq_false_iff.mpr c28
          subst c28
          have H1 : (some (a2_0, a2_1, a2_2, a2_3, a2_4, a2_5, a2_6, a2_7, a2_8, true)) = some (r1, r2, r3, r4, r5, r6, r7, r8, r9, r10) := by rw [if_neg (show ¬ (false = true) by decide)] at H; exact H
          clear H
          have H := H1
          clear H1
          simp only [Option.some.injEq, Prod.mk.injEq] at H
          obtain ⟨rfl, rfl, rfl, rfl, rfl, rfl, rfl, rfl, rfl, rfl⟩ := H
          have hnb38 := NB162_158.out
          have hnc38 := NB158_162.out
          have hnb39 := NB162_159.out
          have hnc39 := NB159_162.out
          have hcz40_0 : wc.cell? ⟨gb162, 0, none⟩ = some (.int .u32 t160) := (blk_cell BK162.out 0).trans rfl
          have hcz40_1 : wc.cell? ⟨gb162, 1, none⟩ = some (.int .i64 t161) := (blk_cell BK162.out 1).trans rfl
          have hfz40_0 := blk_frozen BK162.out 0
          have hfz40_1 := blk_frozen BK162.out 1
          have hnb41 := NB158_159.out
          have hnc41 := NB159_158.out
          have hcz42_0 : wc.cell? ⟨gb158, 0, none⟩ = some (.int .u32 a2_0) := (blk_cell BK158.out 0).trans rfl
          have hcz42_1 : wc.cell? ⟨gb158, 1, none⟩ = some (.int .i64 a2_1) := (blk_cell BK158.out 1).trans rfl
          have hcz42_2 : wc.cell? ⟨gb158, 2, none⟩ = some (.int .u32 a2_2) := (blk_cell BK158.out 2).trans rfl
          have hcz42_3 : wc.cell? ⟨gb158, 3, none⟩ = some (.int .i64 a2_3) := (blk_cell BK158.out 3).trans rfl
          have hcz42_4 : wc.cell? ⟨gb158, 4, none⟩ = some (.int .i64 a2_4) := (blk_cell BK158.out 4).trans rfl
          have hcz42_5 : wc.cell? ⟨gb158, 5, none⟩ = some (.int .u16 a2_5) := (blk_cell BK158.out 5).trans rfl
          have hcz42_6 : wc.cell? ⟨gb158, 6, none⟩ = some (.int .u16 a2_6) := (blk_cell BK158.out 6).trans rfl
          have hcz42_7 : wc.cell? ⟨gb158, 7, none⟩ = some (.int .u16 a2_7) := (blk_cell BK158.out 7).trans rfl
          have hcz42_8 : wc.cell? ⟨gb158, 8, none⟩ = some (.int .u16 a2_8) := (blk_cell BK158.out 8).trans rfl
          have hfz42_0 := blk_frozen BK158.out 0
          have hfz42_1 := blk_frozen BK158.out 1
          have hfz42_2 := blk_frozen BK158.out 2
          have hfz42_3 := blk_frozen BK158.out 3
          have hfz42_4 := blk_frozen BK158.out 4
          have hfz42_5 := blk_frozen BK158.out 5
          have hfz42_6 := blk_frozen BK158.out 6
          have hfz42_7 := blk_frozen BK158.out 7
          have hfz42_8 := blk_frozen BK158.out 8
          go_wp2_with (first | ((with_reducible refine gate_callee (f := 26) rfl ?_); refine goesL_ (some 33) rfl rfl Try.func26 (by kernel_rfl) rfl #[.agg #[.int .u32 t160, .int .i64 t161], .agg #[.int .u32 a2_0, .int .i64 a2_1]] rfl (by (try simp only [List.map_toArray, List.map_cons, List.map_nil]); first | done | rfl | (simp only [List.length_drop, List.length_take]; rfl)) ?_; (with_reducible refine (cidr_Within.calls t160 t161 a2_0 a2_1 false _ A27.out).mono ?_); rintro e w43 ⟨rfl, hb⟩; refine ⟨_, rfl, ?_⟩; have n0_ := Aside0.mk (blk_below (g := gb158) (o := .cells #[.int .u32 a2_0, .int .i64 a2_1, .int .u32 a2_2, .int .i64 a2_3, .int .i64 a2_4, .int .u16 a2_5, .int .u16 a2_6, .int .u16 a2_7, .int .u16 a2_8] 49 (0, 0)) (by (with_reducible repeat (first | refine blk_drewN ?_ _ | refine blk_drew ?_ | refine blk_alloc ?_ _)); exact BK158.out) hb); have n1_ := Aside0.mk (blk_below (g := gb159) (o := .cells #[.int .u32 0, .int .i64 0, .int .u32 0, .int .i64 0, .int .i64 0, .int .u16 0, .int .u16 0, .int .u16 0, .int .u16 0] 49 (0, 0)) (by (with_reducible repeat (first | refine blk_drewN ?_ _ | refine blk_drew ?_ | refine blk_alloc ?_ _)); exact BK159.out) hb); have n2_ := Aside0.mk (blk_below (g := gb162) (o := .cells #[.int .u32 t160, .int .i64 t161] 37 (0, 0)) (by (with_reducible repeat (first | refine blk_drewN ?_ _ | refine blk_drew ?_ | refine blk_alloc ?_ _)); exact BK162.out) hb); have n3_ := Aside0.mk (below_step (by repeat (first | (with_reducible first | exact HB.out | apply below_alloc | apply pw_below_drewN | apply below_drew1 | refine below_set ?_ GE158.out | refine below_set ?_ GE159.out | refine below_set ?_ GE162.out) | exact HB.out)) hb); clear BK158; clear BK159; clear BK162; clear HB; have BK158 := n0_; have BK159 := n1_; have BK162 := n2_; have HB := n3_; clear n0_ n1_ n2_ n3_; (try clear hb); (try clear hb2); (try clear hk); (try clear hi); have hcz44_0 : w43.cell? ⟨gb158, 0, none⟩ = some (.int .u32 a2_0) := (blk_cell BK158.out 0).trans rfl; have hcz44_1 : w43.cell? ⟨gb158, 1, none⟩ = some (.int .i64 a2_1) := (blk_cell BK158.out 1).trans rfl; have hcz44_2 : w43.cell? ⟨gb158, 2, none⟩ = some (.int .u32 a2_2) := (blk_cell BK158.out 2).trans rfl; have hcz44_3 : w43.cell? ⟨gb158, 3, none⟩ = some (.int .i64 a2_3) := (blk_cell BK158.out 3).trans rfl; have hcz44_4 : w43.cell? ⟨gb158, 4, none⟩ = some (.int .i64 a2_4) := (blk_cell BK158.out 4).trans rfl; have hcz44_5 : w43.cell? ⟨gb158, 5, none⟩ = some (.int .u16 a2_5) := (blk_cell BK158.out 5).trans rfl; have hcz44_6 : w43.cell? ⟨gb158, 6, none⟩ = some (.int .u16 a2_6) := (blk_cell BK158.out 6).trans rfl; have hcz44_7 : w43.cell? ⟨gb158, 7, none⟩ = some (.int .u16 a2_7) := (blk_cell BK158.out 7).trans rfl; have hcz44_8 : w43.cell? ⟨gb158, 8, none⟩ = some (.int .u16 a2_8) := (blk_cell BK158.out 8).trans rfl; have hfz44_0 := blk_frozen BK158.out 0; have hfz44_1 := blk_frozen BK158.out 1; have hfz44_2 := blk_frozen BK158.out 2; have hfz44_3 := blk_frozen BK158.out 3; have hfz44_4 := blk_frozen BK158.out 4; have hfz44_5 := blk_frozen BK158.out 5; have hfz44_6 := blk_frozen BK158.out 6; have hfz44_7 := blk_frozen BK158.out 7; have hfz44_8 := blk_frozen BK158.out 8; have hcz45_0 : w43.cell? ⟨gb159, 0, none⟩ = some (.int .u32 0) := (blk_cell BK159.out 0).trans rfl; have hcz45_1 : w43.cell? ⟨gb159, 1, none⟩ = some (.int .i64 0) := (blk_cell BK159.out 1).trans rfl; have hcz45_2 : w43.cell? ⟨gb159, 2, none⟩ = some (.int .u32 0) := (blk_cell BK159.out 2).trans rfl; have hcz45_3 : w43.cell? ⟨gb159, 3, none⟩ = some (.int .i64 0) := (blk_cell BK159.out 3).trans rfl; have hcz45_4 : w43.cell? ⟨gb159, 4, none⟩ = some (.int .i64 0) := (blk_cell BK159.out 4).trans rfl; have hcz45_5 : w43.cell? ⟨gb159, 5, none⟩ = some (.int .u16 0) := (blk_cell BK159.out 5).trans rfl; have hcz45_6 : w43.cell? ⟨gb159, 6, none⟩ = some (.int .u16 0) := (blk_cell BK159.out 6).trans rfl; have hcz45_7 : w43.cell? ⟨gb159, 7, none⟩ = some (.int .u16 0) := (blk_cell BK159.out 7).trans rfl; have hcz45_8 : w43.cell? ⟨gb159, 8, none⟩ = some (.int .u16 0) := (blk_cell BK159.out 8).trans rfl; have hfz45_0 := blk_frozen BK159.out 0; have hfz45_1 := blk_frozen BK159.out 1; have hfz45_2 := blk_frozen BK159.out 2; have hfz45_3 := blk_frozen BK159.out 3; have hfz45_4 := blk_frozen BK159.out 4; have hfz45_5 := blk_frozen BK159.out 5; have hfz45_6 := blk_frozen BK159.out 6; have hfz45_7 := blk_frozen BK159.out 7; have hfz45_8 := blk_frozen BK159.out 8))
          refine bodyPost_ret (results_ct rfl _ _ gb159 49 #[.int .u32 a2_0, .int .i64 a2_1, .int .u32 a2_2, .int .i64 a2_3, .int .i64 a2_4, .int .u16 a2_5, .int .u16 a2_6, .int .u16 a2_7, .int .u16 a2_8] (0, 0) _ rfl (by (with_reducible repeat (first | refine blk_drewN ?_ _ | refine blk_drew ?_ | refine blk_alloc ?_ _)); refine blk_put (cs := #[.int .u32 a2_0, .int .i64 a2_1, .int .u32 a2_2, .int .i64 a2_3, .int .i64 a2_4, .int .u16 a2_5, .int .u16 a2_6, .int .u16 a2_7, .int .u16 0]) ?_ 8 _ rfl; (with_reducible repeat (first | refine blk_drewN ?_ _ | refine blk_drew ?_ | refine blk_alloc ?_ _)); refine blk_put (cs := #[.int .u32 a2_0, .int .i64 a2_1, .int .u32 a2_2, .int .i64 a2_3, .int .i64 a2_4, .int .u16 a2_5, .int .u16 a2_6, .int .u16 0, .int .u16 0]) ?_ 7 _ rfl; (with_reducible repeat (first | refine blk_drewN ?_ _ | refine blk_drew ?_ | refine blk_alloc ?_ _)); refine blk_put (cs := #[.int .u32 a2_0, .int .i64 a2_1, .int .u32 a2_2, .int .i64 a2_3, .int .i64 a2_4, .int .u16 a2_5, .int .u16 0, .int .u16 0, .int .u16 0]) ?_ 6 _ rfl; (with_reducible repeat (first | refine blk_drewN ?_ _ | refine blk_drew ?_ | refine blk_alloc ?_ _)); refine blk_put (cs := #[.int .u32 a2_0, .int .i64 a2_1, .int .u32 a2_2, .int .i64 a2_3, .int .i64 a2_4, .int .u16 0, .int .u16 0, .int .u16 0, .int .u16 0]) ?_ 5 _ rfl; (with_reducible repeat (first | refine blk_drewN ?_ _ | refine blk_drew ?_ | refine blk_alloc ?_ _)); refine blk_put (cs := #[.int .u32 a2_0, .int .i64 a2_1, .int .u32 a2_2, .int .i64 a2_3, .int .i64 0, .int .u16 0, .int .u16 0, .int .u16 0, .int .u16 0]) ?_ 4 _ rfl; (with_reducible repeat (first | refine blk_drewN ?_ _ | refine blk_drew ?_ | refine blk_alloc ?_ _)); refine blk_put (cs := #[.int .u32 a2_0, .int .i64 a2_1, .int .u32 a2_2, .int .i64 0, .int .i64 0, .int .u16 0, .int .u16 0, .int .u16 0, .int .u16 0]) ?_ 3 _ rfl; (with_reducible repeat (first | refine blk_drewN ?_ _ | refine blk_drew ?_ | refine blk_alloc ?_ _)); refine blk_put (cs := #[.int .u32 a2_0, .int .i64 a2_1, .int .u32 0, .int .i64 0, .int .i64 0, .int .u16 0, .int .u16 0, .int .u16 0, .int .u16 0]) ?_ 2 _ rfl; (with_reducible repeat (first | refine blk_drewN ?_ _ | refine blk_drew ?_ | refine blk_alloc ?_ _)); refine blk_put (cs := #[.int .u32 a2_0, .int .i64 0, .int .u32 0, .int .i64 0, .int .i64 0, .int .u16 0, .int .u16 0, .int .u16 0, .int .u16 0]) ?_ 1 _ rfl; (with_reducible repeat (first | refine blk_drewN ?_ _ | refine blk_drew ?_ | refine blk_alloc ?_ _)); refine blk_put (cs := #[.int .u32 0, .int .i64 0, .int .u32 0, .int .i64 0, .int .i64 0, .int .u16 0, .int .u16 0, .int .u16 0, .int .u16 0]) ?_ 0 _ rfl; (with_reducible repeat (first | refine blk_drewN ?_ _ | refine blk_drew ?_ | refine blk_alloc ?_ _)); exact BK159.out) Try.underlying49 rfl (by kernel_rfl)) rfl ?_
          exact ⟨by first | rfl | (simp [errW_none, errW_some] <;> rfl) | (simp [*, errW_none, errW_some] <;> rfl), by repeat (first | (with_reducible first | exact HB.out | apply below_alloc | apply pw_below_drewN | apply below_drew1 | refine below_set ?_ GE158.out | refine below_set ?_ GE159.out | refine below_set ?_ GE162.out) | exact HB.out)⟩

end Go.Proofs.Ytbnjbjjbfbbdcaa.PAll
