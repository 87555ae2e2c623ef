-- Written by wip/myprint.py (this session's own driver); Lean checks it.
import Derived.Test.YtbnjbjjbfbbdcaaPAllx0
import Derived.Test.YtbnjbjjbfbbdcaaPAllx3
import Derived.Test.YtbnjbjjbfbbdcaaPAllx4
import Derived.Test.YtbnjbjjbfbbdcaaPAllx9
import Derived.Test.YtbnjbjjbfbbdcaaPAllx16
import Derived.Test.YtbnjbjjbfbbdcaaPAllx19
import Derived.Test.YtbnjbjjbfbbdcaaPAllx23
import Derived.Test.YtbnjbjjbfbbdcaaPAllx24
namespace Go.Proofs.Ytbnjbjjbfbbdcaa.PAll
open Go.RowKit Go.Proofs.YtbnjbjjbfbbdcaaW.PrintWords Go.Proofs.YtbnjbjjbfbbdcaaW.PrintLast Go.Proofs.YtbnjbjjbfbbdcaaW.PrintMore
attribute [local go_sem] max2_int min2_int max_two min_two max_three min_three max_four min_four   -- for this text's walks alone
set_option linter.unusedVariables false
set_option linter.unusedSimpArgs false

attribute [local go_sem high] eqA49
/-! ### crossbucklaw16_RegionFilters: function 8 -/
mutual
def crossbucklaw16_RegionFilters.j0 : Nat → Int → Bool → Int → Int → Int → Int → Int → Int → Int → Int → Int → Int → Int → Int → Int → Int → Option (Bool)
  | 0, _, _, _, _, _, _, _, _, _, _, _, _, _, _, _, _ => none
  | k + 1, x0, x22, x171000, x171001, x171002, x171003, x171004, x171005, x171006, x171007, x171008, x172000, x172001, x172002, x172003, x172004 => if x22 = true then ((crossbucklaw16_awake.f).bind fun t174 => (some t174)) else ((crossbuckref16_Count.f x0).bind fun t175 => (crossbucklaw16_RegionFilters.l0 k x0 t175 0 x171000 x171001 x171002 x171003 x171004 x171005 x171006 x171007 x171008 x172000 x172001 x172002 x172003 x172004))
def crossbucklaw16_RegionFilters.l0 : Nat → Int → Int → Int → Int → Int → Int → Int → Int → Int → Int → Int → Int → Int → Int → Int → Int → Int → Option (Bool)
  | 0, _, _, _, _, _, _, _, _, _, _, _, _, _, _, _, _, _ => none
  | k + 1, x0, x25, x26, x171000, x171001, x171002, x171003, x171004, x171005, x171006, x171007, x171008, x172000, x172001, x172002, x172003, x172004 => if x26 < x25 then ((region_Part.f k x0 x26 x171000 x171001 x171002 x171003 x171004 x171005 x171006 x171007 x171008).bind fun bt199 => ((crossbuckref16_Index.f x0 x172000).bind fun t210 => (if x26 = t210 then ((crossbuckref04_Match.f k x171000 x171001 x171002 x171003 x171004 x171005 x171006 x171007 x171008 x172000 x172001 x172002 x172003 x172004).bind fun t211 => (crossbucklaw16_RegionFilters.j2 k x0 bt199.2.2.2.2.2.2.2.2.2 t211 x25 x26 x171000 x171001 x171002 x171003 x171004 x171005 x171006 x171007 x171008 x172000 x172001 x172002 x172003 x172004 bt199.1 bt199.2.1 bt199.2.2.1 bt199.2.2.2.1 bt199.2.2.2.2.1 bt199.2.2.2.2.2.1 bt199.2.2.2.2.2.2.1 bt199.2.2.2.2.2.2.2.1 bt199.2.2.2.2.2.2.2.2.1)) else (crossbucklaw16_RegionFilters.j2 k x0 bt199.2.2.2.2.2.2.2.2.2 false x25 x26 x171000 x171001 x171002 x171003 x171004 x171005 x171006 x171007 x171008 x172000 x172001 x172002 x172003 x172004 bt199.1 bt199.2.1 bt199.2.2.1 bt199.2.2.2.1 bt199.2.2.2.2.1 bt199.2.2.2.2.2.1 bt199.2.2.2.2.2.2.1 bt199.2.2.2.2.2.2.2.1 bt199.2.2.2.2.2.2.2.2.1)))) else ((region_Part.f k x0 (-1) x171000 x171001 x171002 x171003 x171004 x171005 x171006 x171007 x171008).bind fun bt176 => ((region_Part.f k x0 8 x171000 x171001 x171002 x171003 x171004 x171005 x171006 x171007 x171008).bind fun bt187 => ((crossbucklaw16_awake.f).bind fun t198 => (if t198 = true then (if bt176.2.2.2.2.2.2.2.2.2 = true then (some false) else (some (!bt187.2.2.2.2.2.2.2.2.2))) else (some false)))))
def crossbucklaw16_RegionFilters.j2 : Nat → Int → Bool → Bool → Int → Int → Int → Int → Int → Int → Int → Int → Int → Int → Int → Int → Int → Int → Int → Int → Int → Int → Int → Int → Int → Int → Int → Int → Int → Option (Bool)
  | 0, _, _, _, _, _, _, _, _, _, _, _, _, _, _, _, _, _, _, _, _, _, _, _, _, _, _, _, _ => none
  | k + 1, x0, x9, x10, x25, x26, x171000, x171001, x171002, x171003, x171004, x171005, x171006, x171007, x171008, x172000, x172001, x172002, x172003, x172004, x210000, x210001, x210002, x210003, x210004, x210005, x210006, x210007, x210008 => if x9 = true then ((crossbuckref04_Check.f k x210000 x210001 x210002 x210003 x210004 x210005 x210006 x210007 x210008).bind fun t212 => (if t212 = 0 then ((crossbuckref04_Match.f k x210000 x210001 x210002 x210003 x210004 x210005 x210006 x210007 x210008 x172000 x172001 x172002 x172003 x172004).bind fun t213 => (if (t213 != x10) = true then (some false) else (crossbucklaw16_RegionFilters.l0 k x0 x25 (wrap64 (x26 + 1)) x171000 x171001 x171002 x171003 x171004 x171005 x171006 x171007 x171008 x172000 x172001 x172002 x172003 x172004))) else (some false))) else (if x10 = true then (some false) else (if ((!(x210000 == 0) || (!(x210001 == 0))) || ((!(x210002 == 0) || (!(x210003 == 0))) || (!(x210004 == 0) || ((!(x210005 == 0) || (!(x210006 == 0))) || ((!(x210007 == 0) || (!(x210008 == 0)))))))) = true then (some false) else (crossbucklaw16_RegionFilters.l0 k x0 x25 (wrap64 (x26 + 1)) x171000 x171001 x171002 x171003 x171004 x171005 x171006 x171007 x171008 x172000 x172001 x172002 x172003 x172004)))
end
def crossbucklaw16_RegionFilters.f (k : Nat) (a0 : Int) (a1_0 : Int) (a1_1 : Int) (a1_2 : Int) (a1_3 : Int) (a1_4 : Int) (a1_5 : Int) (a1_6 : Int) (a1_7 : Int) (a1_8 : Int) (a2_0 : Int) (a2_1 : Int) (a2_2 : Int) (a2_3 : Int) (a2_4 : Int) : Option (Bool) := (crossbuckref04_Check.f k a1_0 a1_1 a1_2 a1_3 a1_4 a1_5 a1_6 a1_7 a1_8).bind fun t172 => (if t172 = 0 then ((crossbuckref16_Count.f a0).bind fun t173 => (crossbucklaw16_RegionFilters.j0 k a0 (t173 == 0) a1_0 a1_1 a1_2 a1_3 a1_4 a1_5 a1_6 a1_7 a1_8 a2_0 a2_1 a2_2 a2_3 a2_4)) else (crossbucklaw16_RegionFilters.j0 k a0 true a1_0 a1_1 a1_2 a1_3 a1_4 a1_5 a1_6 a1_7 a1_8 a2_0 a2_1 a2_2 a2_3 a2_4))
theorem crossbucklaw16_RegionFilters.mono_l : ∀ k, (∀ y0 y1 y2 y3 y4 y5 y6 y7 y8 y9 y10 y11 y12 y13 y14 y15, LeO (crossbucklaw16_RegionFilters.j0 k y0 y1 y2 y3 y4 y5 y6 y7 y8 y9 y10 y11 y12 y13 y14 y15) (crossbucklaw16_RegionFilters.j0 (k + 1) y0 y1 y2 y3 y4 y5 y6 y7 y8 y9 y10 y11 y12 y13 y14 y15)) ∧ (∀ y0 y1 y2 y3 y4 y5 y6 y7 y8 y9 y10 y11 y12 y13 y14 y15 y16, LeO (crossbucklaw16_RegionFilters.l0 k y0 y1 y2 y3 y4 y5 y6 y7 y8 y9 y10 y11 y12 y13 y14 y15 y16) (crossbucklaw16_RegionFilters.l0 (k + 1) y0 y1 y2 y3 y4 y5 y6 y7 y8 y9 y10 y11 y12 y13 y14 y15 y16)) ∧ (∀ y0 y1 y2 y3 y4 y5 y6 y7 y8 y9 y10 y11 y12 y13 y14 y15 y16 y17 y18 y19 y20 y21 y22 y23 y24 y25 y26 y27, LeO (crossbucklaw16_RegionFilters.j2 k y0 y1 y2 y3 y4 y5 y6 y7 y8 y9 y10 y11 y12 y13 y14 y15 y16 y17 y18 y19 y20 y21 y22 y23 y24 y25 y26 y27) (crossbucklaw16_RegionFilters.j2 (k + 1) y0 y1 y2 y3 y4 y5 y6 y7 y8 y9 y10 y11 y12 y13 y14 y15 y16 y17 y18 y19 y20 y21 y22 y23 y24 y25 y26 y27))
  | 0 => ⟨fun _ _ _ _ _ _ _ _ _ _ _ _ _ _ _ _ r h => by simp [crossbucklaw16_RegionFilters.j0] at h, fun _ _ _ _ _ _ _ _ _ _ _ _ _ _ _ _ _ r h => by simp [crossbucklaw16_RegionFilters.l0] at h, fun _ _ _ _ _ _ _ _ _ _ _ _ _ _ _ _ _ _ _ _ _ _ _ _ _ _ _ _ r h => by simp [crossbucklaw16_RegionFilters.j2] at h⟩
  | k + 1 => by
    obtain ⟨ih0, ih1, ih2⟩ := crossbucklaw16_RegionFilters.mono_l k
    refine ⟨?_, ?_, ?_⟩
    · intro y0 y1 y2 y3 y4 y5 y6 y7 y8 y9 y10 y11 y12 y13 y14 y15
      unfold crossbucklaw16_RegionFilters.j0
      repeat' first
      | (with_reducible exact ih0 _ _ _ _ _ _ _ _ _ _ _ _ _ _ _ _)
      | (with_reducible exact ih1 _ _ _ _ _ _ _ _ _ _ _ _ _ _ _ _ _)
      | (with_reducible exact ih2 _ _ _ _ _ _ _ _ _ _ _ _ _ _ _ _ _ _ _ _ _ _ _ _ _ _ _ _)
      | (with_reducible exact crossbuckref04_Check.mono _ _ _ _ _ _ _ _ _ _)
      | (with_reducible exact crossbuckref04_Match.mono _ _ _ _ _ _ _ _ _ _ _ _ _ _ _)
      | (with_reducible exact region_Part.mono _ _ _ _ _ _ _ _ _ _ _ _)
      | (with_reducible exact LeO.refl _)
      | (with_reducible exact LeO.none _)
      | (with_reducible refine LeO.ite ?_ ?_)
      | (with_reducible refine LeO.bind ?_ (fun _ => ?_))
      | exact ih0 _ _ _ _ _ _ _ _ _ _ _ _ _ _ _ _
      | exact ih1 _ _ _ _ _ _ _ _ _ _ _ _ _ _ _ _ _
      | exact ih2 _ _ _ _ _ _ _ _ _ _ _ _ _ _ _ _ _ _ _ _ _ _ _ _ _ _ _ _
      | exact crossbuckref04_Check.mono _ _ _ _ _ _ _ _ _ _
      | exact crossbuckref04_Match.mono _ _ _ _ _ _ _ _ _ _ _ _ _ _ _
      | exact region_Part.mono _ _ _ _ _ _ _ _ _ _ _ _
      | exact LeO.none _
      | refine LeO.ite ?_ ?_
      | refine LeO.bind ?_ (fun _ => ?_)
    · intro y0 y1 y2 y3 y4 y5 y6 y7 y8 y9 y10 y11 y12 y13 y14 y15 y16
      unfold crossbucklaw16_RegionFilters.l0
      repeat' first
      | (with_reducible exact ih0 _ _ _ _ _ _ _ _ _ _ _ _ _ _ _ _)
      | (with_reducible exact ih1 _ _ _ _ _ _ _ _ _ _ _ _ _ _ _ _ _)
      | (with_reducible exact ih2 _ _ _ _ _ _ _ _ _ _ _ _ _ _ _ _ _ _ _ _ _ _ _ _ _ _ _ _)
      | (with_reducible exact crossbuckref04_Check.mono _ _ _ _ _ _ _ _ _ _)
      | (with_reducible exact crossbuckref04_Match.mono _ _ _ _ _ _ _ _ _ _ _ _ _ _ _)
      | (with_reducible exact region_Part.mono _ _ _ _ _ _ _ _ _ _ _ _)
      | (with_reducible exact LeO.refl _)
      | (with_reducible exact LeO.none _)
      | (with_reducible refine LeO.ite ?_ ?_)
      | (with_reducible refine LeO.bind ?_ (fun _ => ?_))
      | exact ih0 _ _ _ _ _ _ _ _ _ _ _ _ _ _ _ _
      | exact ih1 _ _ _ _ _ _ _ _ _ _ _ _ _ _ _ _ _
      | exact ih2 _ _ _ _ _ _ _ _ _ _ _ _ _ _ _ _ _ _ _ _ _ _ _ _ _ _ _ _
      | exact crossbuckref04_Check.mono _ _ _ _ _ _ _ _ _ _
      | exact crossbuckref04_Match.mono _ _ _ _ _ _ _ _ _ _ _ _ _ _ _
      | exact region_Part.mono _ _ _ _ _ _ _ _ _ _ _ _
      | exact LeO.none _
      | refine LeO.ite ?_ ?_
      | refine LeO.bind ?_ (fun _ => ?_)
    · intro y0 y1 y2 y3 y4 y5 y6 y7 y8 y9 y10 y11 y12 y13 y14 y15 y16 y17 y18 y19 y20 y21 y22 y23 y24 y25 y26 y27
      unfold crossbucklaw16_RegionFilters.j2
      repeat' first
      | (with_reducible exact ih0 _ _ _ _ _ _ _ _ _ _ _ _ _ _ _ _)
      | (with_reducible exact ih1 _ _ _ _ _ _ _ _ _ _ _ _ _ _ _ _ _)
      | (with_reducible exact ih2 _ _ _ _ _ _ _ _ _ _ _ _ _ _ _ _ _ _ _ _ _ _ _ _ _ _ _ _)
      | (with_reducible exact crossbuckref04_Check.mono _ _ _ _ _ _ _ _ _ _)
      | (with_reducible exact crossbuckref04_Match.mono _ _ _ _ _ _ _ _ _ _ _ _ _ _ _)
      | (with_reducible exact region_Part.mono _ _ _ _ _ _ _ _ _ _ _ _)
      | (with_reducible exact LeO.refl _)
      | (with_reducible exact LeO.none _)
      | (with_reducible refine LeO.ite ?_ ?_)
      | (with_reducible refine LeO.bind ?_ (fun _ => ?_))
      | exact ih0 _ _ _ _ _ _ _ _ _ _ _ _ _ _ _ _
      | exact ih1 _ _ _ _ _ _ _ _ _ _ _ _ _ _ _ _ _
      | exact ih2 _ _ _ _ _ _ _ _ _ _ _ _ _ _ _ _ _ _ _ _ _ _ _ _ _ _ _ _
      | exact crossbuckref04_Check.mono _ _ _ _ _ _ _ _ _ _
      | exact crossbuckref04_Match.mono _ _ _ _ _ _ _ _ _ _ _ _ _ _ _
      | exact region_Part.mono _ _ _ _ _ _ _ _ _ _ _ _
      | exact LeO.none _
      | refine LeO.ite ?_ ?_
      | refine LeO.bind ?_ (fun _ => ?_)
theorem crossbucklaw16_RegionFilters.mono : ∀ a0 a1 a2 a3 a4 a5 a6 a7 a8 a9 a10 a11 a12 a13 a14 k, LeO (crossbucklaw16_RegionFilters.f k a0 a1 a2 a3 a4 a5 a6 a7 a8 a9 a10 a11 a12 a13 a14) (crossbucklaw16_RegionFilters.f (k + 1) a0 a1 a2 a3 a4 a5 a6 a7 a8 a9 a10 a11 a12 a13 a14) := by
  intro a0 a1 a2 a3 a4 a5 a6 a7 a8 a9 a10 a11 a12 a13 a14 k
  obtain ⟨ih0, ih1, ih2⟩ := crossbucklaw16_RegionFilters.mono_l k
  unfold crossbucklaw16_RegionFilters.f
  repeat' first
      | (with_reducible exact ih0 _ _ _ _ _ _ _ _ _ _ _ _ _ _ _ _)
      | (with_reducible exact ih1 _ _ _ _ _ _ _ _ _ _ _ _ _ _ _ _ _)
      | (with_reducible exact ih2 _ _ _ _ _ _ _ _ _ _ _ _ _ _ _ _ _ _ _ _ _ _ _ _ _ _ _ _)
      | (with_reducible exact crossbuckref04_Check.mono _ _ _ _ _ _ _ _ _ _)
      | (with_reducible exact crossbuckref04_Match.mono _ _ _ _ _ _ _ _ _ _ _ _ _ _ _)
      | (with_reducible exact region_Part.mono _ _ _ _ _ _ _ _ _ _ _ _)
      | (with_reducible exact LeO.refl _)
      | (with_reducible exact LeO.none _)
      | (with_reducible refine LeO.ite ?_ ?_)
      | (with_reducible refine LeO.bind ?_ (fun _ => ?_))
      | exact ih0 _ _ _ _ _ _ _ _ _ _ _ _ _ _ _ _
      | exact ih1 _ _ _ _ _ _ _ _ _ _ _ _ _ _ _ _ _
      | exact ih2 _ _ _ _ _ _ _ _ _ _ _ _ _ _ _ _ _ _ _ _ _ _ _ _ _ _ _ _
      | exact crossbuckref04_Check.mono _ _ _ _ _ _ _ _ _ _
      | exact crossbuckref04_Match.mono _ _ _ _ _ _ _ _ _ _ _ _ _ _ _
      | exact region_Part.mono _ _ _ _ _ _ _ _ _ _ _ _
      | exact LeO.none _
      | refine LeO.ite ?_ ?_
      | refine LeO.bind ?_ (fun _ => ?_)
set_option maxHeartbeats 8000000 in
set_option maxRecDepth 100000 in
theorem crossbucklaw16_RegionFilters.calls (k : Nat) (a0 : Int) (a1_0 : Int) (a1_1 : Int) (a1_2 : Int) (a1_3 : Int) (a1_4 : Int) (a1_5 : Int) (a1_6 : Int) (a1_7 : Int) (a1_8 : Int) (a2_0 : Int) (a2_1 : Int) (a2_2 : Int) (a2_3 : Int) (a2_4 : Int) (r : Bool) (w : World) (h : crossbucklaw16_RegionFilters.f k a0 a1_0 a1_1 a1_2 a1_3 a1_4 a1_5 a1_6 a1_7 a1_8 a2_0 a2_1 a2_2 a2_3 a2_4 = some r) (hT : Aside0 (r = true)) :
    Calls Try.prog 8 #[.int .i64 a0, .agg #[.int .u32 a1_0, .int .i64 a1_1, .int .u32 a1_2, .int .i64 a1_3, .int .i64 a1_4, .int .u16 a1_5, .int .u16 a1_6, .int .u16 a1_7, .int .u16 a1_8], .agg #[.int .u32 a2_0, .int .u32 a2_1, .int .u8 a2_2, .int .u16 a2_3, .int .u16 a2_4]] w fun e w' => e = .returned (.bool r) ∧ Below w.heap.size w w' := by
  have hu49 := Try.underlying49
  have hu51 := Try.underlying51
  have HB := Aside0.mk (Below.refl w.heap.size w)
  have H : ((crossbuckref04_Check.f k a1_0 a1_1 a1_2 a1_3 a1_4 a1_5 a1_6 a1_7 a1_8).bind fun t172 => (if t172 = 0 then ((crossbuckref16_Count.f a0).bind fun t173 => (crossbucklaw16_RegionFilters.j0 k a0 (t173 == 0) a1_0 a1_1 a1_2 a1_3 a1_4 a1_5 a1_6 a1_7 a1_8 a2_0 a2_1 a2_2 a2_3 a2_4)) else (crossbucklaw16_RegionFilters.j0 k a0 true a1_0 a1_1 a1_2 a1_3 a1_4 a1_5 a1_6 a1_7 a1_8 a2_0 a2_1 a2_2 a2_3 a2_4))) = some r := h
  clear h
  have HC4 := Aside0.mk H
  clear H
  go_enter Try.func8, Try.ntmps8
  go_upto_region 1 with (first | ((with_reducible refine gate_dst (N := 4) rfl ?_); refine box_event ?hg (N := 4) ?hd (cs := #[.int .u32 a1_0, .int .i64 a1_1, .int .u32 a1_2, .int .i64 a1_3, .int .i64 a1_4, .int .u16 a1_5, .int .u16 a1_6, .int .u16 a1_7, .int .u16 a1_8]) (t := 49) ?hr ?_; (case hd => rfl); (case hg => rfl); (case hr => first | (go_simp; done) | (go_simp; rfl)); intro gb170 hg w5 hbox hb; have n0_ := Aside0.mk (below_step (by repeat (first | (with_reducible first | exact HB.out | apply below_alloc | apply pw_below_drewN | apply below_drew1) | exact HB.out)) hb); have n1_ := Aside0.mk (hbox); have n2_ := Aside0.mk ((by rw [hg]; exact (below_size (by repeat (first | (with_reducible first | exact HB.out | apply below_alloc | apply pw_below_drewN | apply below_drew1) | exact HB.out))) : w.heap.size ≤ gb170)); have n3_ := Aside0.mk ((by rw [hg]; exact (below_size (by repeat (first | (with_reducible first | exact HB.out | apply below_alloc | apply pw_below_drewN | apply below_drew1) | exact HB.out))) : w.heap.size ≤ gb170)); clear HB; have HB := n0_; have BK170 := n1_; have GW170 := n2_; have GE170 := n3_; clear n0_ n1_ n2_ n3_; clear hb hbox hg) | ((with_reducible refine gate_dst (N := 5) rfl ?_); refine box_event ?hg (N := 5) ?hd (cs := #[.int .u32 a2_0, .int .u32 a2_1, .int .u8 a2_2, .int .u16 a2_3, .int .u16 a2_4]) (t := 51) ?hr ?_; (case hd => rfl); (case hg => rfl); (case hr => first | (go_simp; done) | (go_simp; rfl)); intro gb171 hg w6 hbox hb; have n0_ := Aside0.mk (blk_below (g := gb170) (o := .cells #[.int .u32 a1_0, .int .i64 a1_1, .int .u32 a1_2, .int .i64 a1_3, .int .i64 a1_4, .int .u16 a1_5, .int .u16 a1_6, .int .u16 a1_7, .int .u16 a1_8] 49 (0, 0)) (by (with_reducible repeat (first | refine blk_drewN ?_ _ | refine blk_drew ?_ | refine blk_alloc ?_ _)); exact BK170.out) hb); have n1_ := Aside0.mk (below_step (by repeat (first | (with_reducible first | exact HB.out | apply below_alloc | apply pw_below_drewN | apply below_drew1 | refine below_set ?_ GE170.out) | exact HB.out)) hb); have n2_ := Aside0.mk (hbox); have n3_ := Aside0.mk ((by rw [hg]; exact (below_size (by repeat (first | (with_reducible first | exact HB.out | apply below_alloc | apply pw_below_drewN | apply below_drew1 | refine below_set ?_ GE170.out) | exact HB.out))) : w.heap.size ≤ gb171)); have n4_ := Aside0.mk ((by rw [hg]; exact (below_size (by repeat (first | (with_reducible first | exact HB.out | apply below_alloc | apply pw_below_drewN | apply below_drew1 | refine below_set ?_ GE170.out) | exact HB.out))) : w.heap.size ≤ gb171)); have n5_ := Aside0.mk ((by rw [hg]; exact Nat.ne_of_lt (blk_lt (g := gb170) (o := .cells #[.int .u32 a1_0, .int .i64 a1_1, .int .u32 a1_2, .int .i64 a1_3, .int .i64 a1_4, .int .u16 a1_5, .int .u16 a1_6, .int .u16 a1_7, .int .u16 a1_8] 49 (0, 0)) (by (with_reducible repeat (first | refine blk_drewN ?_ _ | refine blk_drew ?_ | refine blk_alloc ?_ _)); exact BK170.out)) : gb170 ≠ gb171)); have n6_ := Aside0.mk ((by rw [hg]; exact Nat.ne_of_gt (blk_lt (g := gb170) (o := .cells #[.int .u32 a1_0, .int .i64 a1_1, .int .u32 a1_2, .int .i64 a1_3, .int .i64 a1_4, .int .u16 a1_5, .int .u16 a1_6, .int .u16 a1_7, .int .u16 a1_8] 49 (0, 0)) (by (with_reducible repeat (first | refine blk_drewN ?_ _ | refine blk_drew ?_ | refine blk_alloc ?_ _)); exact BK170.out)) : gb171 ≠ gb170)); clear BK170; clear HB; have BK170 := n0_; have HB := n1_; have BK171 := n2_; have GW171 := n3_; have GE171 := n4_; have NB170_171 := n5_; have NB171_170 := n6_; clear n0_ n1_ n2_ n3_ n4_ n5_ n6_; clear hb hbox hg))
  (try simp only [Act.put, List.setIfInBounds_toArray, List.set_cons_zero, List.set_cons_succ])
  go_cut [22] (fun v22 wc => ∃ (kq : Nat) (x22_3 : Bool), v22 = .bool x22_3 ∧ Aside0 (crossbucklaw16_RegionFilters.j0 kq a0 x22_3 a1_0 a1_1 a1_2 a1_3 a1_4 a1_5 a1_6 a1_7 a1_8 a2_0 a2_1 a2_2 a2_3 a2_4 = some r) ∧ Aside0 (kq ≤ k) ∧ Aside0 (wc.heap[gb170]? = some (.cells #[.int .u32 a1_0, .int .i64 a1_1, .int .u32 a1_2, .int .i64 a1_3, .int .i64 a1_4, .int .u16 a1_5, .int .u16 a1_6, .int .u16 a1_7, .int .u16 a1_8] 49 (0, 0))) ∧ Aside0 (wc.heap[gb171]? = some (.cells #[.int .u32 a2_0, .int .u32 a2_1, .int .u8 a2_2, .int .u16 a2_3, .int .u16 a2_4] 51 (0, 0))) ∧ Aside0 (Below w.heap.size w wc))
  case first =>
    have H := HC4.out
    clear HC4
    replace H := Option.bind_eq_some_iff.mp H
    obtain ⟨t172, A70, H⟩ := H
    replace H : (if t172 = 0 then ((crossbuckref16_Count.f a0).bind fun t173 => (crossbucklaw16_RegionFilters.j0 k a0 (t173 == 0) a1_0 a1_1 a1_2 a1_3 a1_4 a1_5 a1_6 a1_7 a1_8 a2_0 a2_1 a2_2 a2_3 a2_4)) else (crossbucklaw16_RegionFilters.j0 k a0 true a1_0 a1_1 a1_2 a1_3 a1_4 a1_5 a1_6 a1_7 a1_8 a2_0 a2_1 a2_2 a2_3 a2_4)) = some r := H
    have A7 := Aside0.mk A70
    clear A70
    by_cases c8 : t172 = 0
    · rw [if_pos c8] at H
      have c8b0 : (t172 == 0) = true := beq_iff_eq.mpr c8
      have c8b1 : (t172 != 0) = false := bne_eq_false_iff_eq.mpr c8
      clear c8
      (first | rw [c8b0] | (simp only [i64_w, i32_w]; rw [c8b0]) | skip)
      replace H := Option.bind_eq_some_iff.mp H
      obtain ⟨t173, A90, H⟩ := H
      replace H : (crossbucklaw16_RegionFilters.j0 k a0 (t173 == 0) a1_0 a1_1 a1_2 a1_3 a1_4 a1_5 a1_6 a1_7 a1_8 a2_0 a2_1 a2_2 a2_3 a2_4) = some r := H
      have A9 := Aside0.mk A90
      clear A90
      have H' := Aside0.mk H
      clear H
      have hnb10 := NB170_171.out
      have hnc10 := NB171_170.out
      have hcz11_0 : w6.cell? ⟨gb170, 0, none⟩ = some (.int .u32 a1_0) := (blk_cell BK170.out 0).trans rfl
      have hcz11_1 : w6.cell? ⟨gb170, 1, none⟩ = some (.int .i64 a1_1) := (blk_cell BK170.out 1).trans rfl
      have hcz11_2 : w6.cell? ⟨gb170, 2, none⟩ = some (.int .u32 a1_2) := (blk_cell BK170.out 2).trans rfl
      have hcz11_3 : w6.cell? ⟨gb170, 3, none⟩ = some (.int .i64 a1_3) := (blk_cell BK170.out 3).trans rfl
      have hcz11_4 : w6.cell? ⟨gb170, 4, none⟩ = some (.int .i64 a1_4) := (blk_cell BK170.out 4).trans rfl
      have hcz11_5 : w6.cell? ⟨gb170, 5, none⟩ = some (.int .u16 a1_5) := (blk_cell BK170.out 5).trans rfl
      have hcz11_6 : w6.cell? ⟨gb170, 6, none⟩ = some (.int .u16 a1_6) := (blk_cell BK170.out 6).trans rfl
      have hcz11_7 : w6.cell? ⟨gb170, 7, none⟩ = some (.int .u16 a1_7) := (blk_cell BK170.out 7).trans rfl
      have hcz11_8 : w6.cell? ⟨gb170, 8, none⟩ = some (.int .u16 a1_8) := (blk_cell BK170.out 8).trans rfl
      have hfz11_0 := blk_frozen BK170.out 0
      have hfz11_1 := blk_frozen BK170.out 1
      have hfz11_2 := blk_frozen BK170.out 2
      have hfz11_3 := blk_frozen BK170.out 3
      have hfz11_4 := blk_frozen BK170.out 4
      have hfz11_5 := blk_frozen BK170.out 5
      have hfz11_6 := blk_frozen BK170.out 6
      have hfz11_7 := blk_frozen BK170.out 7
      have hfz11_8 := blk_frozen BK170.out 8
      go_wp2_with (first | ((with_reducible refine gate_callee (f := 28) rfl ?_); refine goesL_ (some 16) rfl rfl Try.func28 (by kernel_rfl) rfl #[.agg #[.int .u32 a1_0, .int .i64 a1_1, .int .u32 a1_2, .int .i64 a1_3, .int .i64 a1_4, .int .u16 a1_5, .int .u16 a1_6, .int .u16 a1_7, .int .u16 a1_8]] rfl (by (try simp only [List.map_toArray, List.map_cons, List.map_nil]); first | done | rfl | (simp only [List.length_drop, List.length_take]; rfl)) ?_; (with_reducible refine (crossbuckref04_Check.calls k a1_0 a1_1 a1_2 a1_3 a1_4 a1_5 a1_6 a1_7 a1_8 t172 _ A7.out).mono ?_); rintro e w12 ⟨rfl, hb⟩; refine ⟨_, rfl, ?_⟩; have n0_ := Aside0.mk (blk_below (g := gb170) (o := .cells #[.int .u32 a1_0, .int .i64 a1_1, .int .u32 a1_2, .int .i64 a1_3, .int .i64 a1_4, .int .u16 a1_5, .int .u16 a1_6, .int .u16 a1_7, .int .u16 a1_8] 49 (0, 0)) (by (with_reducible repeat (first | refine blk_drewN ?_ _ | refine blk_drew ?_ | refine blk_alloc ?_ _)); exact BK170.out) hb); have n1_ := Aside0.mk (blk_below (g := gb171) (o := .cells #[.int .u32 a2_0, .int .u32 a2_1, .int .u8 a2_2, .int .u16 a2_3, .int .u16 a2_4] 51 (0, 0)) (by (with_reducible repeat (first | refine blk_drewN ?_ _ | refine blk_drew ?_ | refine blk_alloc ?_ _)); exact BK171.out) hb); have n2_ := Aside0.mk (below_step (by repeat (first | (with_reducible first | exact HB.out | apply below_alloc | apply pw_below_drewN | apply below_drew1 | refine below_set ?_ GE170.out | refine below_set ?_ GE171.out) | exact HB.out)) hb); clear BK170; clear BK171; clear HB; have BK170 := n0_; have BK171 := n1_; have HB := n2_; clear n0_ n1_ n2_; (try clear hb); (try clear hb2); (try clear hk); (try clear hi)) | (go_at_call 14; (with_reducible refine (crossbuckref16_Count.calls a0 t173 _ A9.out).mono ?_); rintro e w' ⟨rfl, ⟨nd, rfl⟩⟩))
      go_meet
      case rel => exact ⟨_, ((t173 == 0)), (by first | rfl | (simp; done) | (simp [*]; done)), H', ⟨by first | omega | exact Nat.le_refl _⟩, ⟨by (with_reducible repeat (first | refine blk_drewN ?_ _ | refine blk_drew ?_ | refine blk_alloc ?_ _)); exact BK170.out⟩, ⟨by (with_reducible repeat (first | refine blk_drewN ?_ _ | refine blk_drew ?_ | refine blk_alloc ?_ _)); exact BK171.out⟩, ⟨by repeat (first | (with_reducible first | exact HB.out | apply below_alloc | apply pw_below_drewN | apply below_drew1 | refine below_set ?_ GE170.out | refine below_set ?_ GE171.out) | exact HB.out)⟩⟩
    · rw [if_neg c8] at H
      have c8b0 : (t172 == 0) = false := beq_eq_false_iff_ne.mpr c8
      have c8b1 : (t172 != 0) = true := bne_iff_ne.mpr c8
      (first | rw [c8b0] | (simp only [i64_w, i32_w]; rw [c8b0]) | skip)
      have H' := Aside0.mk H
      clear H
      have hnb13 := NB170_171.out
      have hnc13 := NB171_170.out
      have hcz14_0 : w6.cell? ⟨gb170, 0, none⟩ = some (.int .u32 a1_0) := (blk_cell BK170.out 0).trans rfl
      have hcz14_1 : w6.cell? ⟨gb170, 1, none⟩ = some (.int .i64 a1_1) := (blk_cell BK170.out 1).trans rfl
      have hcz14_2 : w6.cell? ⟨gb170, 2, none⟩ = some (.int .u32 a1_2) := (blk_cell BK170.out 2).trans rfl
      have hcz14_3 : w6.cell? ⟨gb170, 3, none⟩ = some (.int .i64 a1_3) := (blk_cell BK170.out 3).trans rfl
      have hcz14_4 : w6.cell? ⟨gb170, 4, none⟩ = some (.int .i64 a1_4) := (blk_cell BK170.out 4).trans rfl
      have hcz14_5 : w6.cell? ⟨gb170, 5, none⟩ = some (.int .u16 a1_5) := (blk_cell BK170.out 5).trans rfl
      have hcz14_6 : w6.cell? ⟨gb170, 6, none⟩ = some (.int .u16 a1_6) := (blk_cell BK170.out 6).trans rfl
      have hcz14_7 : w6.cell? ⟨gb170, 7, none⟩ = some (.int .u16 a1_7) := (blk_cell BK170.out 7).trans rfl
      have hcz14_8 : w6.cell? ⟨gb170, 8, none⟩ = some (.int .u16 a1_8) := (blk_cell BK170.out 8).trans rfl
      have hfz14_0 := blk_frozen BK170.out 0
      have hfz14_1 := blk_frozen BK170.out 1
      have hfz14_2 := blk_frozen BK170.out 2
      have hfz14_3 := blk_frozen BK170.out 3
      have hfz14_4 := blk_frozen BK170.out 4
      have hfz14_5 := blk_frozen BK170.out 5
      have hfz14_6 := blk_frozen BK170.out 6
      have hfz14_7 := blk_frozen BK170.out 7
      have hfz14_8 := blk_frozen BK170.out 8
      go_wp2_with (first | ((with_reducible refine gate_callee (f := 28) rfl ?_); refine goesL_ (some 16) rfl rfl Try.func28 (by kernel_rfl) rfl #[.agg #[.int .u32 a1_0, .int .i64 a1_1, .int .u32 a1_2, .int .i64 a1_3, .int .i64 a1_4, .int .u16 a1_5, .int .u16 a1_6, .int .u16 a1_7, .int .u16 a1_8]] rfl (by (try simp only [List.map_toArray, List.map_cons, List.map_nil]); first | done | rfl | (simp only [List.length_drop, List.length_take]; rfl)) ?_; (with_reducible refine (crossbuckref04_Check.calls k a1_0 a1_1 a1_2 a1_3 a1_4 a1_5 a1_6 a1_7 a1_8 t172 _ A7.out).mono ?_); rintro e w15 ⟨rfl, hb⟩; refine ⟨_, rfl, ?_⟩; have n0_ := Aside0.mk (blk_below (g := gb170) (o := .cells #[.int .u32 a1_0, .int .i64 a1_1, .int .u32 a1_2, .int .i64 a1_3, .int .i64 a1_4, .int .u16 a1_5, .int .u16 a1_6, .int .u16 a1_7, .int .u16 a1_8] 49 (0, 0)) (by (with_reducible repeat (first | refine blk_drewN ?_ _ | refine blk_drew ?_ | refine blk_alloc ?_ _)); exact BK170.out) hb); have n1_ := Aside0.mk (blk_below (g := gb171) (o := .cells #[.int .u32 a2_0, .int .u32 a2_1, .int .u8 a2_2, .int .u16 a2_3, .int .u16 a2_4] 51 (0, 0)) (by (with_reducible repeat (first | refine blk_drewN ?_ _ | refine blk_drew ?_ | refine blk_alloc ?_ _)); exact BK171.out) hb); have n2_ := Aside0.mk (below_step (by repeat (first | (with_reducible first | exact HB.out | apply below_alloc | apply pw_below_drewN | apply below_drew1 | refine below_set ?_ GE170.out | refine below_set ?_ GE171.out) | exact HB.out)) hb); clear BK170; clear BK171; clear HB; have BK170 := n0_; have BK171 := n1_; have HB := n2_; clear n0_ n1_ n2_; (try clear hb); (try clear hb2); (try clear hk); (try clear hi)))
      go_meet
      case rel => exact ⟨_, (true), (by first | rfl | (simp; done) | (simp [*]; done)), H', ⟨by first | omega | exact Nat.le_refl _⟩, ⟨by (with_reducible repeat (first | refine blk_drewN ?_ _ | refine blk_drew ?_ | refine blk_alloc ?_ _)); exact BK170.out⟩, ⟨by (with_reducible repeat (first | refine blk_drewN ?_ _ | refine blk_drew ?_ | refine blk_alloc ?_ _)); exact BK171.out⟩, ⟨by repeat (first | (with_reducible first | exact HB.out | apply below_alloc | apply pw_below_drewN | apply below_drew1 | refine below_set ?_ GE170.out | refine below_set ?_ GE171.out) | exact HB.out)⟩⟩
  case rest =>
    clear HC4
    try clear c1
    try clear c2
    try clear p2
    try clear c8
    try clear c8b0
    try clear c8b1
    try clear c10
    try clear c13
    try clear hcz11_0
    try clear hcz11_1
    try clear hcz11_2
    try clear hcz11_3
    try clear hcz11_4
    try clear hcz11_5
    try clear hcz11_6
    try clear hcz11_7
    try clear hcz11_8
    try clear hcz14_0
    try clear hcz14_1
    try clear hcz14_2
    try clear hcz14_3
    try clear hcz14_4
    try clear hcz14_5
    try clear hcz14_6
    try clear hcz14_7
    try clear hcz14_8
    try clear hfz11_0
    try clear hfz11_1
    try clear hfz11_2
    try clear hfz11_3
    try clear hfz11_4
    try clear hfz11_5
    try clear hfz11_6
    try clear hfz11_7
    try clear hfz11_8
    try clear hfz14_0
    try clear hfz14_1
    try clear hfz14_2
    try clear hfz14_3
    try clear hfz14_4
    try clear hfz14_5
    try clear hfz14_6
    try clear hfz14_7
    try clear hfz14_8
    obtain ⟨kq, x22_3, rfl, HA, HJ3, BK170, BK171, HB⟩ := hcut
    cases kq with
    | zero => exact absurd HA.out (by simp [crossbucklaw16_RegionFilters.j0])
    | succ kj3 =>
      have H := HA.out
      clear HA
      simp only [crossbucklaw16_RegionFilters.j0] at H
      by_cases c16 : x22_3 = true
      · subst c16
        have H1 : ((crossbucklaw16_awake.f).bind fun t174 => (some t174)) = some r := by rw [if_pos rfl] at H; exact H
        clear H
        have H := H1
        clear H1
        replace H := Option.bind_eq_some_iff.mp H
        obtain ⟨t174, A170, H⟩ := H
        replace H : (some t174) = some r := H
        have A17 := Aside0.mk A170
        clear A170
        obtain rfl := Option.some.inj H
        go_wp2_with (first | ((with_reducible refine gate_callee (f := 22) rfl ?_); refine goesL_ (some 23) rfl rfl Try.func22 (by kernel_rfl) rfl #[] rfl (by (try simp only [List.map_toArray, List.map_cons, List.map_nil]); first | done | rfl | (simp only [List.length_drop, List.length_take]; rfl)) ?_; (with_reducible refine (crossbucklaw16_awake.calls  t174 _ A17.out).mono ?_); rintro e w18 ⟨rfl, hb⟩; refine ⟨_, rfl, ?_⟩; have n0_ := Aside0.mk (blk_below (g := gb170) (o := .cells #[.int .u32 a1_0, .int .i64 a1_1, .int .u32 a1_2, .int .i64 a1_3, .int .i64 a1_4, .int .u16 a1_5, .int .u16 a1_6, .int .u16 a1_7, .int .u16 a1_8] 49 (0, 0)) (by (with_reducible repeat (first | refine blk_drewN ?_ _ | refine blk_drew ?_ | refine blk_alloc ?_ _)); exact BK170.out) hb); have n1_ := Aside0.mk (blk_below (g := gb171) (o := .cells #[.int .u32 a2_0, .int .u32 a2_1, .int .u8 a2_2, .int .u16 a2_3, .int .u16 a2_4] 51 (0, 0)) (by (with_reducible repeat (first | refine blk_drewN ?_ _ | refine blk_drew ?_ | refine blk_alloc ?_ _)); exact BK171.out) hb); have n2_ := Aside0.mk (below_step (by repeat (first | (with_reducible first | exact HB.out | apply below_alloc | apply pw_below_drewN | apply below_drew1 | refine below_set ?_ GE170.out | refine below_set ?_ GE171.out) | exact HB.out)) hb); clear BK170; clear BK171; clear HB; have BK170 := n0_; have BK171 := n1_; have HB := n2_; clear n0_ n1_ n2_; (try clear hb); (try clear hb2); (try clear hk); (try clear hi)))
        go_ret
        exact ⟨by first | rfl | (simp [errW_none, errW_some] <;> rfl) | (simp [*, errW_none, errW_some] <;> rfl), by repeat (first | (with_reducible first | exact HB.out | apply below_alloc | apply pw_below_drewN | apply below_drew1 | refine below_set ?_ GE170.out | refine below_set ?_ GE171.out) | exact HB.out)⟩
      · replace c16 := Bool.eq_false_iff.mpr c16
        subst c16
        have H1 : ((crossbuckref16_Count.f a0).bind fun t175 => (crossbucklaw16_RegionFilters.l0 kj3 a0 t175 0 a1_0 a1_1 a1_2 a1_3 a1_4 a1_5 a1_6 a1_7 a1_8 a2_0 a2_1 a2_2 a2_3 a2_4)) = some r := by rw [if_neg (show ¬ (false = true) by decide)] at H; exact H
        clear H
        have H := H1
        clear H1
        replace H := Option.bind_eq_some_iff.mp H
        obtain ⟨t175, A190, H⟩ := H
        replace H : (crossbucklaw16_RegionFilters.l0 kj3 a0 t175 0 a1_0 a1_1 a1_2 a1_3 a1_4 a1_5 a1_6 a1_7 a1_8 a2_0 a2_1 a2_2 a2_3 a2_4) = some r := H
        have A19 := Aside0.mk A190
        clear A190
        have H' := Aside0.mk H
        clear H
        go_wp2_with (first | ((with_reducible refine gate_callee (f := 14) rfl ?_); refine goesL_ (some 25) rfl rfl Try.func14 (by kernel_rfl) rfl #[.int .i64 a0] rfl (by (try simp only [List.map_toArray, List.map_cons, List.map_nil]); first | done | rfl | (simp only [List.length_drop, List.length_take]; rfl)) ?_; (with_reducible refine (crossbuckref16_Count.calls a0 t175 _ A19.out).mono ?_); rintro e w' ⟨rfl, ⟨nd, rfl⟩⟩; refine ⟨_, rfl, ?_⟩))
        go_loopg [26] kj3 (fun kq v26 w' => ∃ (x26_2 : Int), v26 = .int .i64 x26_2 ∧ Aside0 (crossbucklaw16_RegionFilters.l0 kq a0 t175 x26_2 a1_0 a1_1 a1_2 a1_3 a1_4 a1_5 a1_6 a1_7 a1_8 a2_0 a2_1 a2_2 a2_3 a2_4 = some r) ∧ Aside0 (kq ≤ kj3) ∧ Aside0 (w'.heap[gb170]? = some (.cells #[.int .u32 a1_0, .int .i64 a1_1, .int .u32 a1_2, .int .i64 a1_3, .int .i64 a1_4, .int .u16 a1_5, .int .u16 a1_6, .int .u16 a1_7, .int .u16 a1_8] 49 (0, 0))) ∧ Aside0 (w'.heap[gb171]? = some (.cells #[.int .u32 a2_0, .int .u32 a2_1, .int .u8 a2_2, .int .u16 a2_3, .int .u16 a2_4] 51 (0, 0))) ∧ Aside0 (Below w.heap.size w w'))
        case atStart => exact ⟨(0), (by first | rfl | (simp; done) | (simp [*]; done)), H', ⟨Nat.le_refl _⟩, ⟨by (with_reducible repeat (first | refine blk_drewN ?_ _ | refine blk_drew ?_ | refine blk_alloc ?_ _)); exact BK170.out⟩, ⟨by (with_reducible repeat (first | refine blk_drewN ?_ _ | refine blk_drew ?_ | refine blk_alloc ?_ _)); exact BK171.out⟩, ⟨by repeat (first | (with_reducible first | exact HB.out | apply below_alloc | apply pw_below_drewN | apply below_drew1 | refine below_set ?_ GE170.out | refine below_set ?_ GE171.out) | exact HB.out)⟩⟩
        case round =>
          clear H'
          try clear c1
          try clear c2
          try clear p2
          try clear c8
          try clear c8b0
          try clear c8b1
          try clear c10
          try clear c13
          try clear c14
          try clear c16
          try clear hcz11_0
          try clear hcz11_1
          try clear hcz11_2
          try clear hcz11_3
          try clear hcz11_4
          try clear hcz11_5
          try clear hcz11_6
          try clear hcz11_7
          try clear hcz11_8
          try clear hcz14_0
          try clear hcz14_1
          try clear hcz14_2
          try clear hcz14_3
          try clear hcz14_4
          try clear hcz14_5
          try clear hcz14_6
          try clear hcz14_7
          try clear hcz14_8
          try clear hfz11_0
          try clear hfz11_1
          try clear hfz11_2
          try clear hfz11_3
          try clear hfz11_4
          try clear hfz11_5
          try clear hfz11_6
          try clear hfz11_7
          try clear hfz11_8
          try clear hfz14_0
          try clear hfz14_1
          try clear hfz14_2
          try clear hfz14_3
          try clear hfz14_4
          try clear hfz14_5
          try clear hfz14_6
          try clear hfz14_7
          try clear hfz14_8
          try clear p2
          obtain ⟨x26_2, rfl, HA, HK2, BK170, BK171, HB⟩ := hrel
          cases gk with
          | zero => exact absurd HA.out (by simp [crossbucklaw16_RegionFilters.l0])
          | succ k2 =>
            have H := HA.out
            clear HA
            simp only [crossbucklaw16_RegionFilters.l0] at H
            by_cases c20 : x26_2 < t175
            · rw [if_pos c20] at H
              have c20b0 : decide (x26_2 < t175) = true := decide_eq_true c20
              clear c20
              replace H := Option.bind_eq_some_iff.mp H
              obtain ⟨⟨t199, t200, t201, t202, t203, t204, t205, t206, t207, t208⟩, A210, H⟩ := H
              replace H : ((crossbuckref16_Index.f a0 a2_0).bind fun t210 => (if x26_2 = t210 then ((crossbuckref04_Match.f k2 a1_0 a1_1 a1_2 a1_3 a1_4 a1_5 a1_6 a1_7 a1_8 a2_0 a2_1 a2_2 a2_3 a2_4).bind fun t211 => (crossbucklaw16_RegionFilters.j2 k2 a0 t208 t211 t175 x26_2 a1_0 a1_1 a1_2 a1_3 a1_4 a1_5 a1_6 a1_7 a1_8 a2_0 a2_1 a2_2 a2_3 a2_4 t199 t200 t201 t202 t203 t204 t205 t206 t207)) else (crossbucklaw16_RegionFilters.j2 k2 a0 t208 false t175 x26_2 a1_0 a1_1 a1_2 a1_3 a1_4 a1_5 a1_6 a1_7 a1_8 a2_0 a2_1 a2_2 a2_3 a2_4 t199 t200 t201 t202 t203 t204 t205 t206 t207))) = some r := H
              have A21 := Aside0.mk A210
              clear A210
              have HC22 := Aside0.mk H
              clear H
              have hnb23 := NB170_171.out
              have hnc23 := NB171_170.out
              have hcz24_0 : wr.cell? ⟨gb170, 0, none⟩ = some (.int .u32 a1_0) := (blk_cell BK170.out 0).trans rfl
              have hcz24_1 : wr.cell? ⟨gb170, 1, none⟩ = some (.int .i64 a1_1) := (blk_cell BK170.out 1).trans rfl
              have hcz24_2 : wr.cell? ⟨gb170, 2, none⟩ = some (.int .u32 a1_2) := (blk_cell BK170.out 2).trans rfl
              have hcz24_3 : wr.cell? ⟨gb170, 3, none⟩ = some (.int .i64 a1_3) := (blk_cell BK170.out 3).trans rfl
              have hcz24_4 : wr.cell? ⟨gb170, 4, none⟩ = some (.int .i64 a1_4) := (blk_cell BK170.out 4).trans rfl
              have hcz24_5 : wr.cell? ⟨gb170, 5, none⟩ = some (.int .u16 a1_5) := (blk_cell BK170.out 5).trans rfl
              have hcz24_6 : wr.cell? ⟨gb170, 6, none⟩ = some (.int .u16 a1_6) := (blk_cell BK170.out 6).trans rfl
              have hcz24_7 : wr.cell? ⟨gb170, 7, none⟩ = some (.int .u16 a1_7) := (blk_cell BK170.out 7).trans rfl
              have hcz24_8 : wr.cell? ⟨gb170, 8, none⟩ = some (.int .u16 a1_8) := (blk_cell BK170.out 8).trans rfl
              have hfz24_0 := blk_frozen BK170.out 0
              have hfz24_1 := blk_frozen BK170.out 1
              have hfz24_2 := blk_frozen BK170.out 2
              have hfz24_3 := blk_frozen BK170.out 3
              have hfz24_4 := blk_frozen BK170.out 4
              have hfz24_5 := blk_frozen BK170.out 5
              have hfz24_6 := blk_frozen BK170.out 6
              have hfz24_7 := blk_frozen BK170.out 7
              have hfz24_8 := blk_frozen BK170.out 8
              go_upto_region 7 with (first | ((with_reducible refine gate_callee (f := 29) rfl ?_); refine goesL_ (some 33) rfl rfl Try.func29 (by kernel_rfl) rfl #[.int .i64 a0, .int .i64 x26_2, .agg #[.int .u32 a1_0, .int .i64 a1_1, .int .u32 a1_2, .int .i64 a1_3, .int .i64 a1_4, .int .u16 a1_5, .int .u16 a1_6, .int .u16 a1_7, .int .u16 a1_8]] rfl (by (try simp only [List.map_toArray, List.map_cons, List.map_nil]); first | done | rfl | (simp only [List.length_drop, List.length_take]; rfl)) ?_; (with_reducible refine (region_Part.calls k2 a0 x26_2 a1_0 a1_1 a1_2 a1_3 a1_4 a1_5 a1_6 a1_7 a1_8 t199 t200 t201 t202 t203 t204 t205 t206 t207 t208 _ A21.out).mono ?_); rintro e w25 ⟨rfl, hb⟩; refine ⟨_, rfl, ?_⟩; have n0_ := Aside0.mk (blk_below (g := gb170) (o := .cells #[.int .u32 a1_0, .int .i64 a1_1, .int .u32 a1_2, .int .i64 a1_3, .int .i64 a1_4, .int .u16 a1_5, .int .u16 a1_6, .int .u16 a1_7, .int .u16 a1_8] 49 (0, 0)) (by (with_reducible repeat (first | refine blk_drewN ?_ _ | refine blk_drew ?_ | refine blk_alloc ?_ _)); exact BK170.out) hb); have n1_ := Aside0.mk (blk_below (g := gb171) (o := .cells #[.int .u32 a2_0, .int .u32 a2_1, .int .u8 a2_2, .int .u16 a2_3, .int .u16 a2_4] 51 (0, 0)) (by (with_reducible repeat (first | refine blk_drewN ?_ _ | refine blk_drew ?_ | refine blk_alloc ?_ _)); exact BK171.out) hb); have n2_ := Aside0.mk (below_step (by repeat (first | (with_reducible first | exact HB.out | apply below_alloc | apply pw_below_drewN | apply below_drew1 | refine below_set ?_ GE170.out | refine below_set ?_ GE171.out) | exact HB.out)) hb); clear BK170; clear BK171; clear HB; have BK170 := n0_; have BK171 := n1_; have HB := n2_; clear n0_ n1_ n2_; (try clear hb); (try clear hb2); (try clear hk); (try clear hi)) | ((with_reducible refine gate_dst (N := 8) rfl ?_); refine box_event ?hg (N := 8) ?hd (cs := #[.int .u32 0, .int .i64 0, .int .u32 0, .int .i64 0, .int .i64 0, .int .u16 0, .int .u16 0, .int .u16 0, .int .u16 0]) (t := 49) ?hr ?_; (case hd => rfl); (case hg => rfl); (case hr => first | (go_simp; done) | (go_simp; rfl)); intro gb209 hg w26 hbox hb; have n0_ := Aside0.mk (blk_below (g := gb170) (o := .cells #[.int .u32 a1_0, .int .i64 a1_1, .int .u32 a1_2, .int .i64 a1_3, .int .i64 a1_4, .int .u16 a1_5, .int .u16 a1_6, .int .u16 a1_7, .int .u16 a1_8] 49 (0, 0)) (by (with_reducible repeat (first | refine blk_drewN ?_ _ | refine blk_drew ?_ | refine blk_alloc ?_ _)); exact BK170.out) hb); have n1_ := Aside0.mk (blk_below (g := gb171) (o := .cells #[.int .u32 a2_0, .int .u32 a2_1, .int .u8 a2_2, .int .u16 a2_3, .int .u16 a2_4] 51 (0, 0)) (by (with_reducible repeat (first | refine blk_drewN ?_ _ | refine blk_drew ?_ | refine blk_alloc ?_ _)); exact BK171.out) hb); have n2_ := Aside0.mk (below_step (by repeat (first | (with_reducible first | exact HB.out | apply below_alloc | apply pw_below_drewN | apply below_drew1 | refine below_set ?_ GE170.out | refine below_set ?_ GE171.out) | exact HB.out)) hb); have n3_ := Aside0.mk (hbox); have n4_ := Aside0.mk ((by rw [hg]; exact (below_size (by repeat (first | (with_reducible first | exact HB.out | apply below_alloc | apply pw_below_drewN | apply below_drew1 | refine below_set ?_ GE170.out | refine below_set ?_ GE171.out) | exact HB.out))) : w.heap.size ≤ gb209)); have n5_ := Aside0.mk ((by rw [hg]; exact (below_size (by repeat (first | (with_reducible first | exact HB.out | apply below_alloc | apply pw_below_drewN | apply below_drew1 | refine below_set ?_ GE170.out | refine below_set ?_ GE171.out) | exact HB.out))) : w.heap.size ≤ gb209)); have n6_ := Aside0.mk ((by rw [hg]; exact Nat.ne_of_lt (blk_lt (g := gb170) (o := .cells #[.int .u32 a1_0, .int .i64 a1_1, .int .u32 a1_2, .int .i64 a1_3, .int .i64 a1_4, .int .u16 a1_5, .int .u16 a1_6, .int .u16 a1_7, .int .u16 a1_8] 49 (0, 0)) (by (with_reducible repeat (first | refine blk_drewN ?_ _ | refine blk_drew ?_ | refine blk_alloc ?_ _)); exact BK170.out)) : gb170 ≠ gb209)); have n7_ := Aside0.mk ((by rw [hg]; exact Nat.ne_of_gt (blk_lt (g := gb170) (o := .cells #[.int .u32 a1_0, .int .i64 a1_1, .int .u32 a1_2, .int .i64 a1_3, .int .i64 a1_4, .int .u16 a1_5, .int .u16 a1_6, .int .u16 a1_7, .int .u16 a1_8] 49 (0, 0)) (by (with_reducible repeat (first | refine blk_drewN ?_ _ | refine blk_drew ?_ | refine blk_alloc ?_ _)); exact BK170.out)) : gb209 ≠ gb170)); have n8_ := Aside0.mk ((by rw [hg]; exact Nat.ne_of_lt (blk_lt (g := gb171) (o := .cells #[.int .u32 a2_0, .int .u32 a2_1, .int .u8 a2_2, .int .u16 a2_3, .int .u16 a2_4] 51 (0, 0)) (by (with_reducible repeat (first | refine blk_drewN ?_ _ | refine blk_drew ?_ | refine blk_alloc ?_ _)); exact BK171.out)) : gb171 ≠ gb209)); have n9_ := Aside0.mk ((by rw [hg]; exact Nat.ne_of_gt (blk_lt (g := gb171) (o := .cells #[.int .u32 a2_0, .int .u32 a2_1, .int .u8 a2_2, .int .u16 a2_3, .int .u16 a2_4] 51 (0, 0)) (by (with_reducible repeat (first | refine blk_drewN ?_ _ | refine blk_drew ?_ | refine blk_alloc ?_ _)); exact BK171.out)) : gb209 ≠ gb171)); clear BK170; clear BK171; clear HB; have BK170 := n0_; have BK171 := n1_; have HB := n2_; have BK209 := n3_; have GW209 := n4_; have GE209 := n5_; have NB170_209 := n6_; have NB209_170 := n7_; have NB171_209 := n8_; have NB209_171 := n9_; clear n0_ n1_ n2_ n3_ n4_ n5_ n6_ n7_ n8_ n9_; clear hb hbox hg; have hnb27 := NB209_170.out; have hnc27 := NB170_209.out; have hnb28 := NB209_171.out; have hnc28 := NB171_209.out; have hcz29_0 : w26.cell? ⟨gb209, 0, none⟩ = some (.int .u32 0) := (blk_cell BK209.out 0).trans rfl; have hcz29_1 : w26.cell? ⟨gb209, 1, none⟩ = some (.int .i64 0) := (blk_cell BK209.out 1).trans rfl; have hcz29_2 : w26.cell? ⟨gb209, 2, none⟩ = some (.int .u32 0) := (blk_cell BK209.out 2).trans rfl; have hcz29_3 : w26.cell? ⟨gb209, 3, none⟩ = some (.int .i64 0) := (blk_cell BK209.out 3).trans rfl; have hcz29_4 : w26.cell? ⟨gb209, 4, none⟩ = some (.int .i64 0) := (blk_cell BK209.out 4).trans rfl; have hcz29_5 : w26.cell? ⟨gb209, 5, none⟩ = some (.int .u16 0) := (blk_cell BK209.out 5).trans rfl; have hcz29_6 : w26.cell? ⟨gb209, 6, none⟩ = some (.int .u16 0) := (blk_cell BK209.out 6).trans rfl; have hcz29_7 : w26.cell? ⟨gb209, 7, none⟩ = some (.int .u16 0) := (blk_cell BK209.out 7).trans rfl; have hcz29_8 : w26.cell? ⟨gb209, 8, none⟩ = some (.int .u16 0) := (blk_cell BK209.out 8).trans rfl; have hfz29_0 := blk_frozen BK209.out 0; have hfz29_1 := blk_frozen BK209.out 1; have hfz29_2 := blk_frozen BK209.out 2; have hfz29_3 := blk_frozen BK209.out 3; have hfz29_4 := blk_frozen BK209.out 4; have hfz29_5 := blk_frozen BK209.out 5; have hfz29_6 := blk_frozen BK209.out 6; have hfz29_7 := blk_frozen BK209.out 7; have hfz29_8 := blk_frozen BK209.out 8))
              (try simp only [Act.put, List.setIfInBounds_toArray, List.set_cons_zero, List.set_cons_succ])
              go_cut [10] (fun v10 wc => ∃ (kq : Nat) (x10_21 : Bool), v10 = .bool x10_21 ∧ Aside0 (crossbucklaw16_RegionFilters.j2 kq a0 t208 x10_21 t175 x26_2 a1_0 a1_1 a1_2 a1_3 a1_4 a1_5 a1_6 a1_7 a1_8 a2_0 a2_1 a2_2 a2_3 a2_4 t199 t200 t201 t202 t203 t204 t205 t206 t207 = some r) ∧ Aside0 (kq ≤ k2) ∧ Aside0 (wc.heap[gb170]? = some (.cells #[.int .u32 a1_0, .int .i64 a1_1, .int .u32 a1_2, .int .i64 a1_3, .int .i64 a1_4, .int .u16 a1_5, .int .u16 a1_6, .int .u16 a1_7, .int .u16 a1_8] 49 (0, 0))) ∧ Aside0 (wc.heap[gb171]? = some (.cells #[.int .u32 a2_0, .int .u32 a2_1, .int .u8 a2_2, .int .u16 a2_3, .int .u16 a2_4] 51 (0, 0))) ∧ Aside0 (wc.heap[gb209]? = some (.cells #[.int .u32 t199, .int .i64 t200, .int .u32 t201, .int .i64 t202, .int .i64 t203, .int .u16 t204, .int .u16 t205, .int .u16 t206, .int .u16 t207] 49 (0, 0))) ∧ Aside0 (Below w.heap.size w wc))
              case first =>
                have H := HC22.out
                clear HC22
                replace H := Option.bind_eq_some_iff.mp H
                obtain ⟨t210, A300, H⟩ := H
                replace H : (if x26_2 = t210 then ((crossbuckref04_Match.f k2 a1_0 a1_1 a1_2 a1_3 a1_4 a1_5 a1_6 a1_7 a1_8 a2_0 a2_1 a2_2 a2_3 a2_4).bind fun t211 => (crossbucklaw16_RegionFilters.j2 k2 a0 t208 t211 t175 x26_2 a1_0 a1_1 a1_2 a1_3 a1_4 a1_5 a1_6 a1_7 a1_8 a2_0 a2_1 a2_2 a2_3 a2_4 t199 t200 t201 t202 t203 t204 t205 t206 t207)) else (crossbucklaw16_RegionFilters.j2 k2 a0 t208 false t175 x26_2 a1_0 a1_1 a1_2 a1_3 a1_4 a1_5 a1_6 a1_7 a1_8 a2_0 a2_1 a2_2 a2_3 a2_4 t199 t200 t201 t202 t203 t204 t205 t206 t207)) = some r := H
                have A30 := Aside0.mk A300
                clear A300
                by_cases c31 : x26_2 = t210
                · rw [if_pos c31] at H
                  have c31b0 : (x26_2 == t210) = true := beq_iff_eq.mpr c31
                  have c31b1 : (x26_2 != t210) = false := bne_eq_false_iff_eq.mpr c31
                  clear c31
                  (first | rw [c31b0] | (simp only [i64_w, i32_w]; rw [c31b0]) | skip)
                  replace H := Option.bind_eq_some_iff.mp H
                  obtain ⟨t211, A320, H⟩ := H
                  replace H : (crossbucklaw16_RegionFilters.j2 k2 a0 t208 t211 t175 x26_2 a1_0 a1_1 a1_2 a1_3 a1_4 a1_5 a1_6 a1_7 a1_8 a2_0 a2_1 a2_2 a2_3 a2_4 t199 t200 t201 t202 t203 t204 t205 t206 t207) = some r := H
                  have A32 := Aside0.mk A320
                  clear A320
                  have H' := Aside0.mk H
                  clear H
                  have hnb33 := NB171_170.out
                  have hnc33 := NB170_171.out
                  have hnb34 := NB171_209.out
                  have hnc34 := NB209_171.out
                  have hcz35_0 : w26.cell? ⟨gb171, 0, none⟩ = some (.int .u32 a2_0) := (blk_cell BK171.out 0).trans rfl
                  have hcz35_1 : w26.cell? ⟨gb171, 1, none⟩ = some (.int .u32 a2_1) := (blk_cell BK171.out 1).trans rfl
                  have hcz35_2 : w26.cell? ⟨gb171, 2, none⟩ = some (.int .u8 a2_2) := (blk_cell BK171.out 2).trans rfl
                  have hcz35_3 : w26.cell? ⟨gb171, 3, none⟩ = some (.int .u16 a2_3) := (blk_cell BK171.out 3).trans rfl
                  have hcz35_4 : w26.cell? ⟨gb171, 4, none⟩ = some (.int .u16 a2_4) := (blk_cell BK171.out 4).trans rfl
                  have hfz35_0 := blk_frozen BK171.out 0
                  have hfz35_1 := blk_frozen BK171.out 1
                  have hfz35_2 := blk_frozen BK171.out 2
                  have hfz35_3 := blk_frozen BK171.out 3
                  have hfz35_4 := blk_frozen BK171.out 4
                  go_wp2_with (first | ((with_reducible refine gate_callee (f := 18) rfl ?_); refine goesL_ (some 40) rfl rfl Try.func18 (by kernel_rfl) rfl #[.int .i64 a0, .int .u32 a2_0] rfl (by (try simp only [List.map_toArray, List.map_cons, List.map_nil]); first | done | rfl | (simp only [List.length_drop, List.length_take]; rfl)) ?_; (with_reducible refine (crossbuckref16_Index.calls a0 a2_0 t210 _ A30.out).mono ?_); rintro e w' ⟨rfl, ⟨nd, rfl⟩⟩; refine ⟨_, rfl, ?_⟩; have hnb36 := NB170_209.out; have hnc36 := NB209_170.out; have hcz37_0 : w26.cell? ⟨gb170, 0, none⟩ = some (.int .u32 a1_0) := (blk_cell BK170.out 0).trans rfl; have hcz37_1 : w26.cell? ⟨gb170, 1, none⟩ = some (.int .i64 a1_1) := (blk_cell BK170.out 1).trans rfl; have hcz37_2 : w26.cell? ⟨gb170, 2, none⟩ = some (.int .u32 a1_2) := (blk_cell BK170.out 2).trans rfl; have hcz37_3 : w26.cell? ⟨gb170, 3, none⟩ = some (.int .i64 a1_3) := (blk_cell BK170.out 3).trans rfl; have hcz37_4 : w26.cell? ⟨gb170, 4, none⟩ = some (.int .i64 a1_4) := (blk_cell BK170.out 4).trans rfl; have hcz37_5 : w26.cell? ⟨gb170, 5, none⟩ = some (.int .u16 a1_5) := (blk_cell BK170.out 5).trans rfl; have hcz37_6 : w26.cell? ⟨gb170, 6, none⟩ = some (.int .u16 a1_6) := (blk_cell BK170.out 6).trans rfl; have hcz37_7 : w26.cell? ⟨gb170, 7, none⟩ = some (.int .u16 a1_7) := (blk_cell BK170.out 7).trans rfl; have hcz37_8 : w26.cell? ⟨gb170, 8, none⟩ = some (.int .u16 a1_8) := (blk_cell BK170.out 8).trans rfl; have hfz37_0 := blk_frozen BK170.out 0; have hfz37_1 := blk_frozen BK170.out 1; have hfz37_2 := blk_frozen BK170.out 2; have hfz37_3 := blk_frozen BK170.out 3; have hfz37_4 := blk_frozen BK170.out 4; have hfz37_5 := blk_frozen BK170.out 5; have hfz37_6 := blk_frozen BK170.out 6; have hfz37_7 := blk_frozen BK170.out 7; have hfz37_8 := blk_frozen BK170.out 8) | (go_at_call 30; (with_reducible refine (crossbuckref04_Match.calls k2 a1_0 a1_1 a1_2 a1_3 a1_4 a1_5 a1_6 a1_7 a1_8 a2_0 a2_1 a2_2 a2_3 a2_4 t211 _ A32.out).mono ?_); rintro e w38 ⟨rfl, hb⟩; have n0_ := Aside0.mk (blk_below (g := gb170) (o := .cells #[.int .u32 a1_0, .int .i64 a1_1, .int .u32 a1_2, .int .i64 a1_3, .int .i64 a1_4, .int .u16 a1_5, .int .u16 a1_6, .int .u16 a1_7, .int .u16 a1_8] 49 (0, 0)) (by (with_reducible repeat (first | refine blk_drewN ?_ _ | refine blk_drew ?_ | refine blk_alloc ?_ _)); refine blk_far ?_ NB170_209.out _; (with_reducible repeat (first | refine blk_drewN ?_ _ | refine blk_drew ?_ | refine blk_alloc ?_ _)); refine blk_far ?_ NB170_209.out _; (with_reducible repeat (first | refine blk_drewN ?_ _ | refine blk_drew ?_ | refine blk_alloc ?_ _)); refine blk_far ?_ NB170_209.out _; (with_reducible repeat (first | refine blk_drewN ?_ _ | refine blk_drew ?_ | refine blk_alloc ?_ _)); refine blk_far ?_ NB170_209.out _; (with_reducible repeat (first | refine blk_drewN ?_ _ | refine blk_drew ?_ | refine blk_alloc ?_ _)); refine blk_far ?_ NB170_209.out _; (with_reducible repeat (first | refine blk_drewN ?_ _ | refine blk_drew ?_ | refine blk_alloc ?_ _)); refine blk_far ?_ NB170_209.out _; (with_reducible repeat (first | refine blk_drewN ?_ _ | refine blk_drew ?_ | refine blk_alloc ?_ _)); refine blk_far ?_ NB170_209.out _; (with_reducible repeat (first | refine blk_drewN ?_ _ | refine blk_drew ?_ | refine blk_alloc ?_ _)); refine blk_far ?_ NB170_209.out _; (with_reducible repeat (first | refine blk_drewN ?_ _ | refine blk_drew ?_ | refine blk_alloc ?_ _)); refine blk_far ?_ NB170_209.out _; (with_reducible repeat (first | refine blk_drewN ?_ _ | refine blk_drew ?_ | refine blk_alloc ?_ _)); exact BK170.out) hb); have n1_ := Aside0.mk (blk_below (g := gb171) (o := .cells #[.int .u32 a2_0, .int .u32 a2_1, .int .u8 a2_2, .int .u16 a2_3, .int .u16 a2_4] 51 (0, 0)) (by (with_reducible repeat (first | refine blk_drewN ?_ _ | refine blk_drew ?_ | refine blk_alloc ?_ _)); refine blk_far ?_ NB171_209.out _; (with_reducible repeat (first | refine blk_drewN ?_ _ | refine blk_drew ?_ | refine blk_alloc ?_ _)); refine blk_far ?_ NB171_209.out _; (with_reducible repeat (first | refine blk_drewN ?_ _ | refine blk_drew ?_ | refine blk_alloc ?_ _)); refine blk_far ?_ NB171_209.out _; (with_reducible repeat (first | refine blk_drewN ?_ _ | refine blk_drew ?_ | refine blk_alloc ?_ _)); refine blk_far ?_ NB171_209.out _; (with_reducible repeat (first | refine blk_drewN ?_ _ | refine blk_drew ?_ | refine blk_alloc ?_ _)); refine blk_far ?_ NB171_209.out _; (with_reducible repeat (first | refine blk_drewN ?_ _ | refine blk_drew ?_ | refine blk_alloc ?_ _)); refine blk_far ?_ NB171_209.out _; (with_reducible repeat (first | refine blk_drewN ?_ _ | refine blk_drew ?_ | refine blk_alloc ?_ _)); refine blk_far ?_ NB171_209.out _; (with_reducible repeat (first | refine blk_drewN ?_ _ | refine blk_drew ?_ | refine blk_alloc ?_ _)); refine blk_far ?_ NB171_209.out _; (with_reducible repeat (first | refine blk_drewN ?_ _ | refine blk_drew ?_ | refine blk_alloc ?_ _)); refine blk_far ?_ NB171_209.out _; (with_reducible repeat (first | refine blk_drewN ?_ _ | refine blk_drew ?_ | refine blk_alloc ?_ _)); exact BK171.out) hb); have n2_ := Aside0.mk (blk_below (g := gb209) (o := .cells #[.int .u32 t199, .int .i64 t200, .int .u32 t201, .int .i64 t202, .int .i64 t203, .int .u16 t204, .int .u16 t205, .int .u16 t206, .int .u16 t207] 49 (0, 0)) (by (with_reducible repeat (first | refine blk_drewN ?_ _ | refine blk_drew ?_ | refine blk_alloc ?_ _)); refine blk_put (cs := #[.int .u32 t199, .int .i64 t200, .int .u32 t201, .int .i64 t202, .int .i64 t203, .int .u16 t204, .int .u16 t205, .int .u16 t206, .int .u16 0]) ?_ 8 _ rfl; (with_reducible repeat (first | refine blk_drewN ?_ _ | refine blk_drew ?_ | refine blk_alloc ?_ _)); refine blk_put (cs := #[.int .u32 t199, .int .i64 t200, .int .u32 t201, .int .i64 t202, .int .i64 t203, .int .u16 t204, .int .u16 t205, .int .u16 0, .int .u16 0]) ?_ 7 _ rfl; (with_reducible repeat (first | refine blk_drewN ?_ _ | refine blk_drew ?_ | refine blk_alloc ?_ _)); refine blk_put (cs := #[.int .u32 t199, .int .i64 t200, .int .u32 t201, .int .i64 t202, .int .i64 t203, .int .u16 t204, .int .u16 0, .int .u16 0, .int .u16 0]) ?_ 6 _ rfl; (with_reducible repeat (first | refine blk_drewN ?_ _ | refine blk_drew ?_ | refine blk_alloc ?_ _)); refine blk_put (cs := #[.int .u32 t199, .int .i64 t200, .int .u32 t201, .int .i64 t202, .int .i64 t203, .int .u16 0, .int .u16 0, .int .u16 0, .int .u16 0]) ?_ 5 _ rfl; (with_reducible repeat (first | refine blk_drewN ?_ _ | refine blk_drew ?_ | refine blk_alloc ?_ _)); refine blk_put (cs := #[.int .u32 t199, .int .i64 t200, .int .u32 t201, .int .i64 t202, .int .i64 0, .int .u16 0, .int .u16 0, .int .u16 0, .int .u16 0]) ?_ 4 _ rfl; (with_reducible repeat (first | refine blk_drewN ?_ _ | refine blk_drew ?_ | refine blk_alloc ?_ _)); refine blk_put (cs := #[.int .u32 t199, .int .i64 t200, .int .u32 t201, .int .i64 0, .int .i64 0, .int .u16 0, .int .u16 0, .int .u16 0, .int .u16 0]) ?_ 3 _ rfl; (with_reducible repeat (first | refine blk_drewN ?_ _ | refine blk_drew ?_ | refine blk_alloc ?_ _)); refine blk_put (cs := #[.int .u32 t199, .int .i64 t200, .int .u32 0, .int .i64 0, .int .i64 0, .int .u16 0, .int .u16 0, .int .u16 0, .int .u16 0]) ?_ 2 _ rfl; (with_reducible repeat (first | refine blk_drewN ?_ _ | refine blk_drew ?_ | refine blk_alloc ?_ _)); refine blk_put (cs := #[.int .u32 t199, .int .i64 0, .int .u32 0, .int .i64 0, .int .i64 0, .int .u16 0, .int .u16 0, .int .u16 0, .int .u16 0]) ?_ 1 _ rfl; (with_reducible repeat (first | refine blk_drewN ?_ _ | refine blk_drew ?_ | refine blk_alloc ?_ _)); refine blk_put (cs := #[.int .u32 0, .int .i64 0, .int .u32 0, .int .i64 0, .int .i64 0, .int .u16 0, .int .u16 0, .int .u16 0, .int .u16 0]) ?_ 0 _ rfl; (with_reducible repeat (first | refine blk_drewN ?_ _ | refine blk_drew ?_ | refine blk_alloc ?_ _)); exact BK209.out) hb); have n3_ := Aside0.mk (below_step (by repeat (first | (with_reducible first | exact HB.out | apply below_alloc | apply pw_below_drewN | apply below_drew1 | refine below_set ?_ GE170.out | refine below_set ?_ GE171.out | refine below_set ?_ GE209.out) | exact HB.out)) hb); clear BK170; clear BK171; clear BK209; clear HB; have BK170 := n0_; have BK171 := n1_; have BK209 := n2_; have HB := n3_; clear n0_ n1_ n2_ n3_; (try clear hb); (try clear hb2); (try clear hk); (try clear hi)))
                  go_meet
                  case rel => exact ⟨_, (t211), (by first | rfl | (simp; done) | (simp [*]; done)), H', ⟨by have := HJ3.out; have := HK2.out; first | omega | exact Nat.le_refl _⟩, ⟨by (with_reducible repeat (first | refine blk_drewN ?_ _ | refine blk_drew ?_ | refine blk_alloc ?_ _)); exact BK170.out⟩, ⟨by (with_reducible repeat (first | refine blk_drewN ?_ _ | refine blk_drew ?_ | refine blk_alloc ?_ _)); exact BK171.out⟩, ⟨by (with_reducible repeat (first | refine blk_drewN ?_ _ | refine blk_drew ?_ | refine blk_alloc ?_ _)); exact BK209.out⟩, ⟨by repeat (first | (with_reducible first | exact HB.out | apply below_alloc | apply pw_below_drewN | apply below_drew1 | refine below_set ?_ GE170.out | refine below_set ?_ GE171.out | refine below_set ?_ GE209.out) | exact HB.out)⟩⟩
                · rw [if_neg c31] at H
                  have c31b0 : (x26_2 == t210) = false := beq_eq_false_iff_ne.mpr c31
                  have c31b1 : (x26_2 != t210) = true := bne_iff_ne.mpr c31
                  (first | rw [c31b0] | (simp only [i64_w, i32_w]; rw [c31b0]) | skip)
                  have H' := Aside0.mk H
                  clear H
                  have hnb39 := NB171_170.out
                  have hnc39 := NB170_171.out
                  have hnb40 := NB171_209.out
                  have hnc40 := NB209_171.out
                  have hcz41_0 : w26.cell? ⟨gb171, 0, none⟩ = some (.int .u32 a2_0) := (blk_cell BK171.out 0).trans rfl
                  have hcz41_1 : w26.cell? ⟨gb171, 1, none⟩ = some (.int .u32 a2_1) := (blk_cell BK171.out 1).trans rfl
                  have hcz41_2 : w26.cell? ⟨gb171, 2, none⟩ = some (.int .u8 a2_2) := (blk_cell BK171.out 2).trans rfl
                  have hcz41_3 : w26.cell? ⟨gb171, 3, none⟩ = some (.int .u16 a2_3) := (blk_cell BK171.out 3).trans rfl
                  have hcz41_4 : w26.cell? ⟨gb171, 4, none⟩ = some (.int .u16 a2_4) := (blk_cell BK171.out 4).trans rfl
                  have hfz41_0 := blk_frozen BK171.out 0
                  have hfz41_1 := blk_frozen BK171.out 1
                  have hfz41_2 := blk_frozen BK171.out 2
                  have hfz41_3 := blk_frozen BK171.out 3
                  have hfz41_4 := blk_frozen BK171.out 4
                  go_wp2_with (first | ((with_reducible refine gate_callee (f := 18) rfl ?_); refine goesL_ (some 40) rfl rfl Try.func18 (by kernel_rfl) rfl #[.int .i64 a0, .int .u32 a2_0] rfl (by (try simp only [List.map_toArray, List.map_cons, List.map_nil]); first | done | rfl | (simp only [List.length_drop, List.length_take]; rfl)) ?_; (with_reducible refine (crossbuckref16_Index.calls a0 a2_0 t210 _ A30.out).mono ?_); rintro e w' ⟨rfl, ⟨nd, rfl⟩⟩; refine ⟨_, rfl, ?_⟩))
                  go_meet
                  case rel => exact ⟨_, (false), (by first | rfl | (simp; done) | (simp [*]; done)), H', ⟨by have := HJ3.out; have := HK2.out; first | omega | exact Nat.le_refl _⟩, ⟨by (with_reducible repeat (first | refine blk_drewN ?_ _ | refine blk_drew ?_ | refine blk_alloc ?_ _)); refine blk_far ?_ NB170_209.out _; (with_reducible repeat (first | refine blk_drewN ?_ _ | refine blk_drew ?_ | refine blk_alloc ?_ _)); refine blk_far ?_ NB170_209.out _; (with_reducible repeat (first | refine blk_drewN ?_ _ | refine blk_drew ?_ | refine blk_alloc ?_ _)); refine blk_far ?_ NB170_209.out _; (with_reducible repeat (first | refine blk_drewN ?_ _ | refine blk_drew ?_ | refine blk_alloc ?_ _)); refine blk_far ?_ NB170_209.out _; (with_reducible repeat (first | refine blk_drewN ?_ _ | refine blk_drew ?_ | refine blk_alloc ?_ _)); refine blk_far ?_ NB170_209.out _; (with_reducible repeat (first | refine blk_drewN ?_ _ | refine blk_drew ?_ | refine blk_alloc ?_ _)); refine blk_far ?_ NB170_209.out _; (with_reducible repeat (first | refine blk_drewN ?_ _ | refine blk_drew ?_ | refine blk_alloc ?_ _)); refine blk_far ?_ NB170_209.out _; (with_reducible repeat (first | refine blk_drewN ?_ _ | refine blk_drew ?_ | refine blk_alloc ?_ _)); refine blk_far ?_ NB170_209.out _; (with_reducible repeat (first | refine blk_drewN ?_ _ | refine blk_drew ?_ | refine blk_alloc ?_ _)); refine blk_far ?_ NB170_209.out _; (with_reducible repeat (first | refine blk_drewN ?_ _ | refine blk_drew ?_ | refine blk_alloc ?_ _)); exact BK170.out⟩, ⟨by (with_reducible repeat (first | refine blk_drewN ?_ _ | refine blk_drew ?_ | refine blk_alloc ?_ _)); refine blk_far ?_ NB171_209.out _; (with_reducible repeat (first | refine blk_drewN ?_ _ | refine blk_drew ?_ | refine blk_alloc ?_ _)); refine blk_far ?_ NB171_209.out _; (with_reducible repeat (first | refine blk_drewN ?_ _ | refine blk_drew ?_ | refine blk_alloc ?_ _)); refine blk_far ?_ NB171_209.out _; (with_reducible repeat (first | refine blk_drewN ?_ _ | refine blk_drew ?_ | refine blk_alloc ?_ _)); refine blk_far ?_ NB171_209.out _; (with_reducible repeat (first | refine blk_drewN ?_ _ | refine blk_drew ?_ | refine blk_alloc ?_ _)); refine blk_far ?_ NB171_209.out _; (with_reducible repeat (first | refine blk_drewN ?_ _ | refine blk_drew ?_ | refine blk_alloc ?_ _)); refine blk_far ?_ NB171_209.out _; (with_reducible repeat (first | refine blk_drewN ?_ _ | refine blk_drew ?_ | refine blk_alloc ?_ _)); refine blk_far ?_ NB171_209.out _; (with_reducible repeat (first | refine blk_drewN ?_ _ | refine blk_drew ?_ | refine blk_alloc ?_ _)); refine blk_far ?_ NB171_209.out _; (with_reducible repeat (first | refine blk_drewN ?_ _ | refine blk_drew ?_ | refine blk_alloc ?_ _)); refine blk_far ?_ NB171_209.out _; (with_reducible repeat (first | refine blk_drewN ?_ _ | refine blk_drew ?_ | refine blk_alloc ?_ _)); exact BK171.out⟩, ⟨by (with_reducible repeat (first | refine blk_drewN ?_ _ | refine blk_drew ?_ | refine blk_alloc ?_ _)); refine blk_put (cs := #[.int .u32 t199, .int .i64 t200, .int .u32 t201, .int .i64 t202, .int .i64 t203, .int .u16 t204, .int .u16 t205, .int .u16 t206, .int .u16 0]) ?_ 8 _ rfl; (with_reducible repeat (first | refine blk_drewN ?_ _ | refine blk_drew ?_ | refine blk_alloc ?_ _)); refine blk_put (cs := #[.int .u32 t199, .int .i64 t200, .int .u32 t201, .int .i64 t202, .int .i64 t203, .int .u16 t204, .int .u16 t205, .int .u16 0, .int .u16 0]) ?_ 7 _ rfl; (with_reducible repeat (first | refine blk_drewN ?_ _ | refine blk_drew ?_ | refine blk_alloc ?_ _)); refine blk_put (cs := #[.int .u32 t199, .int .i64 t200, .int .u32 t201, .int .i64 t202, .int .i64 t203, .int .u16 t204, .int .u16 0, .int .u16 0, .int .u16 0]) ?_ 6 _ rfl; (with_reducible repeat (first | refine blk_drewN ?_ _ | refine blk_drew ?_ | refine blk_alloc ?_ _)); refine blk_put (cs := #[.int .u32 t199, .int .i64 t200, .int .u32 t201, .int .i64 t202, .int .i64 t203, .int .u16 0, .int .u16 0, .int .u16 0, .int .u16 0]) ?_ 5 _ rfl; (with_reducible repeat (first | refine blk_drewN ?_ _ | refine blk_drew ?_ | refine blk_alloc ?_ _)); refine blk_put (cs := #[.int .u32 t199, .int .i64 t200, .int .u32 t201, .int .i64 t202, .int .i64 0, .int .u16 0, .int .u16 0, .int .u16 0, .int .u16 0]) ?_ 4 _ rfl; (with_reducible repeat (first | refine blk_drewN ?_ _ | refine blk_drew ?_ | refine blk_alloc ?_ _)); refine blk_put (cs := #[.int .u32 t199, .int .i64 t200, .int .u32 t201, .int .i64 0, .int .i64 0, .int .u16 0, .int .u16 0, .int .u16 0, .int .u16 0]) ?_ 3 _ rfl; (with_reducible repeat (first | refine blk_drewN ?_ _ | refine blk_drew ?_ | refine blk_alloc ?_ _)); refine blk_put (cs := #[.int .u32 t199, .int .i64 t200, .int .u32 0, .int .i64 0, .int .i64 0, .int .u16 0, .int .u16 0, .int .u16 0, .int .u16 0]) ?_ 2 _ rfl; (with_reducible repeat (first | refine blk_drewN ?_ _ | refine blk_drew ?_ | refine blk_alloc ?_ _)); refine blk_put (cs := #[.int .u32 t199, .int .i64 0, .int .u32 0, .int .i64 0, .int .i64 0, .int .u16 0, .int .u16 0, .int .u16 0, .int .u16 0]) ?_ 1 _ rfl; (with_reducible repeat (first | refine blk_drewN ?_ _ | refine blk_drew ?_ | refine blk_alloc ?_ _)); refine blk_put (cs := #[.int .u32 0, .int .i64 0, .int .u32 0, .int .i64 0, .int .i64 0, .int .u16 0, .int .u16 0, .int .u16 0, .int .u16 0]) ?_ 0 _ rfl; (with_reducible repeat (first | refine blk_drewN ?_ _ | refine blk_drew ?_ | refine blk_alloc ?_ _)); exact BK209.out⟩, ⟨by repeat (first | (with_reducible first | exact HB.out | apply below_alloc | apply pw_below_drewN | apply below_drew1 | refine below_set ?_ GE170.out | refine below_set ?_ GE171.out | refine below_set ?_ GE209.out) | exact HB.out)⟩⟩
              case rest =>
                clear HC22
                try clear c1
                try clear c2
                try clear p2
                try clear c3
                try clear c4
                try clear c8
                try clear c8b0
                try clear c8b1
                try clear c10
                try clear c13
                try clear c14
                try clear c16
                try clear c18
                try clear c20
                try clear c20b0
                try clear c22
                try clear c23
                try clear c27
                try clear c28
                try clear c29
                try clear c31
                try clear c31b0
                try clear c31b1
                try clear c33
                try clear c34
                try clear c36
                try clear c39
                try clear c40
                try clear hcz11_0
                try clear hcz11_1
                try clear hcz11_2
                try clear hcz11_3
                try clear hcz11_4
                try clear hcz11_5
                try clear hcz11_6
                try clear hcz11_7
                try clear hcz11_8
                try clear hcz14_0
                try clear hcz14_1
                try clear hcz14_2
                try clear hcz14_3
                try clear hcz14_4
                try clear hcz14_5
                try clear hcz14_6
                try clear hcz14_7
                try clear hcz14_8
                try clear hcz24_0
                try clear hcz24_1
                try clear hcz24_2
                try clear hcz24_3
                try clear hcz24_4
                try clear hcz24_5
                try clear hcz24_6
                try clear hcz24_7
                try clear hcz24_8
                try clear hcz29_0
                try clear hcz29_1
                try clear hcz29_2
                try clear hcz29_3
                try clear hcz29_4
                try clear hcz29_5
                try clear hcz29_6
                try clear hcz29_7
                try clear hcz29_8
                try clear hcz35_0
                try clear hcz35_1
                try clear hcz35_2
                try clear hcz35_3
                try clear hcz35_4
                try clear hcz37_0
                try clear hcz37_1
                try clear hcz37_2
                try clear hcz37_3
                try clear hcz37_4
                try clear hcz37_5
                try clear hcz37_6
                try clear hcz37_7
                try clear hcz37_8
                try clear hcz41_0
                try clear hcz41_1
                try clear hcz41_2
                try clear hcz41_3
                try clear hcz41_4
                try clear hfz11_0
                try clear hfz11_1
                try clear hfz11_2
                try clear hfz11_3
                try clear hfz11_4
                try clear hfz11_5
                try clear hfz11_6
                try clear hfz11_7
                try clear hfz11_8
                try clear hfz14_0
                try clear hfz14_1
                try clear hfz14_2
                try clear hfz14_3
                try clear hfz14_4
                try clear hfz14_5
                try clear hfz14_6
                try clear hfz14_7
                try clear hfz14_8
                try clear hfz24_0
                try clear hfz24_1
                try clear hfz24_2
                try clear hfz24_3
                try clear hfz24_4
                try clear hfz24_5
                try clear hfz24_6
                try clear hfz24_7
                try clear hfz24_8
                try clear hfz29_0
                try clear hfz29_1
                try clear hfz29_2
                try clear hfz29_3
                try clear hfz29_4
                try clear hfz29_5
                try clear hfz29_6
                try clear hfz29_7
                try clear hfz29_8
                try clear hfz35_0
                try clear hfz35_1
                try clear hfz35_2
                try clear hfz35_3
                try clear hfz35_4
                try clear hfz37_0
                try clear hfz37_1
                try clear hfz37_2
                try clear hfz37_3
                try clear hfz37_4
                try clear hfz37_5
                try clear hfz37_6
                try clear hfz37_7
                try clear hfz37_8
                try clear hfz41_0
                try clear hfz41_1
                try clear hfz41_2
                try clear hfz41_3
                try clear hfz41_4
                try clear p2
                obtain ⟨kq, x10_21, rfl, HA, HJ21, BK170, BK171, BK209, HB⟩ := hcut
                cases kq with
                | zero => exact absurd HA.out (by simp [crossbucklaw16_RegionFilters.j2])
                | succ kj21 =>
                  have H := HA.out
                  clear HA
                  simp only [crossbucklaw16_RegionFilters.j2] at H
                  by_cases c42 : t208 = true
                  · subst c42
                    have H1 : ((crossbuckref04_Check.f kj21 t199 t200 t201 t202 t203 t204 t205 t206 t207).bind fun t212 => (if t212 = 0 then ((crossbuckref04_Match.f kj21 t199 t200 t201 t202 t203 t204 t205 t206 t207 a2_0 a2_1 a2_2 a2_3 a2_4).bind fun t213 => (if (t213 != x10_21) = true then (some false) else (crossbucklaw16_RegionFilters.l0 kj21 a0 t175 (wrap64 (x26_2 + 1)) a1_0 a1_1 a1_2 a1_3 a1_4 a1_5 a1_6 a1_7 a1_8 a2_0 a2_1 a2_2 a2_3 a2_4))) else (some false))) = some r := by rw [if_pos rfl] at H; exact H
                    clear H
                    have H := H1
                    clear H1
                    replace H := Option.bind_eq_some_iff.mp H
                    obtain ⟨t212, A430, H⟩ := H
                    replace H : (if t212 = 0 then ((crossbuckref04_Match.f kj21 t199 t200 t201 t202 t203 t204 t205 t206 t207 a2_0 a2_1 a2_2 a2_3 a2_4).bind fun t213 => (if (t213 != x10_21) = true then (some false) else (crossbucklaw16_RegionFilters.l0 kj21 a0 t175 (wrap64 (x26_2 + 1)) a1_0 a1_1 a1_2 a1_3 a1_4 a1_5 a1_6 a1_7 a1_8 a2_0 a2_1 a2_2 a2_3 a2_4))) else (some false)) = some r := H
                    have A43 := Aside0.mk A430
                    clear A430
                    by_cases c44 : t212 = 0
                    · rw [if_pos c44] at H
                      have c44b0 : (t212 == 0) = true := beq_iff_eq.mpr c44
                      have c44b1 : (t212 != 0) = false := bne_eq_false_iff_eq.mpr c44
                      clear c44
                      replace H := Option.bind_eq_some_iff.mp H
                      obtain ⟨t213, A450, H⟩ := H
                      replace H : (if (t213 != x10_21) = true then (some false) else (crossbucklaw16_RegionFilters.l0 kj21 a0 t175 (wrap64 (x26_2 + 1)) a1_0 a1_1 a1_2 a1_3 a1_4 a1_5 a1_6 a1_7 a1_8 a2_0 a2_1 a2_2 a2_3 a2_4)) = some r := H
                      have A45 := Aside0.mk A450
                      clear A450
                      by_cases c46 : (t213 != x10_21) = true
                      · rw [if_pos c46] at H
                        have c46b0 : (t213 != x10_21) = true := c46
                        (try (have c46b1 : decide (t213 = x10_21) = false := by simpa using c46))
                        (try (have c46b2 : (t213 == x10_21) = false := by simpa using c46))
                        (try (have c46b3 : ¬ (t213 = x10_21) := by simpa using c46))
                        clear c46
                        exact absurd ((Option.some.inj H).trans hT.out) (by decide)
                      · rw [if_neg c46] at H
                        have c46b0 : (t213 != x10_21) = false := by simpa using c46
                        (try (have c46b1 : decide (t213 = x10_21) = true := by simpa using c46))
                        (try (have c46b2 : (t213 == x10_21) = true := by simpa using c46))
                        clear c46
                        have H' := Aside0.mk H
                        clear H
                        have hnb47 := NB209_170.out
                        have hnc47 := NB170_209.out
                        have hnb48 := NB209_171.out
                        have hnc48 := NB171_209.out
                        have hcz49_0 : wc.cell? ⟨gb209, 0, none⟩ = some (.int .u32 t199) := (blk_cell BK209.out 0).trans rfl
                        have hcz49_1 : wc.cell? ⟨gb209, 1, none⟩ = some (.int .i64 t200) := (blk_cell BK209.out 1).trans rfl
                        have hcz49_2 : wc.cell? ⟨gb209, 2, none⟩ = some (.int .u32 t201) := (blk_cell BK209.out 2).trans rfl
                        have hcz49_3 : wc.cell? ⟨gb209, 3, none⟩ = some (.int .i64 t202) := (blk_cell BK209.out 3).trans rfl
                        have hcz49_4 : wc.cell? ⟨gb209, 4, none⟩ = some (.int .i64 t203) := (blk_cell BK209.out 4).trans rfl
                        have hcz49_5 : wc.cell? ⟨gb209, 5, none⟩ = some (.int .u16 t204) := (blk_cell BK209.out 5).trans rfl
                        have hcz49_6 : wc.cell? ⟨gb209, 6, none⟩ = some (.int .u16 t205) := (blk_cell BK209.out 6).trans rfl
                        have hcz49_7 : wc.cell? ⟨gb209, 7, none⟩ = some (.int .u16 t206) := (blk_cell BK209.out 7).trans rfl
                        have hcz49_8 : wc.cell? ⟨gb209, 8, none⟩ = some (.int .u16 t207) := (blk_cell BK209.out 8).trans rfl
                        have hfz49_0 := blk_frozen BK209.out 0
                        have hfz49_1 := blk_frozen BK209.out 1
                        have hfz49_2 := blk_frozen BK209.out 2
                        have hfz49_3 := blk_frozen BK209.out 3
                        have hfz49_4 := blk_frozen BK209.out 4
                        have hfz49_5 := blk_frozen BK209.out 5
                        have hfz49_6 := blk_frozen BK209.out 6
                        have hfz49_7 := blk_frozen BK209.out 7
                        have hfz49_8 := blk_frozen BK209.out 8
                        go_wp2_with (first | (go_at_call 28; (with_reducible refine (crossbuckref04_Check.calls kj21 t199 t200 t201 t202 t203 t204 t205 t206 t207 t212 _ A43.out).mono ?_); rintro e w50 ⟨rfl, hb⟩; have n0_ := Aside0.mk (blk_below (g := gb170) (o := .cells #[.int .u32 a1_0, .int .i64 a1_1, .int .u32 a1_2, .int .i64 a1_3, .int .i64 a1_4, .int .u16 a1_5, .int .u16 a1_6, .int .u16 a1_7, .int .u16 a1_8] 49 (0, 0)) (by (with_reducible repeat (first | refine blk_drewN ?_ _ | refine blk_drew ?_ | refine blk_alloc ?_ _)); exact BK170.out) hb); have n1_ := Aside0.mk (blk_below (g := gb171) (o := .cells #[.int .u32 a2_0, .int .u32 a2_1, .int .u8 a2_2, .int .u16 a2_3, .int .u16 a2_4] 51 (0, 0)) (by (with_reducible repeat (first | refine blk_drewN ?_ _ | refine blk_drew ?_ | refine blk_alloc ?_ _)); exact BK171.out) hb); have n2_ := Aside0.mk (blk_below (g := gb209) (o := .cells #[.int .u32 t199, .int .i64 t200, .int .u32 t201, .int .i64 t202, .int .i64 t203, .int .u16 t204, .int .u16 t205, .int .u16 t206, .int .u16 t207] 49 (0, 0)) (by (with_reducible repeat (first | refine blk_drewN ?_ _ | refine blk_drew ?_ | refine blk_alloc ?_ _)); exact BK209.out) hb); have n3_ := Aside0.mk (below_step (by repeat (first | (with_reducible first | exact HB.out | apply below_alloc | apply pw_below_drewN | apply below_drew1 | refine below_set ?_ GE170.out | refine below_set ?_ GE171.out | refine below_set ?_ GE209.out) | exact HB.out)) hb); clear BK170; clear BK171; clear BK209; clear HB; have BK170 := n0_; have BK171 := n1_; have BK209 := n2_; have HB := n3_; clear n0_ n1_ n2_ n3_; (try clear hb); (try clear hb2); (try clear hk); (try clear hi); have hcz51_0 : w50.cell? ⟨gb209, 0, none⟩ = some (.int .u32 t199) := (blk_cell BK209.out 0).trans rfl; have hcz51_1 : w50.cell? ⟨gb209, 1, none⟩ = some (.int .i64 t200) := (blk_cell BK209.out 1).trans rfl; have hcz51_2 : w50.cell? ⟨gb209, 2, none⟩ = some (.int .u32 t201) := (blk_cell BK209.out 2).trans rfl; have hcz51_3 : w50.cell? ⟨gb209, 3, none⟩ = some (.int .i64 t202) := (blk_cell BK209.out 3).trans rfl; have hcz51_4 : w50.cell? ⟨gb209, 4, none⟩ = some (.int .i64 t203) := (blk_cell BK209.out 4).trans rfl; have hcz51_5 : w50.cell? ⟨gb209, 5, none⟩ = some (.int .u16 t204) := (blk_cell BK209.out 5).trans rfl; have hcz51_6 : w50.cell? ⟨gb209, 6, none⟩ = some (.int .u16 t205) := (blk_cell BK209.out 6).trans rfl; have hcz51_7 : w50.cell? ⟨gb209, 7, none⟩ = some (.int .u16 t206) := (blk_cell BK209.out 7).trans rfl; have hcz51_8 : w50.cell? ⟨gb209, 8, none⟩ = some (.int .u16 t207) := (blk_cell BK209.out 8).trans rfl; have hfz51_0 := blk_frozen BK209.out 0; have hfz51_1 := blk_frozen BK209.out 1; have hfz51_2 := blk_frozen BK209.out 2; have hfz51_3 := blk_frozen BK209.out 3; have hfz51_4 := blk_frozen BK209.out 4; have hfz51_5 := blk_frozen BK209.out 5; have hfz51_6 := blk_frozen BK209.out 6; have hfz51_7 := blk_frozen BK209.out 7; have hfz51_8 := blk_frozen BK209.out 8; have hnb52 := NB171_170.out; have hnc52 := NB170_171.out; have hcz53_0 : w50.cell? ⟨gb171, 0, none⟩ = some (.int .u32 a2_0) := (blk_cell BK171.out 0).trans rfl; have hcz53_1 : w50.cell? ⟨gb171, 1, none⟩ = some (.int .u32 a2_1) := (blk_cell BK171.out 1).trans rfl; have hcz53_2 : w50.cell? ⟨gb171, 2, none⟩ = some (.int .u8 a2_2) := (blk_cell BK171.out 2).trans rfl; have hcz53_3 : w50.cell? ⟨gb171, 3, none⟩ = some (.int .u16 a2_3) := (blk_cell BK171.out 3).trans rfl; have hcz53_4 : w50.cell? ⟨gb171, 4, none⟩ = some (.int .u16 a2_4) := (blk_cell BK171.out 4).trans rfl; have hfz53_0 := blk_frozen BK171.out 0; have hfz53_1 := blk_frozen BK171.out 1; have hfz53_2 := blk_frozen BK171.out 2; have hfz53_3 := blk_frozen BK171.out 3; have hfz53_4 := blk_frozen BK171.out 4) | (go_at_call 30; (with_reducible refine (crossbuckref04_Match.calls kj21 t199 t200 t201 t202 t203 t204 t205 t206 t207 a2_0 a2_1 a2_2 a2_3 a2_4 t213 _ A45.out).mono ?_); rintro e w54 ⟨rfl, hb⟩; have n0_ := Aside0.mk (blk_below (g := gb170) (o := .cells #[.int .u32 a1_0, .int .i64 a1_1, .int .u32 a1_2, .int .i64 a1_3, .int .i64 a1_4, .int .u16 a1_5, .int .u16 a1_6, .int .u16 a1_7, .int .u16 a1_8] 49 (0, 0)) (by (with_reducible repeat (first | refine blk_drewN ?_ _ | refine blk_drew ?_ | refine blk_alloc ?_ _)); exact BK170.out) hb); have n1_ := Aside0.mk (blk_below (g := gb171) (o := .cells #[.int .u32 a2_0, .int .u32 a2_1, .int .u8 a2_2, .int .u16 a2_3, .int .u16 a2_4] 51 (0, 0)) (by (with_reducible repeat (first | refine blk_drewN ?_ _ | refine blk_drew ?_ | refine blk_alloc ?_ _)); exact BK171.out) hb); have n2_ := Aside0.mk (blk_below (g := gb209) (o := .cells #[.int .u32 t199, .int .i64 t200, .int .u32 t201, .int .i64 t202, .int .i64 t203, .int .u16 t204, .int .u16 t205, .int .u16 t206, .int .u16 t207] 49 (0, 0)) (by (with_reducible repeat (first | refine blk_drewN ?_ _ | refine blk_drew ?_ | refine blk_alloc ?_ _)); exact BK209.out) hb); have n3_ := Aside0.mk (below_step (by repeat (first | (with_reducible first | exact HB.out | apply below_alloc | apply pw_below_drewN | apply below_drew1 | refine below_set ?_ GE170.out | refine below_set ?_ GE171.out | refine below_set ?_ GE209.out) | exact HB.out)) hb); clear BK170; clear BK171; clear BK209; clear HB; have BK170 := n0_; have BK171 := n1_; have BK209 := n2_; have HB := n3_; clear n0_ n1_ n2_ n3_; (try clear hb); (try clear hb2); (try clear hk); (try clear hi)))
                        go_roundg kj21
                        case measure => have := HJ3.out; have := HK2.out; have := HJ21.out; omega
                        case rel => exact ⟨(wrap64 (x26_2 + 1)), (by first | rfl | (simp; done) | (simp [*]; done)), H', ⟨by have := HJ3.out; have := HK2.out; have := HJ21.out; omega⟩, ⟨by (with_reducible repeat (first | refine blk_drewN ?_ _ | refine blk_drew ?_ | refine blk_alloc ?_ _)); exact BK170.out⟩, ⟨by (with_reducible repeat (first | refine blk_drewN ?_ _ | refine blk_drew ?_ | refine blk_alloc ?_ _)); exact BK171.out⟩, ⟨by repeat (first | (with_reducible first | exact HB.out | apply below_alloc | apply pw_below_drewN | apply below_drew1 | refine below_set ?_ GE170.out | refine below_set ?_ GE171.out | refine below_set ?_ GE209.out) | exact HB.out)⟩⟩
                    · rw [if_neg c44] at H
                      have c44b0 : (t212 == 0) = false := beq_eq_false_iff_ne.mpr c44
                      have c44b1 : (t212 != 0) = true := bne_iff_ne.mpr c44
                      exact absurd ((Option.some.inj H).trans hT.out) (by decide)
                  · replace c42 := Bool.eq_false_iff.mpr c42
                    subst c42
                    have H1 : (if x10_21 = true then (some false) else (if ((!(t199 == 0) || (!(t200 == 0))) || ((!(t201 == 0) || (!(t202 == 0))) || (!(t203 == 0) || ((!(t204 == 0) || (!(t205 == 0))) || ((!(t206 == 0) || (!(t207 == 0)))))))) = true then (some false) else (crossbucklaw16_RegionFilters.l0 kj21 a0 t175 (wrap64 (x26_2 + 1)) a1_0 a1_1 a1_2 a1_3 a1_4 a1_5 a1_6 a1_7 a1_8 a2_0 a2_1 a2_2 a2_3 a2_4))) = some r := by rw [if_neg (show ¬ (false = true) by decide)] at H; exact H
                    clear H
                    have H := H1
                    clear H1
                    by_cases c55 : x10_21 = true
                    · subst c55
                      have H1 : (some false) = some r := by rw [if_pos rfl] at H; exact H
                      clear H
                      have H := H1
                      clear H1
                      exact absurd ((Option.some.inj H).trans hT.out) (by decide)
                    · replace c55 := Bool.eq_false_iff.mpr c55
                      subst c55
                      have H1 : (if ((!(t199 == 0) || (!(t200 == 0))) || ((!(t201 == 0) || (!(t202 == 0))) || (!(t203 == 0) || ((!(t204 == 0) || (!(t205 == 0))) || ((!(t206 == 0) || (!(t207 == 0)))))))) = true then (some false) else (crossbucklaw16_RegionFilters.l0 kj21 a0 t175 (wrap64 (x26_2 + 1)) a1_0 a1_1 a1_2 a1_3 a1_4 a1_5 a1_6 a1_7 a1_8 a2_0 a2_1 a2_2 a2_3 a2_4)) = some r := by rw [if_neg (show ¬ (false = true) by decide)] at H; exact H
                      clear H
                      have H := H1
                      clear H1
                      by_cases c56 : ((!(t199 == 0) || (!(t200 == 0))) || ((!(t201 == 0) || (!(t202 == 0))) || (!(t203 == 0) || ((!(t204 == 0) || (!(t205 == 0))) || ((!(t206 == 0) || (!(t207 == 0)))))))) = true
                      · rw [if_pos c56] at H
                        have c56b0 : ((!(t199 == 0) || (!(t200 == 0))) || ((!(t201 == 0) || (!(t202 == 0))) || (!(t203 == 0) || ((!(t204 == 0) || (!(t205 == 0))) || ((!(t206 == 0) || (!(t207 == 0)))))))) = true := c56
                        clear c56
                        exact absurd ((Option.some.inj H).trans hT.out) (by decide)
                      · rw [if_neg c56] at H
                        have c56b0 : ((!(t199 == 0) || (!(t200 == 0))) || ((!(t201 == 0) || (!(t202 == 0))) || (!(t203 == 0) || ((!(t204 == 0) || (!(t205 == 0))) || ((!(t206 == 0) || (!(t207 == 0)))))))) = false := by simpa using c56
                        clear c56
                        have H' := Aside0.mk H
                        clear H
                        have hnb57 := NB209_170.out
                        have hnc57 := NB170_209.out
                        have hnb58 := NB209_171.out
                        have hnc58 := NB171_209.out
                        have hcz59_0 : wc.cell? ⟨gb209, 0, none⟩ = some (.int .u32 t199) := (blk_cell BK209.out 0).trans rfl
                        have hcz59_1 : wc.cell? ⟨gb209, 1, none⟩ = some (.int .i64 t200) := (blk_cell BK209.out 1).trans rfl
                        have hcz59_2 : wc.cell? ⟨gb209, 2, none⟩ = some (.int .u32 t201) := (blk_cell BK209.out 2).trans rfl
                        have hcz59_3 : wc.cell? ⟨gb209, 3, none⟩ = some (.int .i64 t202) := (blk_cell BK209.out 3).trans rfl
                        have hcz59_4 : wc.cell? ⟨gb209, 4, none⟩ = some (.int .i64 t203) := (blk_cell BK209.out 4).trans rfl
                        have hcz59_5 : wc.cell? ⟨gb209, 5, none⟩ = some (.int .u16 t204) := (blk_cell BK209.out 5).trans rfl
                        have hcz59_6 : wc.cell? ⟨gb209, 6, none⟩ = some (.int .u16 t205) := (blk_cell BK209.out 6).trans rfl
                        have hcz59_7 : wc.cell? ⟨gb209, 7, none⟩ = some (.int .u16 t206) := (blk_cell BK209.out 7).trans rfl
                        have hcz59_8 : wc.cell? ⟨gb209, 8, none⟩ = some (.int .u16 t207) := (blk_cell BK209.out 8).trans rfl
                        have hfz59_0 := blk_frozen BK209.out 0
                        have hfz59_1 := blk_frozen BK209.out 1
                        have hfz59_2 := blk_frozen BK209.out 2
                        have hfz59_3 := blk_frozen BK209.out 3
                        have hfz59_4 := blk_frozen BK209.out 4
                        have hfz59_5 := blk_frozen BK209.out 5
                        have hfz59_6 := blk_frozen BK209.out 6
                        have hfz59_7 := blk_frozen BK209.out 7
                        have hfz59_8 := blk_frozen BK209.out 8
                        go_wp2
                        go_roundg kj21
                        case measure => have := HJ3.out; have := HK2.out; have := HJ21.out; omega
                        case rel => exact ⟨(wrap64 (x26_2 + 1)), (by first | rfl | (simp; done) | (simp [*]; done)), H', ⟨by have := HJ3.out; have := HK2.out; have := HJ21.out; omega⟩, ⟨by (with_reducible repeat (first | refine blk_drewN ?_ _ | refine blk_drew ?_ | refine blk_alloc ?_ _)); exact BK170.out⟩, ⟨by (with_reducible repeat (first | refine blk_drewN ?_ _ | refine blk_drew ?_ | refine blk_alloc ?_ _)); exact BK171.out⟩, ⟨by repeat (first | (with_reducible first | exact HB.out | apply below_alloc | apply pw_below_drewN | apply below_drew1 | refine below_set ?_ GE170.out | refine below_set ?_ GE171.out | refine below_set ?_ GE209.out) | exact HB.out)⟩⟩
            · rw [if_neg c20] at H
              have c20b0 : decide (x26_2 < t175) = false := decide_eq_false c20
              clear c20
              replace H := Option.bind_eq_some_iff.mp H
              obtain ⟨⟨t176, t177, t178, t179, t180, t181, t182, t183, t184, t185⟩, A600, H⟩ := H
              replace H : ((region_Part.f k2 a0 8 a1_0 a1_1 a1_2 a1_3 a1_4 a1_5 a1_6 a1_7 a1_8).bind fun bt187 => ((crossbucklaw16_awake.f).bind fun t198 => (if t198 = true then (if t185 = true then (some false) else (some (!bt187.2.2.2.2.2.2.2.2.2))) else (some false)))) = some r := H
              have A60 := Aside0.mk A600
              clear A600
              replace H := Option.bind_eq_some_iff.mp H
              obtain ⟨⟨t187, t188, t189, t190, t191, t192, t193, t194, t195, t196⟩, A610, H⟩ := H
              replace H : ((crossbucklaw16_awake.f).bind fun t198 => (if t198 = true then (if t185 = true then (some false) else (some (!t196))) else (some false))) = some r := H
              have A61 := Aside0.mk A610
              clear A610
              replace H := Option.bind_eq_some_iff.mp H
              obtain ⟨t198, A620, H⟩ := H
              replace H : (if t198 = true then (if t185 = true then (some false) else (some (!t196))) else (some false)) = some r := H
              have A62 := Aside0.mk A620
              clear A620
              by_cases c63 : t198 = true
              · subst c63
                have H1 : (if t185 = true then (some false) else (some (!t196))) = some r := by rw [if_pos rfl] at H; exact H
                clear H
                have H := H1
                clear H1
                by_cases c64 : t185 = true
                · subst c64
                  have H1 : (some false) = some r := by rw [if_pos rfl] at H; exact H
                  clear H
                  have H := H1
                  clear H1
                  exact absurd ((Option.some.inj H).trans hT.out) (by decide)
                · replace c64 := Bool.eq_false_iff.mpr c64
                  subst c64
                  have H1 : (some (!t196)) = some r := by rw [if_neg (show ¬ (false = true) by decide)] at H; exact H
                  clear H
                  have H := H1
                  clear H1
                  obtain rfl := Option.some.inj H
                  have hnb65 := NB170_171.out
                  have hnc65 := NB171_170.out
                  have hcz66_0 : wr.cell? ⟨gb170, 0, none⟩ = some (.int .u32 a1_0) := (blk_cell BK170.out 0).trans rfl
                  have hcz66_1 : wr.cell? ⟨gb170, 1, none⟩ = some (.int .i64 a1_1) := (blk_cell BK170.out 1).trans rfl
                  have hcz66_2 : wr.cell? ⟨gb170, 2, none⟩ = some (.int .u32 a1_2) := (blk_cell BK170.out 2).trans rfl
                  have hcz66_3 : wr.cell? ⟨gb170, 3, none⟩ = some (.int .i64 a1_3) := (blk_cell BK170.out 3).trans rfl
                  have hcz66_4 : wr.cell? ⟨gb170, 4, none⟩ = some (.int .i64 a1_4) := (blk_cell BK170.out 4).trans rfl
                  have hcz66_5 : wr.cell? ⟨gb170, 5, none⟩ = some (.int .u16 a1_5) := (blk_cell BK170.out 5).trans rfl
                  have hcz66_6 : wr.cell? ⟨gb170, 6, none⟩ = some (.int .u16 a1_6) := (blk_cell BK170.out 6).trans rfl
                  have hcz66_7 : wr.cell? ⟨gb170, 7, none⟩ = some (.int .u16 a1_7) := (blk_cell BK170.out 7).trans rfl
                  have hcz66_8 : wr.cell? ⟨gb170, 8, none⟩ = some (.int .u16 a1_8) := (blk_cell BK170.out 8).trans rfl
                  have hfz66_0 := blk_frozen BK170.out 0
                  have hfz66_1 := blk_frozen BK170.out 1
                  have hfz66_2 := blk_frozen BK170.out 2
                  have hfz66_3 := blk_frozen BK170.out 3
                  have hfz66_4 := blk_frozen BK170.out 4
                  have hfz66_5 := blk_frozen BK170.out 5
                  have hfz66_6 := blk_frozen BK170.out 6
                  have hfz66_7 := blk_frozen BK170.out 7
                  have hfz66_8 := blk_frozen BK170.out 8
                  go_wp2_with (first | ((with_reducible refine gate_callee (f := 29) rfl ?_); refine goesL_ (some 79) rfl rfl Try.func29 (by kernel_rfl) rfl #[.int .i64 a0, .int .i64 (-1), .agg #[.int .u32 a1_0, .int .i64 a1_1, .int .u32 a1_2, .int .i64 a1_3, .int .i64 a1_4, .int .u16 a1_5, .int .u16 a1_6, .int .u16 a1_7, .int .u16 a1_8]] rfl (by (try simp only [List.map_toArray, List.map_cons, List.map_nil]); first | done | rfl | (simp only [List.length_drop, List.length_take]; rfl)) ?_; (with_reducible refine (region_Part.calls k2 a0 (-1) a1_0 a1_1 a1_2 a1_3 a1_4 a1_5 a1_6 a1_7 a1_8 t176 t177 t178 t179 t180 t181 t182 t183 t184 false _ A60.out).mono ?_); rintro e w67 ⟨rfl, hb⟩; refine ⟨_, rfl, ?_⟩; have n0_ := Aside0.mk (blk_below (g := gb170) (o := .cells #[.int .u32 a1_0, .int .i64 a1_1, .int .u32 a1_2, .int .i64 a1_3, .int .i64 a1_4, .int .u16 a1_5, .int .u16 a1_6, .int .u16 a1_7, .int .u16 a1_8] 49 (0, 0)) (by (with_reducible repeat (first | refine blk_drewN ?_ _ | refine blk_drew ?_ | refine blk_alloc ?_ _)); exact BK170.out) hb); have n1_ := Aside0.mk (blk_below (g := gb171) (o := .cells #[.int .u32 a2_0, .int .u32 a2_1, .int .u8 a2_2, .int .u16 a2_3, .int .u16 a2_4] 51 (0, 0)) (by (with_reducible repeat (first | refine blk_drewN ?_ _ | refine blk_drew ?_ | refine blk_alloc ?_ _)); exact BK171.out) hb); have n2_ := Aside0.mk (below_step (by repeat (first | (with_reducible first | exact HB.out | apply below_alloc | apply pw_below_drewN | apply below_drew1 | refine below_set ?_ GE170.out | refine below_set ?_ GE171.out) | exact HB.out)) hb); clear BK170; clear BK171; clear HB; have BK170 := n0_; have BK171 := n1_; have HB := n2_; clear n0_ n1_ n2_; (try clear hb); (try clear hb2); (try clear hk); (try clear hi)) | ((with_reducible refine gate_dst (N := 11) rfl ?_); refine box_event ?hg (N := 11) ?hd (cs := #[.int .u32 0, .int .i64 0, .int .u32 0, .int .i64 0, .int .i64 0, .int .u16 0, .int .u16 0, .int .u16 0, .int .u16 0]) (t := 49) ?hr ?_; (case hd => rfl); (case hg => rfl); (case hr => first | (go_simp; done) | (go_simp; rfl)); intro gb186 hg w68 hbox hb; have n0_ := Aside0.mk (blk_below (g := gb170) (o := .cells #[.int .u32 a1_0, .int .i64 a1_1, .int .u32 a1_2, .int .i64 a1_3, .int .i64 a1_4, .int .u16 a1_5, .int .u16 a1_6, .int .u16 a1_7, .int .u16 a1_8] 49 (0, 0)) (by (with_reducible repeat (first | refine blk_drewN ?_ _ | refine blk_drew ?_ | refine blk_alloc ?_ _)); exact BK170.out) hb); have n1_ := Aside0.mk (blk_below (g := gb171) (o := .cells #[.int .u32 a2_0, .int .u32 a2_1, .int .u8 a2_2, .int .u16 a2_3, .int .u16 a2_4] 51 (0, 0)) (by (with_reducible repeat (first | refine blk_drewN ?_ _ | refine blk_drew ?_ | refine blk_alloc ?_ _)); exact BK171.out) hb); have n2_ := Aside0.mk (below_step (by repeat (first | (with_reducible first | exact HB.out | apply below_alloc | apply pw_below_drewN | apply below_drew1 | refine below_set ?_ GE170.out | refine below_set ?_ GE171.out) | exact HB.out)) hb); have n3_ := Aside0.mk (hbox); have n4_ := Aside0.mk ((by rw [hg]; exact (below_size (by repeat (first | (with_reducible first | exact HB.out | apply below_alloc | apply pw_below_drewN | apply below_drew1 | refine below_set ?_ GE170.out | refine below_set ?_ GE171.out) | exact HB.out))) : w.heap.size ≤ gb186)); have n5_ := Aside0.mk ((by rw [hg]; exact (below_size (by repeat (first | (with_reducible first | exact HB.out | apply below_alloc | apply pw_below_drewN | apply below_drew1 | refine below_set ?_ GE170.out | refine below_set ?_ GE171.out) | exact HB.out))) : w.heap.size ≤ gb186)); have n6_ := Aside0.mk ((by rw [hg]; exact Nat.ne_of_lt (blk_lt (g := gb170) (o := .cells #[.int .u32 a1_0, .int .i64 a1_1, .int .u32 a1_2, .int .i64 a1_3, .int .i64 a1_4, .int .u16 a1_5, .int .u16 a1_6, .int .u16 a1_7, .int .u16 a1_8] 49 (0, 0)) (by (with_reducible repeat (first | refine blk_drewN ?_ _ | refine blk_drew ?_ | refine blk_alloc ?_ _)); exact BK170.out)) : gb170 ≠ gb186)); have n7_ := Aside0.mk ((by rw [hg]; exact Nat.ne_of_gt (blk_lt (g := gb170) (o := .cells #[.int .u32 a1_0, .int .i64 a1_1, .int .u32 a1_2, .int .i64 a1_3, .int .i64 a1_4, .int .u16 a1_5, .int .u16 a1_6, .int .u16 a1_7, .int .u16 a1_8] 49 (0, 0)) (by (with_reducible repeat (first | refine blk_drewN ?_ _ | refine blk_drew ?_ | refine blk_alloc ?_ _)); exact BK170.out)) : gb186 ≠ gb170)); have n8_ := Aside0.mk ((by rw [hg]; exact Nat.ne_of_lt (blk_lt (g := gb171) (o := .cells #[.int .u32 a2_0, .int .u32 a2_1, .int .u8 a2_2, .int .u16 a2_3, .int .u16 a2_4] 51 (0, 0)) (by (with_reducible repeat (first | refine blk_drewN ?_ _ | refine blk_drew ?_ | refine blk_alloc ?_ _)); exact BK171.out)) : gb171 ≠ gb186)); have n9_ := Aside0.mk ((by rw [hg]; exact Nat.ne_of_gt (blk_lt (g := gb171) (o := .cells #[.int .u32 a2_0, .int .u32 a2_1, .int .u8 a2_2, .int .u16 a2_3, .int .u16 a2_4] 51 (0, 0)) (by (with_reducible repeat (first | refine blk_drewN ?_ _ | refine blk_drew ?_ | refine blk_alloc ?_ _)); exact BK171.out)) : gb186 ≠ gb171)); clear BK170; clear BK171; clear HB; have BK170 := n0_; have BK171 := n1_; have HB := n2_; have BK186 := n3_; have GW186 := n4_; have GE186 := n5_; have NB170_186 := n6_; have NB186_170 := n7_; have NB171_186 := n8_; have NB186_171 := n9_; clear n0_ n1_ n2_ n3_ n4_ n5_ n6_ n7_ n8_ n9_; clear hb hbox hg; have hnb69 := NB186_170.out; have hnc69 := NB170_186.out; have hnb70 := NB186_171.out; have hnc70 := NB171_186.out; have hcz71_0 : w68.cell? ⟨gb186, 0, none⟩ = some (.int .u32 0) := (blk_cell BK186.out 0).trans rfl; have hcz71_1 : w68.cell? ⟨gb186, 1, none⟩ = some (.int .i64 0) := (blk_cell BK186.out 1).trans rfl; have hcz71_2 : w68.cell? ⟨gb186, 2, none⟩ = some (.int .u32 0) := (blk_cell BK186.out 2).trans rfl; have hcz71_3 : w68.cell? ⟨gb186, 3, none⟩ = some (.int .i64 0) := (blk_cell BK186.out 3).trans rfl; have hcz71_4 : w68.cell? ⟨gb186, 4, none⟩ = some (.int .i64 0) := (blk_cell BK186.out 4).trans rfl; have hcz71_5 : w68.cell? ⟨gb186, 5, none⟩ = some (.int .u16 0) := (blk_cell BK186.out 5).trans rfl; have hcz71_6 : w68.cell? ⟨gb186, 6, none⟩ = some (.int .u16 0) := (blk_cell BK186.out 6).trans rfl; have hcz71_7 : w68.cell? ⟨gb186, 7, none⟩ = some (.int .u16 0) := (blk_cell BK186.out 7).trans rfl; have hcz71_8 : w68.cell? ⟨gb186, 8, none⟩ = some (.int .u16 0) := (blk_cell BK186.out 8).trans rfl; have hfz71_0 := blk_frozen BK186.out 0; have hfz71_1 := blk_frozen BK186.out 1; have hfz71_2 := blk_frozen BK186.out 2; have hfz71_3 := blk_frozen BK186.out 3; have hfz71_4 := blk_frozen BK186.out 4; have hfz71_5 := blk_frozen BK186.out 5; have hfz71_6 := blk_frozen BK186.out 6; have hfz71_7 := blk_frozen BK186.out 7; have hfz71_8 := blk_frozen BK186.out 8; have hcz72_0 : w68.cell? ⟨gb170, 0, none⟩ = some (.int .u32 a1_0) := (blk_cell BK170.out 0).trans rfl; have hcz72_1 : w68.cell? ⟨gb170, 1, none⟩ = some (.int .i64 a1_1) := (blk_cell BK170.out 1).trans rfl; have hcz72_2 : w68.cell? ⟨gb170, 2, none⟩ = some (.int .u32 a1_2) := (blk_cell BK170.out 2).trans rfl; have hcz72_3 : w68.cell? ⟨gb170, 3, none⟩ = some (.int .i64 a1_3) := (blk_cell BK170.out 3).trans rfl; have hcz72_4 : w68.cell? ⟨gb170, 4, none⟩ = some (.int .i64 a1_4) := (blk_cell BK170.out 4).trans rfl; have hcz72_5 : w68.cell? ⟨gb170, 5, none⟩ = some (.int .u16 a1_5) := (blk_cell BK170.out 5).trans rfl; have hcz72_6 : w68.cell? ⟨gb170, 6, none⟩ = some (.int .u16 a1_6) := (blk_cell BK170.out 6).trans rfl; have hcz72_7 : w68.cell? ⟨gb170, 7, none⟩ = some (.int .u16 a1_7) := (blk_cell BK170.out 7).trans rfl; have hcz72_8 : w68.cell? ⟨gb170, 8, none⟩ = some (.int .u16 a1_8) := (blk_cell BK170.out 8).trans rfl; have hfz72_0 := blk_frozen BK170.out 0; have hfz72_1 := blk_frozen BK170.out 1; have hfz72_2 := blk_frozen BK170.out 2; have hfz72_3 := blk_frozen BK170.out 3; have hfz72_4 := blk_frozen BK170.out 4; have hfz72_5 := blk_frozen BK170.out 5; have hfz72_6 := blk_frozen BK170.out 6; have hfz72_7 := blk_frozen BK170.out 7; have hfz72_8 := blk_frozen BK170.out 8) | ((with_reducible refine gate_callee (f := 29) rfl ?_); refine goesL_ (some 85) rfl rfl Try.func29 (by kernel_rfl) rfl #[.int .i64 a0, .int .i64 8, .agg #[.int .u32 a1_0, .int .i64 a1_1, .int .u32 a1_2, .int .i64 a1_3, .int .i64 a1_4, .int .u16 a1_5, .int .u16 a1_6, .int .u16 a1_7, .int .u16 a1_8]] rfl (by (try simp only [List.map_toArray, List.map_cons, List.map_nil]); first | done | rfl | (simp only [List.length_drop, List.length_take]; rfl)) ?_; (with_reducible refine (region_Part.calls k2 a0 8 a1_0 a1_1 a1_2 a1_3 a1_4 a1_5 a1_6 a1_7 a1_8 t187 t188 t189 t190 t191 t192 t193 t194 t195 t196 _ A61.out).mono ?_); rintro e w73 ⟨rfl, hb⟩; refine ⟨_, rfl, ?_⟩; have n0_ := Aside0.mk (blk_below (g := gb170) (o := .cells #[.int .u32 a1_0, .int .i64 a1_1, .int .u32 a1_2, .int .i64 a1_3, .int .i64 a1_4, .int .u16 a1_5, .int .u16 a1_6, .int .u16 a1_7, .int .u16 a1_8] 49 (0, 0)) (by (with_reducible repeat (first | refine blk_drewN ?_ _ | refine blk_drew ?_ | refine blk_alloc ?_ _)); refine blk_far ?_ NB170_186.out _; (with_reducible repeat (first | refine blk_drewN ?_ _ | refine blk_drew ?_ | refine blk_alloc ?_ _)); refine blk_far ?_ NB170_186.out _; (with_reducible repeat (first | refine blk_drewN ?_ _ | refine blk_drew ?_ | refine blk_alloc ?_ _)); refine blk_far ?_ NB170_186.out _; (with_reducible repeat (first | refine blk_drewN ?_ _ | refine blk_drew ?_ | refine blk_alloc ?_ _)); refine blk_far ?_ NB170_186.out _; (with_reducible repeat (first | refine blk_drewN ?_ _ | refine blk_drew ?_ | refine blk_alloc ?_ _)); refine blk_far ?_ NB170_186.out _; (with_reducible repeat (first | refine blk_drewN ?_ _ | refine blk_drew ?_ | refine blk_alloc ?_ _)); refine blk_far ?_ NB170_186.out _; (with_reducible repeat (first | refine blk_drewN ?_ _ | refine blk_drew ?_ | refine blk_alloc ?_ _)); refine blk_far ?_ NB170_186.out _; (with_reducible repeat (first | refine blk_drewN ?_ _ | refine blk_drew ?_ | refine blk_alloc ?_ _)); refine blk_far ?_ NB170_186.out _; (with_reducible repeat (first | refine blk_drewN ?_ _ | refine blk_drew ?_ | refine blk_alloc ?_ _)); refine blk_far ?_ NB170_186.out _; (with_reducible repeat (first | refine blk_drewN ?_ _ | refine blk_drew ?_ | refine blk_alloc ?_ _)); exact BK170.out) hb); have n1_ := Aside0.mk (blk_below (g := gb171) (o := .cells #[.int .u32 a2_0, .int .u32 a2_1, .int .u8 a2_2, .int .u16 a2_3, .int .u16 a2_4] 51 (0, 0)) (by (with_reducible repeat (first | refine blk_drewN ?_ _ | refine blk_drew ?_ | refine blk_alloc ?_ _)); refine blk_far ?_ NB171_186.out _; (with_reducible repeat (first | refine blk_drewN ?_ _ | refine blk_drew ?_ | refine blk_alloc ?_ _)); refine blk_far ?_ NB171_186.out _; (with_reducible repeat (first | refine blk_drewN ?_ _ | refine blk_drew ?_ | refine blk_alloc ?_ _)); refine blk_far ?_ NB171_186.out _; (with_reducible repeat (first | refine blk_drewN ?_ _ | refine blk_drew ?_ | refine blk_alloc ?_ _)); refine blk_far ?_ NB171_186.out _; (with_reducible repeat (first | refine blk_drewN ?_ _ | refine blk_drew ?_ | refine blk_alloc ?_ _)); refine blk_far ?_ NB171_186.out _; (with_reducible repeat (first | refine blk_drewN ?_ _ | refine blk_drew ?_ | refine blk_alloc ?_ _)); refine blk_far ?_ NB171_186.out _; (with_reducible repeat (first | refine blk_drewN ?_ _ | refine blk_drew ?_ | refine blk_alloc ?_ _)); refine blk_far ?_ NB171_186.out _; (with_reducible repeat (first | refine blk_drewN ?_ _ | refine blk_drew ?_ | refine blk_alloc ?_ _)); refine blk_far ?_ NB171_186.out _; (with_reducible repeat (first | refine blk_drewN ?_ _ | refine blk_drew ?_ | refine blk_alloc ?_ _)); refine blk_far ?_ NB171_186.out _; (with_reducible repeat (first | refine blk_drewN ?_ _ | refine blk_drew ?_ | refine blk_alloc ?_ _)); exact BK171.out) hb); have n2_ := Aside0.mk (blk_below (g := gb186) (o := .cells #[.int .u32 t176, .int .i64 t177, .int .u32 t178, .int .i64 t179, .int .i64 t180, .int .u16 t181, .int .u16 t182, .int .u16 t183, .int .u16 t184] 49 (0, 0)) (by (with_reducible repeat (first | refine blk_drewN ?_ _ | refine blk_drew ?_ | refine blk_alloc ?_ _)); refine blk_put (cs := #[.int .u32 t176, .int .i64 t177, .int .u32 t178, .int .i64 t179, .int .i64 t180, .int .u16 t181, .int .u16 t182, .int .u16 t183, .int .u16 0]) ?_ 8 _ rfl; (with_reducible repeat (first | refine blk_drewN ?_ _ | refine blk_drew ?_ | refine blk_alloc ?_ _)); refine blk_put (cs := #[.int .u32 t176, .int .i64 t177, .int .u32 t178, .int .i64 t179, .int .i64 t180, .int .u16 t181, .int .u16 t182, .int .u16 0, .int .u16 0]) ?_ 7 _ rfl; (with_reducible repeat (first | refine blk_drewN ?_ _ | refine blk_drew ?_ | refine blk_alloc ?_ _)); refine blk_put (cs := #[.int .u32 t176, .int .i64 t177, .int .u32 t178, .int .i64 t179, .int .i64 t180, .int .u16 t181, .int .u16 0, .int .u16 0, .int .u16 0]) ?_ 6 _ rfl; (with_reducible repeat (first | refine blk_drewN ?_ _ | refine blk_drew ?_ | refine blk_alloc ?_ _)); refine blk_put (cs := #[.int .u32 t176, .int .i64 t177, .int .u32 t178, .int .i64 t179, .int .i64 t180, .int .u16 0, .int .u16 0, .int .u16 0, .int .u16 0]) ?_ 5 _ rfl; (with_reducible repeat (first | refine blk_drewN ?_ _ | refine blk_drew ?_ | refine blk_alloc ?_ _)); refine blk_put (cs := #[.int .u32 t176, .int .i64 t177, .int .u32 t178, .int .i64 t179, .int .i64 0, .int .u16 0, .int .u16 0, .int .u16 0, .int .u16 0]) ?_ 4 _ rfl; (with_reducible repeat (first | refine blk_drewN ?_ _ | refine blk_drew ?_ | refine blk_alloc ?_ _)); refine blk_put (cs := #[.int .u32 t176, .int .i64 t177, .int .u32 t178, .int .i64 0, .int .i64 0, .int .u16 0, .int .u16 0, .int .u16 0, .int .u16 0]) ?_ 3 _ rfl; (with_reducible repeat (first | refine blk_drewN ?_ _ | refine blk_drew ?_ | refine blk_alloc ?_ _)); refine blk_put (cs := #[.int .u32 t176, .int .i64 t177, .int .u32 0, .int .i64 0, .int .i64 0, .int .u16 0, .int .u16 0, .int .u16 0, .int .u16 0]) ?_ 2 _ rfl; (with_reducible repeat (first | refine blk_drewN ?_ _ | refine blk_drew ?_ | refine blk_alloc ?_ _)); refine blk_put (cs := #[.int .u32 t176, .int .i64 0, .int .u32 0, .int .i64 0, .int .i64 0, .int .u16 0, .int .u16 0, .int .u16 0, .int .u16 0]) ?_ 1 _ rfl; (with_reducible repeat (first | refine blk_drewN ?_ _ | refine blk_drew ?_ | refine blk_alloc ?_ _)); refine blk_put (cs := #[.int .u32 0, .int .i64 0, .int .u32 0, .int .i64 0, .int .i64 0, .int .u16 0, .int .u16 0, .int .u16 0, .int .u16 0]) ?_ 0 _ rfl; (with_reducible repeat (first | refine blk_drewN ?_ _ | refine blk_drew ?_ | refine blk_alloc ?_ _)); exact BK186.out) hb); have n3_ := Aside0.mk (below_step (by repeat (first | (with_reducible first | exact HB.out | apply below_alloc | apply pw_below_drewN | apply below_drew1 | refine below_set ?_ GE170.out | refine below_set ?_ GE171.out | refine below_set ?_ GE186.out) | exact HB.out)) hb); clear BK170; clear BK171; clear BK186; clear HB; have BK170 := n0_; have BK171 := n1_; have BK186 := n2_; have HB := n3_; clear n0_ n1_ n2_ n3_; (try clear hb); (try clear hb2); (try clear hk); (try clear hi)) | ((with_reducible refine gate_dst (N := 13) rfl ?_); refine box_event ?hg (N := 13) ?hd (cs := #[.int .u32 0, .int .i64 0, .int .u32 0, .int .i64 0, .int .i64 0, .int .u16 0, .int .u16 0, .int .u16 0, .int .u16 0]) (t := 49) ?hr ?_; (case hd => rfl); (case hg => rfl); (case hr => first | (go_simp; done) | (go_simp; rfl)); intro gb197 hg w74 hbox hb; have n0_ := Aside0.mk (blk_below (g := gb170) (o := .cells #[.int .u32 a1_0, .int .i64 a1_1, .int .u32 a1_2, .int .i64 a1_3, .int .i64 a1_4, .int .u16 a1_5, .int .u16 a1_6, .int .u16 a1_7, .int .u16 a1_8] 49 (0, 0)) (by (with_reducible repeat (first | refine blk_drewN ?_ _ | refine blk_drew ?_ | refine blk_alloc ?_ _)); exact BK170.out) hb); have n1_ := Aside0.mk (blk_below (g := gb171) (o := .cells #[.int .u32 a2_0, .int .u32 a2_1, .int .u8 a2_2, .int .u16 a2_3, .int .u16 a2_4] 51 (0, 0)) (by (with_reducible repeat (first | refine blk_drewN ?_ _ | refine blk_drew ?_ | refine blk_alloc ?_ _)); exact BK171.out) hb); have n2_ := Aside0.mk (blk_below (g := gb186) (o := .cells #[.int .u32 t176, .int .i64 t177, .int .u32 t178, .int .i64 t179, .int .i64 t180, .int .u16 t181, .int .u16 t182, .int .u16 t183, .int .u16 t184] 49 (0, 0)) (by (with_reducible repeat (first | refine blk_drewN ?_ _ | refine blk_drew ?_ | refine blk_alloc ?_ _)); exact BK186.out) hb); have n3_ := Aside0.mk (below_step (by repeat (first | (with_reducible first | exact HB.out | apply below_alloc | apply pw_below_drewN | apply below_drew1 | refine below_set ?_ GE170.out | refine below_set ?_ GE171.out | refine below_set ?_ GE186.out) | exact HB.out)) hb); have n4_ := Aside0.mk (hbox); have n5_ := Aside0.mk ((by rw [hg]; exact (below_size (by repeat (first | (with_reducible first | exact HB.out | apply below_alloc | apply pw_below_drewN | apply below_drew1 | refine below_set ?_ GE170.out | refine below_set ?_ GE171.out | refine below_set ?_ GE186.out) | exact HB.out))) : w.heap.size ≤ gb197)); have n6_ := Aside0.mk ((by rw [hg]; exact (below_size (by repeat (first | (with_reducible first | exact HB.out | apply below_alloc | apply pw_below_drewN | apply below_drew1 | refine below_set ?_ GE170.out | refine below_set ?_ GE171.out | refine below_set ?_ GE186.out) | exact HB.out))) : w.heap.size ≤ gb197)); have n7_ := Aside0.mk ((by rw [hg]; exact Nat.ne_of_lt (blk_lt (g := gb170) (o := .cells #[.int .u32 a1_0, .int .i64 a1_1, .int .u32 a1_2, .int .i64 a1_3, .int .i64 a1_4, .int .u16 a1_5, .int .u16 a1_6, .int .u16 a1_7, .int .u16 a1_8] 49 (0, 0)) (by (with_reducible repeat (first | refine blk_drewN ?_ _ | refine blk_drew ?_ | refine blk_alloc ?_ _)); exact BK170.out)) : gb170 ≠ gb197)); have n8_ := Aside0.mk ((by rw [hg]; exact Nat.ne_of_gt (blk_lt (g := gb170) (o := .cells #[.int .u32 a1_0, .int .i64 a1_1, .int .u32 a1_2, .int .i64 a1_3, .int .i64 a1_4, .int .u16 a1_5, .int .u16 a1_6, .int .u16 a1_7, .int .u16 a1_8] 49 (0, 0)) (by (with_reducible repeat (first | refine blk_drewN ?_ _ | refine blk_drew ?_ | refine blk_alloc ?_ _)); exact BK170.out)) : gb197 ≠ gb170)); have n9_ := Aside0.mk ((by rw [hg]; exact Nat.ne_of_lt (blk_lt (g := gb171) (o := .cells #[.int .u32 a2_0, .int .u32 a2_1, .int .u8 a2_2, .int .u16 a2_3, .int .u16 a2_4] 51 (0, 0)) (by (with_reducible repeat (first | refine blk_drewN ?_ _ | refine blk_drew ?_ | refine blk_alloc ?_ _)); exact BK171.out)) : gb171 ≠ gb197)); have n10_ := Aside0.mk ((by rw [hg]; exact Nat.ne_of_gt (blk_lt (g := gb171) (o := .cells #[.int .u32 a2_0, .int .u32 a2_1, .int .u8 a2_2, .int .u16 a2_3, .int .u16 a2_4] 51 (0, 0)) (by (with_reducible repeat (first | refine blk_drewN ?_ _ | refine blk_drew ?_ | refine blk_alloc ?_ _)); exact BK171.out)) : gb197 ≠ gb171)); have n11_ := Aside0.mk ((by rw [hg]; exact Nat.ne_of_lt (blk_lt (g := gb186) (o := .cells #[.int .u32 t176, .int .i64 t177, .int .u32 t178, .int .i64 t179, .int .i64 t180, .int .u16 t181, .int .u16 t182, .int .u16 t183, .int .u16 t184] 49 (0, 0)) (by (with_reducible repeat (first | refine blk_drewN ?_ _ | refine blk_drew ?_ | refine blk_alloc ?_ _)); exact BK186.out)) : gb186 ≠ gb197)); have n12_ := Aside0.mk ((by rw [hg]; exact Nat.ne_of_gt (blk_lt (g := gb186) (o := .cells #[.int .u32 t176, .int .i64 t177, .int .u32 t178, .int .i64 t179, .int .i64 t180, .int .u16 t181, .int .u16 t182, .int .u16 t183, .int .u16 t184] 49 (0, 0)) (by (with_reducible repeat (first | refine blk_drewN ?_ _ | refine blk_drew ?_ | refine blk_alloc ?_ _)); exact BK186.out)) : gb197 ≠ gb186)); clear BK170; clear BK171; clear BK186; clear HB; have BK170 := n0_; have BK171 := n1_; have BK186 := n2_; have HB := n3_; have BK197 := n4_; have GW197 := n5_; have GE197 := n6_; have NB170_197 := n7_; have NB197_170 := n8_; have NB171_197 := n9_; have NB197_171 := n10_; have NB186_197 := n11_; have NB197_186 := n12_; clear n0_ n1_ n2_ n3_ n4_ n5_ n6_ n7_ n8_ n9_ n10_ n11_ n12_; clear hb hbox hg; have hnb75 := NB197_170.out; have hnc75 := NB170_197.out; have hnb76 := NB197_171.out; have hnc76 := NB171_197.out; have hnb77 := NB197_186.out; have hnc77 := NB186_197.out; have hcz78_0 : w74.cell? ⟨gb197, 0, none⟩ = some (.int .u32 0) := (blk_cell BK197.out 0).trans rfl; have hcz78_1 : w74.cell? ⟨gb197, 1, none⟩ = some (.int .i64 0) := (blk_cell BK197.out 1).trans rfl; have hcz78_2 : w74.cell? ⟨gb197, 2, none⟩ = some (.int .u32 0) := (blk_cell BK197.out 2).trans rfl; have hcz78_3 : w74.cell? ⟨gb197, 3, none⟩ = some (.int .i64 0) := (blk_cell BK197.out 3).trans rfl; have hcz78_4 : w74.cell? ⟨gb197, 4, none⟩ = some (.int .i64 0) := (blk_cell BK197.out 4).trans rfl; have hcz78_5 : w74.cell? ⟨gb197, 5, none⟩ = some (.int .u16 0) := (blk_cell BK197.out 5).trans rfl; have hcz78_6 : w74.cell? ⟨gb197, 6, none⟩ = some (.int .u16 0) := (blk_cell BK197.out 6).trans rfl; have hcz78_7 : w74.cell? ⟨gb197, 7, none⟩ = some (.int .u16 0) := (blk_cell BK197.out 7).trans rfl; have hcz78_8 : w74.cell? ⟨gb197, 8, none⟩ = some (.int .u16 0) := (blk_cell BK197.out 8).trans rfl; have hfz78_0 := blk_frozen BK197.out 0; have hfz78_1 := blk_frozen BK197.out 1; have hfz78_2 := blk_frozen BK197.out 2; have hfz78_3 := blk_frozen BK197.out 3; have hfz78_4 := blk_frozen BK197.out 4; have hfz78_5 := blk_frozen BK197.out 5; have hfz78_6 := blk_frozen BK197.out 6; have hfz78_7 := blk_frozen BK197.out 7; have hfz78_8 := blk_frozen BK197.out 8) | ((with_reducible refine gate_callee (f := 22) rfl ?_); refine goesL_ (some 88) rfl rfl Try.func22 (by kernel_rfl) rfl #[] rfl (by (try simp only [List.map_toArray, List.map_cons, List.map_nil]); first | done | rfl | (simp only [List.length_drop, List.length_take]; rfl)) ?_; (with_reducible refine (crossbucklaw16_awake.calls  true _ A62.out).mono ?_); rintro e w79 ⟨rfl, hb⟩; refine ⟨_, rfl, ?_⟩; have n0_ := Aside0.mk (blk_below (g := gb170) (o := .cells #[.int .u32 a1_0, .int .i64 a1_1, .int .u32 a1_2, .int .i64 a1_3, .int .i64 a1_4, .int .u16 a1_5, .int .u16 a1_6, .int .u16 a1_7, .int .u16 a1_8] 49 (0, 0)) (by (with_reducible repeat (first | refine blk_drewN ?_ _ | refine blk_drew ?_ | refine blk_alloc ?_ _)); refine blk_far ?_ NB170_197.out _; (with_reducible repeat (first | refine blk_drewN ?_ _ | refine blk_drew ?_ | refine blk_alloc ?_ _)); refine blk_far ?_ NB170_197.out _; (with_reducible repeat (first | refine blk_drewN ?_ _ | refine blk_drew ?_ | refine blk_alloc ?_ _)); refine blk_far ?_ NB170_197.out _; (with_reducible repeat (first | refine blk_drewN ?_ _ | refine blk_drew ?_ | refine blk_alloc ?_ _)); refine blk_far ?_ NB170_197.out _; (with_reducible repeat (first | refine blk_drewN ?_ _ | refine blk_drew ?_ | refine blk_alloc ?_ _)); refine blk_far ?_ NB170_197.out _; (with_reducible repeat (first | refine blk_drewN ?_ _ | refine blk_drew ?_ | refine blk_alloc ?_ _)); refine blk_far ?_ NB170_197.out _; (with_reducible repeat (first | refine blk_drewN ?_ _ | refine blk_drew ?_ | refine blk_alloc ?_ _)); refine blk_far ?_ NB170_197.out _; (with_reducible repeat (first | refine blk_drewN ?_ _ | refine blk_drew ?_ | refine blk_alloc ?_ _)); refine blk_far ?_ NB170_197.out _; (with_reducible repeat (first | refine blk_drewN ?_ _ | refine blk_drew ?_ | refine blk_alloc ?_ _)); refine blk_far ?_ NB170_197.out _; (with_reducible repeat (first | refine blk_drewN ?_ _ | refine blk_drew ?_ | refine blk_alloc ?_ _)); exact BK170.out) hb); have n1_ := Aside0.mk (blk_below (g := gb171) (o := .cells #[.int .u32 a2_0, .int .u32 a2_1, .int .u8 a2_2, .int .u16 a2_3, .int .u16 a2_4] 51 (0, 0)) (by (with_reducible repeat (first | refine blk_drewN ?_ _ | refine blk_drew ?_ | refine blk_alloc ?_ _)); refine blk_far ?_ NB171_197.out _; (with_reducible repeat (first | refine blk_drewN ?_ _ | refine blk_drew ?_ | refine blk_alloc ?_ _)); refine blk_far ?_ NB171_197.out _; (with_reducible repeat (first | refine blk_drewN ?_ _ | refine blk_drew ?_ | refine blk_alloc ?_ _)); refine blk_far ?_ NB171_197.out _; (with_reducible repeat (first | refine blk_drewN ?_ _ | refine blk_drew ?_ | refine blk_alloc ?_ _)); refine blk_far ?_ NB171_197.out _; (with_reducible repeat (first | refine blk_drewN ?_ _ | refine blk_drew ?_ | refine blk_alloc ?_ _)); refine blk_far ?_ NB171_197.out _; (with_reducible repeat (first | refine blk_drewN ?_ _ | refine blk_drew ?_ | refine blk_alloc ?_ _)); refine blk_far ?_ NB171_197.out _; (with_reducible repeat (first | refine blk_drewN ?_ _ | refine blk_drew ?_ | refine blk_alloc ?_ _)); refine blk_far ?_ NB171_197.out _; (with_reducible repeat (first | refine blk_drewN ?_ _ | refine blk_drew ?_ | refine blk_alloc ?_ _)); refine blk_far ?_ NB171_197.out _; (with_reducible repeat (first | refine blk_drewN ?_ _ | refine blk_drew ?_ | refine blk_alloc ?_ _)); refine blk_far ?_ NB171_197.out _; (with_reducible repeat (first | refine blk_drewN ?_ _ | refine blk_drew ?_ | refine blk_alloc ?_ _)); exact BK171.out) hb); have n2_ := Aside0.mk (blk_below (g := gb186) (o := .cells #[.int .u32 t176, .int .i64 t177, .int .u32 t178, .int .i64 t179, .int .i64 t180, .int .u16 t181, .int .u16 t182, .int .u16 t183, .int .u16 t184] 49 (0, 0)) (by (with_reducible repeat (first | refine blk_drewN ?_ _ | refine blk_drew ?_ | refine blk_alloc ?_ _)); refine blk_far ?_ NB186_197.out _; (with_reducible repeat (first | refine blk_drewN ?_ _ | refine blk_drew ?_ | refine blk_alloc ?_ _)); refine blk_far ?_ NB186_197.out _; (with_reducible repeat (first | refine blk_drewN ?_ _ | refine blk_drew ?_ | refine blk_alloc ?_ _)); refine blk_far ?_ NB186_197.out _; (with_reducible repeat (first | refine blk_drewN ?_ _ | refine blk_drew ?_ | refine blk_alloc ?_ _)); refine blk_far ?_ NB186_197.out _; (with_reducible repeat (first | refine blk_drewN ?_ _ | refine blk_drew ?_ | refine blk_alloc ?_ _)); refine blk_far ?_ NB186_197.out _; (with_reducible repeat (first | refine blk_drewN ?_ _ | refine blk_drew ?_ | refine blk_alloc ?_ _)); refine blk_far ?_ NB186_197.out _; (with_reducible repeat (first | refine blk_drewN ?_ _ | refine blk_drew ?_ | refine blk_alloc ?_ _)); refine blk_far ?_ NB186_197.out _; (with_reducible repeat (first | refine blk_drewN ?_ _ | refine blk_drew ?_ | refine blk_alloc ?_ _)); refine blk_far ?_ NB186_197.out _; (with_reducible repeat (first | refine blk_drewN ?_ _ | refine blk_drew ?_ | refine blk_alloc ?_ _)); refine blk_far ?_ NB186_197.out _; (with_reducible repeat (first | refine blk_drewN ?_ _ | refine blk_drew ?_ | refine blk_alloc ?_ _)); exact BK186.out) hb); have n3_ := Aside0.mk (blk_below (g := gb197) (o := .cells #[.int .u32 t187, .int .i64 t188, .int .u32 t189, .int .i64 t190, .int .i64 t191, .int .u16 t192, .int .u16 t193, .int .u16 t194, .int .u16 t195] 49 (0, 0)) (by (with_reducible repeat (first | refine blk_drewN ?_ _ | refine blk_drew ?_ | refine blk_alloc ?_ _)); refine blk_put (cs := #[.int .u32 t187, .int .i64 t188, .int .u32 t189, .int .i64 t190, .int .i64 t191, .int .u16 t192, .int .u16 t193, .int .u16 t194, .int .u16 0]) ?_ 8 _ rfl; (with_reducible repeat (first | refine blk_drewN ?_ _ | refine blk_drew ?_ | refine blk_alloc ?_ _)); refine blk_put (cs := #[.int .u32 t187, .int .i64 t188, .int .u32 t189, .int .i64 t190, .int .i64 t191, .int .u16 t192, .int .u16 t193, .int .u16 0, .int .u16 0]) ?_ 7 _ rfl; (with_reducible repeat (first | refine blk_drewN ?_ _ | refine blk_drew ?_ | refine blk_alloc ?_ _)); refine blk_put (cs := #[.int .u32 t187, .int .i64 t188, .int .u32 t189, .int .i64 t190, .int .i64 t191, .int .u16 t192, .int .u16 0, .int .u16 0, .int .u16 0]) ?_ 6 _ rfl; (with_reducible repeat (first | refine blk_drewN ?_ _ | refine blk_drew ?_ | refine blk_alloc ?_ _)); refine blk_put (cs := #[.int .u32 t187, .int .i64 t188, .int .u32 t189, .int .i64 t190, .int .i64 t191, .int .u16 0, .int .u16 0, .int .u16 0, .int .u16 0]) ?_ 5 _ rfl; (with_reducible repeat (first | refine blk_drewN ?_ _ | refine blk_drew ?_ | refine blk_alloc ?_ _)); refine blk_put (cs := #[.int .u32 t187, .int .i64 t188, .int .u32 t189, .int .i64 t190, .int .i64 0, .int .u16 0, .int .u16 0, .int .u16 0, .int .u16 0]) ?_ 4 _ rfl; (with_reducible repeat (first | refine blk_drewN ?_ _ | refine blk_drew ?_ | refine blk_alloc ?_ _)); refine blk_put (cs := #[.int .u32 t187, .int .i64 t188, .int .u32 t189, .int .i64 0, .int .i64 0, .int .u16 0, .int .u16 0, .int .u16 0, .int .u16 0]) ?_ 3 _ rfl; (with_reducible repeat (first | refine blk_drewN ?_ _ | refine blk_drew ?_ | refine blk_alloc ?_ _)); refine blk_put (cs := #[.int .u32 t187, .int .i64 t188, .int .u32 0, .int .i64 0, .int .i64 0, .int .u16 0, .int .u16 0, .int .u16 0, .int .u16 0]) ?_ 2 _ rfl; (with_reducible repeat (first | refine blk_drewN ?_ _ | refine blk_drew ?_ | refine blk_alloc ?_ _)); refine blk_put (cs := #[.int .u32 t187, .int .i64 0, .int .u32 0, .int .i64 0, .int .i64 0, .int .u16 0, .int .u16 0, .int .u16 0, .int .u16 0]) ?_ 1 _ rfl; (with_reducible repeat (first | refine blk_drewN ?_ _ | refine blk_drew ?_ | refine blk_alloc ?_ _)); refine blk_put (cs := #[.int .u32 0, .int .i64 0, .int .u32 0, .int .i64 0, .int .i64 0, .int .u16 0, .int .u16 0, .int .u16 0, .int .u16 0]) ?_ 0 _ rfl; (with_reducible repeat (first | refine blk_drewN ?_ _ | refine blk_drew ?_ | refine blk_alloc ?_ _)); exact BK197.out) hb); have n4_ := Aside0.mk (below_step (by repeat (first | (with_reducible first | exact HB.out | apply below_alloc | apply pw_below_drewN | apply below_drew1 | refine below_set ?_ GE170.out | refine below_set ?_ GE171.out | refine below_set ?_ GE186.out | refine below_set ?_ GE197.out) | exact HB.out)) hb); clear BK170; clear BK171; clear BK186; clear BK197; clear HB; have BK170 := n0_; have BK171 := n1_; have BK186 := n2_; have BK197 := n3_; have HB := n4_; clear n0_ n1_ n2_ n3_ n4_; (try clear hb); (try clear hb2); (try clear hk); (try clear hi)))
                  go_ret
                  exact ⟨by first | rfl | (simp [errW_none, errW_some] <;> rfl) | (simp [*, errW_none, errW_some] <;> rfl), by repeat (first | (with_reducible first | exact HB.out | apply below_alloc | apply pw_below_drewN | apply below_drew1 | refine below_set ?_ GE170.out | refine below_set ?_ GE171.out | refine below_set ?_ GE186.out | refine below_set ?_ GE197.out) | exact HB.out)⟩
              · replace c63 := Bool.eq_false_iff.mpr c63
                subst c63
                have H1 : (some false) = some r := by rw [if_neg (show ¬ (false = true) by decide)] at H; exact H
                clear H
                have H := H1
                clear H1
                exact absurd ((Option.some.inj H).trans hT.out) (by decide)

end Go.Proofs.Ytbnjbjjbfbbdcaa.PAll
