-- Written by wip/myprint.py and wip/merge.py (this session's own programs); Lean checks it.
import Derived.Test.YtloclimoffhbhaaDoorPFqx0
import Derived.Test.YtloclimoffhbhaaDoorPFqx4
namespace Go.Proofs.YtloclimoffhbhaaDoor.PFq
open Go.RowKit Go.Proofs.YtloclimoffhbhaaDoorW.PrintWords Go.Proofs.YtloclimoffhbhaaDoorW.PrintLast Go.Proofs.YtloclimoffhbhaaDoorW.PrintMore
attribute [local go_sem] max2_int min2_int max_two min_two max_three min_three max_four min_four   -- for this text's walks alone
set_option linter.unusedVariables false
set_option linter.unusedSimpArgs false

/-! ### filter_Meet: function 48 -/
def filter_Meet.j0 : Nat → Bool → Int → Int → Int → Int → Int → Int → Int → Int → Int → Int → Int → Int → Int → Int → Int → Int → Int → Int → Option (Bool)
  | 0, _, _, _, _, _, _, _, _, _, _, _, _, _, _, _, _, _, _, _ => none
  | k + 1, x5, x198000, x198001, x198002, x198003, x198004, x198005, x198006, x198007, x198008, x199000, x199001, x199002, x199003, x199004, x199005, x199006, x199007, x199008 => if x5 = true then ((cidr_Meet.f x198000 x198001 x199000 x199001).bind fun t199 => (if t199 = true then ((cidr_Meet.f x198002 x198003 x199002 x199003).bind fun t200 => (if t200 = true then ((filter_touch.f x198005 x198006 x199005 x199006).bind fun t201 => (if t201 = true then ((filter_touch.f x198007 x198008 x199007 x199008).bind fun t202 => (some t202)) else (some false))) else (some false))) else (some false))) else (some false)
def filter_Meet.f (k : Nat) (a0_0 : Int) (a0_1 : Int) (a0_2 : Int) (a0_3 : Int) (a0_4 : Int) (a0_5 : Int) (a0_6 : Int) (a0_7 : Int) (a0_8 : Int) (a1_0 : Int) (a1_1 : Int) (a1_2 : Int) (a1_3 : Int) (a1_4 : Int) (a1_5 : Int) (a1_6 : Int) (a1_7 : Int) (a1_8 : Int) : Option (Bool) := if a0_4 = (-1) then (filter_Meet.j0 k true a0_0 a0_1 a0_2 a0_3 a0_4 a0_5 a0_6 a0_7 a0_8 a1_0 a1_1 a1_2 a1_3 a1_4 a1_5 a1_6 a1_7 a1_8) else (if a1_4 = (-1) then (filter_Meet.j0 k true a0_0 a0_1 a0_2 a0_3 a0_4 a0_5 a0_6 a0_7 a0_8 a1_0 a1_1 a1_2 a1_3 a1_4 a1_5 a1_6 a1_7 a1_8) else (filter_Meet.j0 k (a0_4 == a1_4) a0_0 a0_1 a0_2 a0_3 a0_4 a0_5 a0_6 a0_7 a0_8 a1_0 a1_1 a1_2 a1_3 a1_4 a1_5 a1_6 a1_7 a1_8))
theorem filter_Meet.mono_l : ∀ k, (∀ y0 y1 y2 y3 y4 y5 y6 y7 y8 y9 y10 y11 y12 y13 y14 y15 y16 y17 y18, LeO (filter_Meet.j0 k y0 y1 y2 y3 y4 y5 y6 y7 y8 y9 y10 y11 y12 y13 y14 y15 y16 y17 y18) (filter_Meet.j0 (k + 1) y0 y1 y2 y3 y4 y5 y6 y7 y8 y9 y10 y11 y12 y13 y14 y15 y16 y17 y18))
  | 0 => fun _ _ _ _ _ _ _ _ _ _ _ _ _ _ _ _ _ _ _ r h => by simp [filter_Meet.j0] at h
  | k + 1 => by
    have ih0 := filter_Meet.mono_l k
    · intro y0 y1 y2 y3 y4 y5 y6 y7 y8 y9 y10 y11 y12 y13 y14 y15 y16 y17 y18
      unfold filter_Meet.j0
      repeat' first
      | (with_reducible exact ih0 _ _ _ _ _ _ _ _ _ _ _ _ _ _ _ _ _ _ _)
      | (with_reducible exact LeO.refl _)
      | (with_reducible exact LeO.none _)
      | (with_reducible refine LeO.ite ?_ ?_)
      | (with_reducible refine LeO.bind ?_ (fun _ => ?_))
      | exact ih0 _ _ _ _ _ _ _ _ _ _ _ _ _ _ _ _ _ _ _
      | exact LeO.none _
      | refine LeO.ite ?_ ?_
      | refine LeO.bind ?_ (fun _ => ?_)
theorem filter_Meet.mono : ∀ a0 a1 a2 a3 a4 a5 a6 a7 a8 a9 a10 a11 a12 a13 a14 a15 a16 a17 k, LeO (filter_Meet.f k a0 a1 a2 a3 a4 a5 a6 a7 a8 a9 a10 a11 a12 a13 a14 a15 a16 a17) (filter_Meet.f (k + 1) a0 a1 a2 a3 a4 a5 a6 a7 a8 a9 a10 a11 a12 a13 a14 a15 a16 a17) := by
  intro a0 a1 a2 a3 a4 a5 a6 a7 a8 a9 a10 a11 a12 a13 a14 a15 a16 a17 k
  have ih0 := filter_Meet.mono_l k
  unfold filter_Meet.f
  repeat' first
      | (with_reducible exact ih0 _ _ _ _ _ _ _ _ _ _ _ _ _ _ _ _ _ _ _)
      | (with_reducible exact LeO.refl _)
      | (with_reducible exact LeO.none _)
      | (with_reducible refine LeO.ite ?_ ?_)
      | (with_reducible refine LeO.bind ?_ (fun _ => ?_))
      | exact ih0 _ _ _ _ _ _ _ _ _ _ _ _ _ _ _ _ _ _ _
      | exact LeO.none _
      | refine LeO.ite ?_ ?_
      | refine LeO.bind ?_ (fun _ => ?_)
set_option maxHeartbeats 8000000 in
set_option maxRecDepth 100000 in
theorem filter_Meet.calls (k : Nat) (a0_0 : Int) (a0_1 : Int) (a0_2 : Int) (a0_3 : Int) (a0_4 : Int) (a0_5 : Int) (a0_6 : Int) (a0_7 : Int) (a0_8 : Int) (a1_0 : Int) (a1_1 : Int) (a1_2 : Int) (a1_3 : Int) (a1_4 : Int) (a1_5 : Int) (a1_6 : Int) (a1_7 : Int) (a1_8 : Int) (r : Bool) (w : World) (h : filter_Meet.f k a0_0 a0_1 a0_2 a0_3 a0_4 a0_5 a0_6 a0_7 a0_8 a1_0 a1_1 a1_2 a1_3 a1_4 a1_5 a1_6 a1_7 a1_8 = some r) :
    Calls Tryd.prog 48 #[.agg #[.int .u32 a0_0, .int .i64 a0_1, .int .u32 a0_2, .int .i64 a0_3, .int .i64 a0_4, .int .u16 a0_5, .int .u16 a0_6, .int .u16 a0_7, .int .u16 a0_8], .agg #[.int .u32 a1_0, .int .i64 a1_1, .int .u32 a1_2, .int .i64 a1_3, .int .i64 a1_4, .int .u16 a1_5, .int .u16 a1_6, .int .u16 a1_7, .int .u16 a1_8]] w fun e w' => e = .returned (.bool r) ∧ Below w.heap.size w w' := by
  have hu77 := Tryd.underlying77
  have hu42 := Tryd.underlying42
  have hu61 := Tryd.underlying61
  have HB := Aside0.mk (Below.refl w.heap.size w)
  have H : (if a0_4 = (-1) then (filter_Meet.j0 k true a0_0 a0_1 a0_2 a0_3 a0_4 a0_5 a0_6 a0_7 a0_8 a1_0 a1_1 a1_2 a1_3 a1_4 a1_5 a1_6 a1_7 a1_8) else (if a1_4 = (-1) then (filter_Meet.j0 k true a0_0 a0_1 a0_2 a0_3 a0_4 a0_5 a0_6 a0_7 a0_8 a1_0 a1_1 a1_2 a1_3 a1_4 a1_5 a1_6 a1_7 a1_8) else (filter_Meet.j0 k (a0_4 == a1_4) a0_0 a0_1 a0_2 a0_3 a0_4 a0_5 a0_6 a0_7 a0_8 a1_0 a1_1 a1_2 a1_3 a1_4 a1_5 a1_6 a1_7 a1_8))) = some r := h
  clear h
  have HC3 := Aside0.mk H
  clear H
  go_enter Tryd.func48, Tryd.ntmps48
  go_upto_region 1 with (first | ((with_reducible refine gate_dst (N := 2) rfl ?_); refine box_event ?hg (N := 2) ?hd (cs := #[.int .u32 a0_0, .int .i64 a0_1, .int .u32 a0_2, .int .i64 a0_3, .int .i64 a0_4, .int .u16 a0_5, .int .u16 a0_6, .int .u16 a0_7, .int .u16 a0_8]) (t := 77) ?hr ?_; (case hd => rfl); (case hg => rfl); (case hr => first | (go_simp; done) | (go_simp; rfl)); intro gb197 hg w4 hbox hb; have n0_ := Aside0.mk (below_step (by repeat (first | (with_reducible first | exact HB.out | apply below_alloc | apply pw_below_drewN | apply below_drew1) | exact HB.out)) hb); have n1_ := Aside0.mk (hbox); have n2_ := Aside0.mk ((by rw [hg]; exact (below_size (by repeat (first | (with_reducible first | exact HB.out | apply below_alloc | apply pw_below_drewN | apply below_drew1) | exact HB.out))) : w.heap.size ≤ gb197)); have n3_ := Aside0.mk ((by rw [hg]; exact (below_size (by repeat (first | (with_reducible first | exact HB.out | apply below_alloc | apply pw_below_drewN | apply below_drew1) | exact HB.out))) : w.heap.size ≤ gb197)); clear HB; have HB := n0_; have BK197 := n1_; have GW197 := n2_; have GE197 := n3_; clear n0_ n1_ n2_ n3_; clear hb hbox hg) | ((with_reducible refine gate_dst (N := 3) rfl ?_); refine box_event ?hg (N := 3) ?hd (cs := #[.int .u32 a1_0, .int .i64 a1_1, .int .u32 a1_2, .int .i64 a1_3, .int .i64 a1_4, .int .u16 a1_5, .int .u16 a1_6, .int .u16 a1_7, .int .u16 a1_8]) (t := 77) ?hr ?_; (case hd => rfl); (case hg => rfl); (case hr => first | (go_simp; done) | (go_simp; rfl)); intro gb198 hg w5 hbox hb; have n0_ := Aside0.mk (blk_below (g := gb197) (o := .cells #[.int .u32 a0_0, .int .i64 a0_1, .int .u32 a0_2, .int .i64 a0_3, .int .i64 a0_4, .int .u16 a0_5, .int .u16 a0_6, .int .u16 a0_7, .int .u16 a0_8] 77 (0, 0)) (by (with_reducible repeat (first | refine blk_drewN ?_ _ | refine blk_drew ?_ | refine blk_alloc ?_ _)); exact BK197.out) hb); have n1_ := Aside0.mk (below_step (by repeat (first | (with_reducible first | exact HB.out | apply below_alloc | apply pw_below_drewN | apply below_drew1 | refine below_set ?_ GE197.out) | exact HB.out)) hb); have n2_ := Aside0.mk (hbox); have n3_ := Aside0.mk ((by rw [hg]; exact (below_size (by repeat (first | (with_reducible first | exact HB.out | apply below_alloc | apply pw_below_drewN | apply below_drew1 | refine below_set ?_ GE197.out) | exact HB.out))) : w.heap.size ≤ gb198)); have n4_ := Aside0.mk ((by rw [hg]; exact (below_size (by repeat (first | (with_reducible first | exact HB.out | apply below_alloc | apply pw_below_drewN | apply below_drew1 | refine below_set ?_ GE197.out) | exact HB.out))) : w.heap.size ≤ gb198)); have n5_ := Aside0.mk ((by rw [hg]; exact Nat.ne_of_lt (blk_lt (g := gb197) (o := .cells #[.int .u32 a0_0, .int .i64 a0_1, .int .u32 a0_2, .int .i64 a0_3, .int .i64 a0_4, .int .u16 a0_5, .int .u16 a0_6, .int .u16 a0_7, .int .u16 a0_8] 77 (0, 0)) (by (with_reducible repeat (first | refine blk_drewN ?_ _ | refine blk_drew ?_ | refine blk_alloc ?_ _)); exact BK197.out)) : gb197 ≠ gb198)); have n6_ := Aside0.mk ((by rw [hg]; exact Nat.ne_of_gt (blk_lt (g := gb197) (o := .cells #[.int .u32 a0_0, .int .i64 a0_1, .int .u32 a0_2, .int .i64 a0_3, .int .i64 a0_4, .int .u16 a0_5, .int .u16 a0_6, .int .u16 a0_7, .int .u16 a0_8] 77 (0, 0)) (by (with_reducible repeat (first | refine blk_drewN ?_ _ | refine blk_drew ?_ | refine blk_alloc ?_ _)); exact BK197.out)) : gb198 ≠ gb197)); clear BK197; clear HB; have BK197 := n0_; have HB := n1_; have BK198 := n2_; have GW198 := n3_; have GE198 := n4_; have NB197_198 := n5_; have NB198_197 := n6_; clear n0_ n1_ n2_ n3_ n4_ n5_ n6_; clear hb hbox hg))
  (try simp only [Act.put, List.setIfInBounds_toArray, List.set_cons_zero, List.set_cons_succ])
  go_cut [5] (fun v5 wc => ∃ (kq : Nat) (x5_2 : Bool), v5 = .bool x5_2 ∧ Aside0 (filter_Meet.j0 kq x5_2 a0_0 a0_1 a0_2 a0_3 a0_4 a0_5 a0_6 a0_7 a0_8 a1_0 a1_1 a1_2 a1_3 a1_4 a1_5 a1_6 a1_7 a1_8 = some r) ∧ Aside0 (kq ≤ k) ∧ Aside0 (wc.heap[gb197]? = some (.cells #[.int .u32 a0_0, .int .i64 a0_1, .int .u32 a0_2, .int .i64 a0_3, .int .i64 a0_4, .int .u16 a0_5, .int .u16 a0_6, .int .u16 a0_7, .int .u16 a0_8] 77 (0, 0))) ∧ Aside0 (wc.heap[gb198]? = some (.cells #[.int .u32 a1_0, .int .i64 a1_1, .int .u32 a1_2, .int .i64 a1_3, .int .i64 a1_4, .int .u16 a1_5, .int .u16 a1_6, .int .u16 a1_7, .int .u16 a1_8] 77 (0, 0))) ∧ Aside0 (Below w.heap.size w wc))
  case first =>
    have H := HC3.out
    clear HC3
    by_cases c6 : a0_4 = (-1)
    · rw [if_pos c6] at H
      have c6b0 : (a0_4 == (-1)) = true := beq_iff_eq.mpr c6
      have c6b1 : (a0_4 != (-1)) = false := bne_eq_false_iff_eq.mpr c6
      clear c6
      (first | rw [c6b0] | (simp only [i64_w, i32_w]; rw [c6b0]) | skip)
      have H' := Aside0.mk H
      clear H
      have hnb7 := NB197_198.out
      have hnc7 := NB198_197.out
      have hcz8_0 : w5.cell? ⟨gb197, 0, none⟩ = some (.int .u32 a0_0) := (blk_cell BK197.out 0).trans rfl
      have hcz8_1 : w5.cell? ⟨gb197, 1, none⟩ = some (.int .i64 a0_1) := (blk_cell BK197.out 1).trans rfl
      have hcz8_2 : w5.cell? ⟨gb197, 2, none⟩ = some (.int .u32 a0_2) := (blk_cell BK197.out 2).trans rfl
      have hcz8_3 : w5.cell? ⟨gb197, 3, none⟩ = some (.int .i64 a0_3) := (blk_cell BK197.out 3).trans rfl
      have hcz8_4 : w5.cell? ⟨gb197, 4, none⟩ = some (.int .i64 a0_4) := (blk_cell BK197.out 4).trans rfl
      have hcz8_5 : w5.cell? ⟨gb197, 5, none⟩ = some (.int .u16 a0_5) := (blk_cell BK197.out 5).trans rfl
      have hcz8_6 : w5.cell? ⟨gb197, 6, none⟩ = some (.int .u16 a0_6) := (blk_cell BK197.out 6).trans rfl
      have hcz8_7 : w5.cell? ⟨gb197, 7, none⟩ = some (.int .u16 a0_7) := (blk_cell BK197.out 7).trans rfl
      have hcz8_8 : w5.cell? ⟨gb197, 8, none⟩ = some (.int .u16 a0_8) := (blk_cell BK197.out 8).trans rfl
      have hfz8_0 := blk_frozen BK197.out 0
      have hfz8_1 := blk_frozen BK197.out 1
      have hfz8_2 := blk_frozen BK197.out 2
      have hfz8_3 := blk_frozen BK197.out 3
      have hfz8_4 := blk_frozen BK197.out 4
      have hfz8_5 := blk_frozen BK197.out 5
      have hfz8_6 := blk_frozen BK197.out 6
      have hfz8_7 := blk_frozen BK197.out 7
      have hfz8_8 := blk_frozen BK197.out 8
      go_wp2
      go_meet
      case rel => exact ⟨_, (true), (by first | rfl | (simp; done) | (simp [*]; done)), H', ⟨by first | omega | exact Nat.le_refl _⟩, ⟨by (with_reducible repeat (first | refine blk_drewN ?_ _ | refine blk_drew ?_ | refine blk_alloc ?_ _)); exact BK197.out⟩, ⟨by (with_reducible repeat (first | refine blk_drewN ?_ _ | refine blk_drew ?_ | refine blk_alloc ?_ _)); exact BK198.out⟩, ⟨by repeat (first | (with_reducible first | exact HB.out | apply below_alloc | apply pw_below_drewN | apply below_drew1 | refine below_set ?_ GE197.out | refine below_set ?_ GE198.out) | exact HB.out)⟩⟩
    · rw [if_neg c6] at H
      have c6b0 : (a0_4 == (-1)) = false := beq_eq_false_iff_ne.mpr c6
      have c6b1 : (a0_4 != (-1)) = true := bne_iff_ne.mpr c6
      (first | rw [c6b0] | (simp only [i64_w, i32_w]; rw [c6b0]) | skip)
      by_cases c9 : a1_4 = (-1)
      · rw [if_pos c9] at H
        have c9b0 : (a1_4 == (-1)) = true := beq_iff_eq.mpr c9
        have c9b1 : (a1_4 != (-1)) = false := bne_eq_false_iff_eq.mpr c9
        clear c9
        have H' := Aside0.mk H
        clear H
        have hnb10 := NB197_198.out
        have hnc10 := NB198_197.out
        have hcz11_0 : w5.cell? ⟨gb197, 0, none⟩ = some (.int .u32 a0_0) := (blk_cell BK197.out 0).trans rfl
        have hcz11_1 : w5.cell? ⟨gb197, 1, none⟩ = some (.int .i64 a0_1) := (blk_cell BK197.out 1).trans rfl
        have hcz11_2 : w5.cell? ⟨gb197, 2, none⟩ = some (.int .u32 a0_2) := (blk_cell BK197.out 2).trans rfl
        have hcz11_3 : w5.cell? ⟨gb197, 3, none⟩ = some (.int .i64 a0_3) := (blk_cell BK197.out 3).trans rfl
        have hcz11_4 : w5.cell? ⟨gb197, 4, none⟩ = some (.int .i64 a0_4) := (blk_cell BK197.out 4).trans rfl
        have hcz11_5 : w5.cell? ⟨gb197, 5, none⟩ = some (.int .u16 a0_5) := (blk_cell BK197.out 5).trans rfl
        have hcz11_6 : w5.cell? ⟨gb197, 6, none⟩ = some (.int .u16 a0_6) := (blk_cell BK197.out 6).trans rfl
        have hcz11_7 : w5.cell? ⟨gb197, 7, none⟩ = some (.int .u16 a0_7) := (blk_cell BK197.out 7).trans rfl
        have hcz11_8 : w5.cell? ⟨gb197, 8, none⟩ = some (.int .u16 a0_8) := (blk_cell BK197.out 8).trans rfl
        have hfz11_0 := blk_frozen BK197.out 0
        have hfz11_1 := blk_frozen BK197.out 1
        have hfz11_2 := blk_frozen BK197.out 2
        have hfz11_3 := blk_frozen BK197.out 3
        have hfz11_4 := blk_frozen BK197.out 4
        have hfz11_5 := blk_frozen BK197.out 5
        have hfz11_6 := blk_frozen BK197.out 6
        have hfz11_7 := blk_frozen BK197.out 7
        have hfz11_8 := blk_frozen BK197.out 8
        have hcz12_0 : w5.cell? ⟨gb198, 0, none⟩ = some (.int .u32 a1_0) := (blk_cell BK198.out 0).trans rfl
        have hcz12_1 : w5.cell? ⟨gb198, 1, none⟩ = some (.int .i64 a1_1) := (blk_cell BK198.out 1).trans rfl
        have hcz12_2 : w5.cell? ⟨gb198, 2, none⟩ = some (.int .u32 a1_2) := (blk_cell BK198.out 2).trans rfl
        have hcz12_3 : w5.cell? ⟨gb198, 3, none⟩ = some (.int .i64 a1_3) := (blk_cell BK198.out 3).trans rfl
        have hcz12_4 : w5.cell? ⟨gb198, 4, none⟩ = some (.int .i64 a1_4) := (blk_cell BK198.out 4).trans rfl
        have hcz12_5 : w5.cell? ⟨gb198, 5, none⟩ = some (.int .u16 a1_5) := (blk_cell BK198.out 5).trans rfl
        have hcz12_6 : w5.cell? ⟨gb198, 6, none⟩ = some (.int .u16 a1_6) := (blk_cell BK198.out 6).trans rfl
        have hcz12_7 : w5.cell? ⟨gb198, 7, none⟩ = some (.int .u16 a1_7) := (blk_cell BK198.out 7).trans rfl
        have hcz12_8 : w5.cell? ⟨gb198, 8, none⟩ = some (.int .u16 a1_8) := (blk_cell BK198.out 8).trans rfl
        have hfz12_0 := blk_frozen BK198.out 0
        have hfz12_1 := blk_frozen BK198.out 1
        have hfz12_2 := blk_frozen BK198.out 2
        have hfz12_3 := blk_frozen BK198.out 3
        have hfz12_4 := blk_frozen BK198.out 4
        have hfz12_5 := blk_frozen BK198.out 5
        have hfz12_6 := blk_frozen BK198.out 6
        have hfz12_7 := blk_frozen BK198.out 7
        have hfz12_8 := blk_frozen BK198.out 8
        go_wp2
        go_meet
        case rel => exact ⟨_, (true), (by first | rfl | (simp; done) | (simp [*]; done)), H', ⟨by first | omega | exact Nat.le_refl _⟩, ⟨by (with_reducible repeat (first | refine blk_drewN ?_ _ | refine blk_drew ?_ | refine blk_alloc ?_ _)); exact BK197.out⟩, ⟨by (with_reducible repeat (first | refine blk_drewN ?_ _ | refine blk_drew ?_ | refine blk_alloc ?_ _)); exact BK198.out⟩, ⟨by repeat (first | (with_reducible first | exact HB.out | apply below_alloc | apply pw_below_drewN | apply below_drew1 | refine below_set ?_ GE197.out | refine below_set ?_ GE198.out) | exact HB.out)⟩⟩
      · rw [if_neg c9] at H
        have c9b0 : (a1_4 == (-1)) = false := beq_eq_false_iff_ne.mpr c9
        have c9b1 : (a1_4 != (-1)) = true := bne_iff_ne.mpr c9
        have H' := Aside0.mk H
        clear H
        have hnb13 := NB197_198.out
        have hnc13 := NB198_197.out
        have hcz14_0 : w5.cell? ⟨gb197, 0, none⟩ = some (.int .u32 a0_0) := (blk_cell BK197.out 0).trans rfl
        have hcz14_1 : w5.cell? ⟨gb197, 1, none⟩ = some (.int .i64 a0_1) := (blk_cell BK197.out 1).trans rfl
        have hcz14_2 : w5.cell? ⟨gb197, 2, none⟩ = some (.int .u32 a0_2) := (blk_cell BK197.out 2).trans rfl
        have hcz14_3 : w5.cell? ⟨gb197, 3, none⟩ = some (.int .i64 a0_3) := (blk_cell BK197.out 3).trans rfl
        have hcz14_4 : w5.cell? ⟨gb197, 4, none⟩ = some (.int .i64 a0_4) := (blk_cell BK197.out 4).trans rfl
        have hcz14_5 : w5.cell? ⟨gb197, 5, none⟩ = some (.int .u16 a0_5) := (blk_cell BK197.out 5).trans rfl
        have hcz14_6 : w5.cell? ⟨gb197, 6, none⟩ = some (.int .u16 a0_6) := (blk_cell BK197.out 6).trans rfl
        have hcz14_7 : w5.cell? ⟨gb197, 7, none⟩ = some (.int .u16 a0_7) := (blk_cell BK197.out 7).trans rfl
        have hcz14_8 : w5.cell? ⟨gb197, 8, none⟩ = some (.int .u16 a0_8) := (blk_cell BK197.out 8).trans rfl
        have hfz14_0 := blk_frozen BK197.out 0
        have hfz14_1 := blk_frozen BK197.out 1
        have hfz14_2 := blk_frozen BK197.out 2
        have hfz14_3 := blk_frozen BK197.out 3
        have hfz14_4 := blk_frozen BK197.out 4
        have hfz14_5 := blk_frozen BK197.out 5
        have hfz14_6 := blk_frozen BK197.out 6
        have hfz14_7 := blk_frozen BK197.out 7
        have hfz14_8 := blk_frozen BK197.out 8
        have hcz15_0 : w5.cell? ⟨gb198, 0, none⟩ = some (.int .u32 a1_0) := (blk_cell BK198.out 0).trans rfl
        have hcz15_1 : w5.cell? ⟨gb198, 1, none⟩ = some (.int .i64 a1_1) := (blk_cell BK198.out 1).trans rfl
        have hcz15_2 : w5.cell? ⟨gb198, 2, none⟩ = some (.int .u32 a1_2) := (blk_cell BK198.out 2).trans rfl
        have hcz15_3 : w5.cell? ⟨gb198, 3, none⟩ = some (.int .i64 a1_3) := (blk_cell BK198.out 3).trans rfl
        have hcz15_4 : w5.cell? ⟨gb198, 4, none⟩ = some (.int .i64 a1_4) := (blk_cell BK198.out 4).trans rfl
        have hcz15_5 : w5.cell? ⟨gb198, 5, none⟩ = some (.int .u16 a1_5) := (blk_cell BK198.out 5).trans rfl
        have hcz15_6 : w5.cell? ⟨gb198, 6, none⟩ = some (.int .u16 a1_6) := (blk_cell BK198.out 6).trans rfl
        have hcz15_7 : w5.cell? ⟨gb198, 7, none⟩ = some (.int .u16 a1_7) := (blk_cell BK198.out 7).trans rfl
        have hcz15_8 : w5.cell? ⟨gb198, 8, none⟩ = some (.int .u16 a1_8) := (blk_cell BK198.out 8).trans rfl
        have hfz15_0 := blk_frozen BK198.out 0
        have hfz15_1 := blk_frozen BK198.out 1
        have hfz15_2 := blk_frozen BK198.out 2
        have hfz15_3 := blk_frozen BK198.out 3
        have hfz15_4 := blk_frozen BK198.out 4
        have hfz15_5 := blk_frozen BK198.out 5
        have hfz15_6 := blk_frozen BK198.out 6
        have hfz15_7 := blk_frozen BK198.out 7
        have hfz15_8 := blk_frozen BK198.out 8
        go_wp2
        go_meet
        case rel => exact ⟨_, ((a0_4 == a1_4)), (by first | rfl | (simp; done) | (simp [*]; done)), H', ⟨by first | omega | exact Nat.le_refl _⟩, ⟨by (with_reducible repeat (first | refine blk_drewN ?_ _ | refine blk_drew ?_ | refine blk_alloc ?_ _)); exact BK197.out⟩, ⟨by (with_reducible repeat (first | refine blk_drewN ?_ _ | refine blk_drew ?_ | refine blk_alloc ?_ _)); exact BK198.out⟩, ⟨by repeat (first | (with_reducible first | exact HB.out | apply below_alloc | apply pw_below_drewN | apply below_drew1 | refine below_set ?_ GE197.out | refine below_set ?_ GE198.out) | exact HB.out)⟩⟩
  case rest =>
    clear HC3
    try clear c1
    try clear p2
    try clear c4
    try clear c6
    try clear c6b0
    try clear c6b1
    try clear c7
    try clear c9
    try clear c9b0
    try clear c9b1
    try clear c10
    try clear c13
    try clear hcz11_0
    try clear hcz11_1
    try clear hcz11_2
    try clear hcz11_3
    try clear hcz11_4
    try clear hcz11_5
    try clear hcz11_6
    try clear hcz11_7
    try clear hcz11_8
    try clear hcz12_0
    try clear hcz12_1
    try clear hcz12_2
    try clear hcz12_3
    try clear hcz12_4
    try clear hcz12_5
    try clear hcz12_6
    try clear hcz12_7
    try clear hcz12_8
    try clear hcz14_0
    try clear hcz14_1
    try clear hcz14_2
    try clear hcz14_3
    try clear hcz14_4
    try clear hcz14_5
    try clear hcz14_6
    try clear hcz14_7
    try clear hcz14_8
    try clear hcz15_0
    try clear hcz15_1
    try clear hcz15_2
    try clear hcz15_3
    try clear hcz15_4
    try clear hcz15_5
    try clear hcz15_6
    try clear hcz15_7
    try clear hcz15_8
    try clear hcz8_0
    try clear hcz8_1
    try clear hcz8_2
    try clear hcz8_3
    try clear hcz8_4
    try clear hcz8_5
    try clear hcz8_6
    try clear hcz8_7
    try clear hcz8_8
    try clear hfz11_0
    try clear hfz11_1
    try clear hfz11_2
    try clear hfz11_3
    try clear hfz11_4
    try clear hfz11_5
    try clear hfz11_6
    try clear hfz11_7
    try clear hfz11_8
    try clear hfz12_0
    try clear hfz12_1
    try clear hfz12_2
    try clear hfz12_3
    try clear hfz12_4
    try clear hfz12_5
    try clear hfz12_6
    try clear hfz12_7
    try clear hfz12_8
    try clear hfz14_0
    try clear hfz14_1
    try clear hfz14_2
    try clear hfz14_3
    try clear hfz14_4
    try clear hfz14_5
    try clear hfz14_6
    try clear hfz14_7
    try clear hfz14_8
    try clear hfz15_0
    try clear hfz15_1
    try clear hfz15_2
    try clear hfz15_3
    try clear hfz15_4
    try clear hfz15_5
    try clear hfz15_6
    try clear hfz15_7
    try clear hfz15_8
    try clear hfz8_0
    try clear hfz8_1
    try clear hfz8_2
    try clear hfz8_3
    try clear hfz8_4
    try clear hfz8_5
    try clear hfz8_6
    try clear hfz8_7
    try clear hfz8_8
    obtain ⟨kq, x5_2, rfl, HA, HJ2, BK197, BK198, HB⟩ := hcut
    cases kq with
    | zero => exact absurd HA.out (by simp [filter_Meet.j0])
    | succ kj2 =>
      have H := HA.out
      clear HA
      simp only [filter_Meet.j0] at H
      by_cases c16 : x5_2 = true
      · subst c16
        have H1 : ((cidr_Meet.f a0_0 a0_1 a1_0 a1_1).bind fun t199 => (if t199 = true then ((cidr_Meet.f a0_2 a0_3 a1_2 a1_3).bind fun t200 => (if t200 = true then ((filter_touch.f a0_5 a0_6 a1_5 a1_6).bind fun t201 => (if t201 = true then ((filter_touch.f a0_7 a0_8 a1_7 a1_8).bind fun t202 => (some t202)) else (some false))) else (some false))) else (some false))) = some r := by rw [if_pos rfl] at H; exact H
        clear H
        have H := H1
        clear H1
        replace H := Option.bind_eq_some_iff.mp H
        obtain ⟨t199, A170, H⟩ := H
        replace H : (if t199 = true then ((cidr_Meet.f a0_2 a0_3 a1_2 a1_3).bind fun t200 => (if t200 = true then ((filter_touch.f a0_5 a0_6 a1_5 a1_6).bind fun t201 => (if t201 = true then ((filter_touch.f a0_7 a0_8 a1_7 a1_8).bind fun t202 => (some t202)) else (some false))) else (some false))) else (some false)) = some r := H
        have A17 := Aside0.mk A170
        clear A170
        by_cases c18 : t199 = true
        · subst c18
          have H1 : ((cidr_Meet.f a0_2 a0_3 a1_2 a1_3).bind fun t200 => (if t200 = true then ((filter_touch.f a0_5 a0_6 a1_5 a1_6).bind fun t201 => (if t201 = true then ((filter_touch.f a0_7 a0_8 a1_7 a1_8).bind fun t202 => (some t202)) else (some false))) else (some false))) = some r := by rw [if_pos rfl] at H; exact H
          clear H
          have H := H1
          clear H1
          replace H := Option.bind_eq_some_iff.mp H
          obtain ⟨t200, A190, H⟩ := H
          replace H : (if t200 = true then ((filter_touch.f a0_5 a0_6 a1_5 a1_6).bind fun t201 => (if t201 = true then ((filter_touch.f a0_7 a0_8 a1_7 a1_8).bind fun t202 => (some t202)) else (some false))) else (some false)) = some r := H
          have A19 := Aside0.mk A190
          clear A190
          by_cases c20 : t200 = true
          · subst c20
            have H1 : ((filter_touch.f a0_5 a0_6 a1_5 a1_6).bind fun t201 => (if t201 = true then ((filter_touch.f a0_7 a0_8 a1_7 a1_8).bind fun t202 => (some t202)) else (some false))) = some r := by rw [if_pos rfl] at H; exact H
            clear H
            have H := H1
            clear H1
            replace H := Option.bind_eq_some_iff.mp H
            obtain ⟨t201, A210, H⟩ := H
            replace H : (if t201 = true then ((filter_touch.f a0_7 a0_8 a1_7 a1_8).bind fun t202 => (some t202)) else (some false)) = some r := H
            have A21 := Aside0.mk A210
            clear A210
            by_cases c22 : t201 = true
            · subst c22
              have H1 : ((filter_touch.f a0_7 a0_8 a1_7 a1_8).bind fun t202 => (some t202)) = some r := by rw [if_pos rfl] at H; exact H
              clear H
              have H := H1
              clear H1
              replace H := Option.bind_eq_some_iff.mp H
              obtain ⟨t202, A230, H⟩ := H
              replace H : (some t202) = some r := H
              have A23 := Aside0.mk A230
              clear A230
              obtain rfl := Option.some.inj H
              have hnb24 := NB197_198.out
              have hnc24 := NB198_197.out
              have hcz25_0 : wc.cell? ⟨gb197, 0, none⟩ = some (.int .u32 a0_0) := (blk_cell BK197.out 0).trans rfl
              have hcz25_1 : wc.cell? ⟨gb197, 1, none⟩ = some (.int .i64 a0_1) := (blk_cell BK197.out 1).trans rfl
              have hcz25_2 : wc.cell? ⟨gb197, 2, none⟩ = some (.int .u32 a0_2) := (blk_cell BK197.out 2).trans rfl
              have hcz25_3 : wc.cell? ⟨gb197, 3, none⟩ = some (.int .i64 a0_3) := (blk_cell BK197.out 3).trans rfl
              have hcz25_4 : wc.cell? ⟨gb197, 4, none⟩ = some (.int .i64 a0_4) := (blk_cell BK197.out 4).trans rfl
              have hcz25_5 : wc.cell? ⟨gb197, 5, none⟩ = some (.int .u16 a0_5) := (blk_cell BK197.out 5).trans rfl
              have hcz25_6 : wc.cell? ⟨gb197, 6, none⟩ = some (.int .u16 a0_6) := (blk_cell BK197.out 6).trans rfl
              have hcz25_7 : wc.cell? ⟨gb197, 7, none⟩ = some (.int .u16 a0_7) := (blk_cell BK197.out 7).trans rfl
              have hcz25_8 : wc.cell? ⟨gb197, 8, none⟩ = some (.int .u16 a0_8) := (blk_cell BK197.out 8).trans rfl
              have hfz25_0 := blk_frozen BK197.out 0
              have hfz25_1 := blk_frozen BK197.out 1
              have hfz25_2 := blk_frozen BK197.out 2
              have hfz25_3 := blk_frozen BK197.out 3
              have hfz25_4 := blk_frozen BK197.out 4
              have hfz25_5 := blk_frozen BK197.out 5
              have hfz25_6 := blk_frozen BK197.out 6
              have hfz25_7 := blk_frozen BK197.out 7
              have hfz25_8 := blk_frozen BK197.out 8
              have hcz26_0 : wc.cell? ⟨gb198, 0, none⟩ = some (.int .u32 a1_0) := (blk_cell BK198.out 0).trans rfl
              have hcz26_1 : wc.cell? ⟨gb198, 1, none⟩ = some (.int .i64 a1_1) := (blk_cell BK198.out 1).trans rfl
              have hcz26_2 : wc.cell? ⟨gb198, 2, none⟩ = some (.int .u32 a1_2) := (blk_cell BK198.out 2).trans rfl
              have hcz26_3 : wc.cell? ⟨gb198, 3, none⟩ = some (.int .i64 a1_3) := (blk_cell BK198.out 3).trans rfl
              have hcz26_4 : wc.cell? ⟨gb198, 4, none⟩ = some (.int .i64 a1_4) := (blk_cell BK198.out 4).trans rfl
              have hcz26_5 : wc.cell? ⟨gb198, 5, none⟩ = some (.int .u16 a1_5) := (blk_cell BK198.out 5).trans rfl
              have hcz26_6 : wc.cell? ⟨gb198, 6, none⟩ = some (.int .u16 a1_6) := (blk_cell BK198.out 6).trans rfl
              have hcz26_7 : wc.cell? ⟨gb198, 7, none⟩ = some (.int .u16 a1_7) := (blk_cell BK198.out 7).trans rfl
              have hcz26_8 : wc.cell? ⟨gb198, 8, none⟩ = some (.int .u16 a1_8) := (blk_cell BK198.out 8).trans rfl
              have hfz26_0 := blk_frozen BK198.out 0
              have hfz26_1 := blk_frozen BK198.out 1
              have hfz26_2 := blk_frozen BK198.out 2
              have hfz26_3 := blk_frozen BK198.out 3
              have hfz26_4 := blk_frozen BK198.out 4
              have hfz26_5 := blk_frozen BK198.out 5
              have hfz26_6 := blk_frozen BK198.out 6
              have hfz26_7 := blk_frozen BK198.out 7
              have hfz26_8 := blk_frozen BK198.out 8
              go_wp2_with (first | (go_at_call 97; (with_reducible refine (cidr_Meet.calls a0_0 a0_1 a1_0 a1_1 true _ A17.out).mono ?_); rintro e w27 ⟨rfl, hb⟩; have n0_ := Aside0.mk (blk_below (g := gb197) (o := .cells #[.int .u32 a0_0, .int .i64 a0_1, .int .u32 a0_2, .int .i64 a0_3, .int .i64 a0_4, .int .u16 a0_5, .int .u16 a0_6, .int .u16 a0_7, .int .u16 a0_8] 77 (0, 0)) (by (with_reducible repeat (first | refine blk_drewN ?_ _ | refine blk_drew ?_ | refine blk_alloc ?_ _)); exact BK197.out) hb); have n1_ := Aside0.mk (blk_below (g := gb198) (o := .cells #[.int .u32 a1_0, .int .i64 a1_1, .int .u32 a1_2, .int .i64 a1_3, .int .i64 a1_4, .int .u16 a1_5, .int .u16 a1_6, .int .u16 a1_7, .int .u16 a1_8] 77 (0, 0)) (by (with_reducible repeat (first | refine blk_drewN ?_ _ | refine blk_drew ?_ | refine blk_alloc ?_ _)); exact BK198.out) hb); have n2_ := Aside0.mk (below_step (by repeat (first | (with_reducible first | exact HB.out | apply below_alloc | apply pw_below_drewN | apply below_drew1 | refine below_set ?_ GE197.out | refine below_set ?_ GE198.out) | exact HB.out)) hb); clear BK197; clear BK198; clear HB; have BK197 := n0_; have BK198 := n1_; have HB := n2_; clear n0_ n1_ n2_; (try clear hb); (try clear hb2); (try clear hk); (try clear hi); have hcz28_0 : w27.cell? ⟨gb197, 0, none⟩ = some (.int .u32 a0_0) := (blk_cell BK197.out 0).trans rfl; have hcz28_1 : w27.cell? ⟨gb197, 1, none⟩ = some (.int .i64 a0_1) := (blk_cell BK197.out 1).trans rfl; have hcz28_2 : w27.cell? ⟨gb197, 2, none⟩ = some (.int .u32 a0_2) := (blk_cell BK197.out 2).trans rfl; have hcz28_3 : w27.cell? ⟨gb197, 3, none⟩ = some (.int .i64 a0_3) := (blk_cell BK197.out 3).trans rfl; have hcz28_4 : w27.cell? ⟨gb197, 4, none⟩ = some (.int .i64 a0_4) := (blk_cell BK197.out 4).trans rfl; have hcz28_5 : w27.cell? ⟨gb197, 5, none⟩ = some (.int .u16 a0_5) := (blk_cell BK197.out 5).trans rfl; have hcz28_6 : w27.cell? ⟨gb197, 6, none⟩ = some (.int .u16 a0_6) := (blk_cell BK197.out 6).trans rfl; have hcz28_7 : w27.cell? ⟨gb197, 7, none⟩ = some (.int .u16 a0_7) := (blk_cell BK197.out 7).trans rfl; have hcz28_8 : w27.cell? ⟨gb197, 8, none⟩ = some (.int .u16 a0_8) := (blk_cell BK197.out 8).trans rfl; have hfz28_0 := blk_frozen BK197.out 0; have hfz28_1 := blk_frozen BK197.out 1; have hfz28_2 := blk_frozen BK197.out 2; have hfz28_3 := blk_frozen BK197.out 3; have hfz28_4 := blk_frozen BK197.out 4; have hfz28_5 := blk_frozen BK197.out 5; have hfz28_6 := blk_frozen BK197.out 6; have hfz28_7 := blk_frozen BK197.out 7; have hfz28_8 := blk_frozen BK197.out 8; have hcz29_0 : w27.cell? ⟨gb198, 0, none⟩ = some (.int .u32 a1_0) := (blk_cell BK198.out 0).trans rfl; have hcz29_1 : w27.cell? ⟨gb198, 1, none⟩ = some (.int .i64 a1_1) := (blk_cell BK198.out 1).trans rfl; have hcz29_2 : w27.cell? ⟨gb198, 2, none⟩ = some (.int .u32 a1_2) := (blk_cell BK198.out 2).trans rfl; have hcz29_3 : w27.cell? ⟨gb198, 3, none⟩ = some (.int .i64 a1_3) := (blk_cell BK198.out 3).trans rfl; have hcz29_4 : w27.cell? ⟨gb198, 4, none⟩ = some (.int .i64 a1_4) := (blk_cell BK198.out 4).trans rfl; have hcz29_5 : w27.cell? ⟨gb198, 5, none⟩ = some (.int .u16 a1_5) := (blk_cell BK198.out 5).trans rfl; have hcz29_6 : w27.cell? ⟨gb198, 6, none⟩ = some (.int .u16 a1_6) := (blk_cell BK198.out 6).trans rfl; have hcz29_7 : w27.cell? ⟨gb198, 7, none⟩ = some (.int .u16 a1_7) := (blk_cell BK198.out 7).trans rfl; have hcz29_8 : w27.cell? ⟨gb198, 8, none⟩ = some (.int .u16 a1_8) := (blk_cell BK198.out 8).trans rfl; have hfz29_0 := blk_frozen BK198.out 0; have hfz29_1 := blk_frozen BK198.out 1; have hfz29_2 := blk_frozen BK198.out 2; have hfz29_3 := blk_frozen BK198.out 3; have hfz29_4 := blk_frozen BK198.out 4; have hfz29_5 := blk_frozen BK198.out 5; have hfz29_6 := blk_frozen BK198.out 6; have hfz29_7 := blk_frozen BK198.out 7; have hfz29_8 := blk_frozen BK198.out 8) | (go_at_call 97; (with_reducible refine (cidr_Meet.calls a0_2 a0_3 a1_2 a1_3 true _ A19.out).mono ?_); rintro e w30 ⟨rfl, hb⟩; have n0_ := Aside0.mk (blk_below (g := gb197) (o := .cells #[.int .u32 a0_0, .int .i64 a0_1, .int .u32 a0_2, .int .i64 a0_3, .int .i64 a0_4, .int .u16 a0_5, .int .u16 a0_6, .int .u16 a0_7, .int .u16 a0_8] 77 (0, 0)) (by (with_reducible repeat (first | refine blk_drewN ?_ _ | refine blk_drew ?_ | refine blk_alloc ?_ _)); exact BK197.out) hb); have n1_ := Aside0.mk (blk_below (g := gb198) (o := .cells #[.int .u32 a1_0, .int .i64 a1_1, .int .u32 a1_2, .int .i64 a1_3, .int .i64 a1_4, .int .u16 a1_5, .int .u16 a1_6, .int .u16 a1_7, .int .u16 a1_8] 77 (0, 0)) (by (with_reducible repeat (first | refine blk_drewN ?_ _ | refine blk_drew ?_ | refine blk_alloc ?_ _)); exact BK198.out) hb); have n2_ := Aside0.mk (below_step (by repeat (first | (with_reducible first | exact HB.out | apply below_alloc | apply pw_below_drewN | apply below_drew1 | refine below_set ?_ GE197.out | refine below_set ?_ GE198.out) | exact HB.out)) hb); clear BK197; clear BK198; clear HB; have BK197 := n0_; have BK198 := n1_; have HB := n2_; clear n0_ n1_ n2_; (try clear hb); (try clear hb2); (try clear hk); (try clear hi); have hcz31_0 : w30.cell? ⟨gb197, 0, none⟩ = some (.int .u32 a0_0) := (blk_cell BK197.out 0).trans rfl; have hcz31_1 : w30.cell? ⟨gb197, 1, none⟩ = some (.int .i64 a0_1) := (blk_cell BK197.out 1).trans rfl; have hcz31_2 : w30.cell? ⟨gb197, 2, none⟩ = some (.int .u32 a0_2) := (blk_cell BK197.out 2).trans rfl; have hcz31_3 : w30.cell? ⟨gb197, 3, none⟩ = some (.int .i64 a0_3) := (blk_cell BK197.out 3).trans rfl; have hcz31_4 : w30.cell? ⟨gb197, 4, none⟩ = some (.int .i64 a0_4) := (blk_cell BK197.out 4).trans rfl; have hcz31_5 : w30.cell? ⟨gb197, 5, none⟩ = some (.int .u16 a0_5) := (blk_cell BK197.out 5).trans rfl; have hcz31_6 : w30.cell? ⟨gb197, 6, none⟩ = some (.int .u16 a0_6) := (blk_cell BK197.out 6).trans rfl; have hcz31_7 : w30.cell? ⟨gb197, 7, none⟩ = some (.int .u16 a0_7) := (blk_cell BK197.out 7).trans rfl; have hcz31_8 : w30.cell? ⟨gb197, 8, none⟩ = some (.int .u16 a0_8) := (blk_cell BK197.out 8).trans rfl; have hfz31_0 := blk_frozen BK197.out 0; have hfz31_1 := blk_frozen BK197.out 1; have hfz31_2 := blk_frozen BK197.out 2; have hfz31_3 := blk_frozen BK197.out 3; have hfz31_4 := blk_frozen BK197.out 4; have hfz31_5 := blk_frozen BK197.out 5; have hfz31_6 := blk_frozen BK197.out 6; have hfz31_7 := blk_frozen BK197.out 7; have hfz31_8 := blk_frozen BK197.out 8; have hcz32_0 : w30.cell? ⟨gb198, 0, none⟩ = some (.int .u32 a1_0) := (blk_cell BK198.out 0).trans rfl; have hcz32_1 : w30.cell? ⟨gb198, 1, none⟩ = some (.int .i64 a1_1) := (blk_cell BK198.out 1).trans rfl; have hcz32_2 : w30.cell? ⟨gb198, 2, none⟩ = some (.int .u32 a1_2) := (blk_cell BK198.out 2).trans rfl; have hcz32_3 : w30.cell? ⟨gb198, 3, none⟩ = some (.int .i64 a1_3) := (blk_cell BK198.out 3).trans rfl; have hcz32_4 : w30.cell? ⟨gb198, 4, none⟩ = some (.int .i64 a1_4) := (blk_cell BK198.out 4).trans rfl; have hcz32_5 : w30.cell? ⟨gb198, 5, none⟩ = some (.int .u16 a1_5) := (blk_cell BK198.out 5).trans rfl; have hcz32_6 : w30.cell? ⟨gb198, 6, none⟩ = some (.int .u16 a1_6) := (blk_cell BK198.out 6).trans rfl; have hcz32_7 : w30.cell? ⟨gb198, 7, none⟩ = some (.int .u16 a1_7) := (blk_cell BK198.out 7).trans rfl; have hcz32_8 : w30.cell? ⟨gb198, 8, none⟩ = some (.int .u16 a1_8) := (blk_cell BK198.out 8).trans rfl; have hfz32_0 := blk_frozen BK198.out 0; have hfz32_1 := blk_frozen BK198.out 1; have hfz32_2 := blk_frozen BK198.out 2; have hfz32_3 := blk_frozen BK198.out 3; have hfz32_4 := blk_frozen BK198.out 4; have hfz32_5 := blk_frozen BK198.out 5; have hfz32_6 := blk_frozen BK198.out 6; have hfz32_7 := blk_frozen BK198.out 7; have hfz32_8 := blk_frozen BK198.out 8) | (go_at_call 98; (with_reducible refine (filter_touch.calls a0_5 a0_6 a1_5 a1_6 true _ A21.out).mono ?_); rintro e w33 ⟨rfl, hb⟩; have n0_ := Aside0.mk (blk_below (g := gb197) (o := .cells #[.int .u32 a0_0, .int .i64 a0_1, .int .u32 a0_2, .int .i64 a0_3, .int .i64 a0_4, .int .u16 a0_5, .int .u16 a0_6, .int .u16 a0_7, .int .u16 a0_8] 77 (0, 0)) (by (with_reducible repeat (first | refine blk_drewN ?_ _ | refine blk_drew ?_ | refine blk_alloc ?_ _)); exact BK197.out) hb); have n1_ := Aside0.mk (blk_below (g := gb198) (o := .cells #[.int .u32 a1_0, .int .i64 a1_1, .int .u32 a1_2, .int .i64 a1_3, .int .i64 a1_4, .int .u16 a1_5, .int .u16 a1_6, .int .u16 a1_7, .int .u16 a1_8] 77 (0, 0)) (by (with_reducible repeat (first | refine blk_drewN ?_ _ | refine blk_drew ?_ | refine blk_alloc ?_ _)); exact BK198.out) hb); have n2_ := Aside0.mk (below_step (by repeat (first | (with_reducible first | exact HB.out | apply below_alloc | apply pw_below_drewN | apply below_drew1 | refine below_set ?_ GE197.out | refine below_set ?_ GE198.out) | exact HB.out)) hb); clear BK197; clear BK198; clear HB; have BK197 := n0_; have BK198 := n1_; have HB := n2_; clear n0_ n1_ n2_; (try clear hb); (try clear hb2); (try clear hk); (try clear hi); have hcz34_0 : w33.cell? ⟨gb197, 0, none⟩ = some (.int .u32 a0_0) := (blk_cell BK197.out 0).trans rfl; have hcz34_1 : w33.cell? ⟨gb197, 1, none⟩ = some (.int .i64 a0_1) := (blk_cell BK197.out 1).trans rfl; have hcz34_2 : w33.cell? ⟨gb197, 2, none⟩ = some (.int .u32 a0_2) := (blk_cell BK197.out 2).trans rfl; have hcz34_3 : w33.cell? ⟨gb197, 3, none⟩ = some (.int .i64 a0_3) := (blk_cell BK197.out 3).trans rfl; have hcz34_4 : w33.cell? ⟨gb197, 4, none⟩ = some (.int .i64 a0_4) := (blk_cell BK197.out 4).trans rfl; have hcz34_5 : w33.cell? ⟨gb197, 5, none⟩ = some (.int .u16 a0_5) := (blk_cell BK197.out 5).trans rfl; have hcz34_6 : w33.cell? ⟨gb197, 6, none⟩ = some (.int .u16 a0_6) := (blk_cell BK197.out 6).trans rfl; have hcz34_7 : w33.cell? ⟨gb197, 7, none⟩ = some (.int .u16 a0_7) := (blk_cell BK197.out 7).trans rfl; have hcz34_8 : w33.cell? ⟨gb197, 8, none⟩ = some (.int .u16 a0_8) := (blk_cell BK197.out 8).trans rfl; have hfz34_0 := blk_frozen BK197.out 0; have hfz34_1 := blk_frozen BK197.out 1; have hfz34_2 := blk_frozen BK197.out 2; have hfz34_3 := blk_frozen BK197.out 3; have hfz34_4 := blk_frozen BK197.out 4; have hfz34_5 := blk_frozen BK197.out 5; have hfz34_6 := blk_frozen BK197.out 6; have hfz34_7 := blk_frozen BK197.out 7; have hfz34_8 := blk_frozen BK197.out 8; have hcz35_0 : w33.cell? ⟨gb198, 0, none⟩ = some (.int .u32 a1_0) := (blk_cell BK198.out 0).trans rfl; have hcz35_1 : w33.cell? ⟨gb198, 1, none⟩ = some (.int .i64 a1_1) := (blk_cell BK198.out 1).trans rfl; have hcz35_2 : w33.cell? ⟨gb198, 2, none⟩ = some (.int .u32 a1_2) := (blk_cell BK198.out 2).trans rfl; have hcz35_3 : w33.cell? ⟨gb198, 3, none⟩ = some (.int .i64 a1_3) := (blk_cell BK198.out 3).trans rfl; have hcz35_4 : w33.cell? ⟨gb198, 4, none⟩ = some (.int .i64 a1_4) := (blk_cell BK198.out 4).trans rfl; have hcz35_5 : w33.cell? ⟨gb198, 5, none⟩ = some (.int .u16 a1_5) := (blk_cell BK198.out 5).trans rfl; have hcz35_6 : w33.cell? ⟨gb198, 6, none⟩ = some (.int .u16 a1_6) := (blk_cell BK198.out 6).trans rfl; have hcz35_7 : w33.cell? ⟨gb198, 7, none⟩ = some (.int .u16 a1_7) := (blk_cell BK198.out 7).trans rfl; have hcz35_8 : w33.cell? ⟨gb198, 8, none⟩ = some (.int .u16 a1_8) := (blk_cell BK198.out 8).trans rfl; have hfz35_0 := blk_frozen BK198.out 0; have hfz35_1 := blk_frozen BK198.out 1; have hfz35_2 := blk_frozen BK198.out 2; have hfz35_3 := blk_frozen BK198.out 3; have hfz35_4 := blk_frozen BK198.out 4; have hfz35_5 := blk_frozen BK198.out 5; have hfz35_6 := blk_frozen BK198.out 6; have hfz35_7 := blk_frozen BK198.out 7; have hfz35_8 := blk_frozen BK198.out 8) | (go_at_call 98; (with_reducible refine (filter_touch.calls a0_7 a0_8 a1_7 a1_8 t202 _ A23.out).mono ?_); rintro e w36 ⟨rfl, hb⟩; have n0_ := Aside0.mk (blk_below (g := gb197) (o := .cells #[.int .u32 a0_0, .int .i64 a0_1, .int .u32 a0_2, .int .i64 a0_3, .int .i64 a0_4, .int .u16 a0_5, .int .u16 a0_6, .int .u16 a0_7, .int .u16 a0_8] 77 (0, 0)) (by (with_reducible repeat (first | refine blk_drewN ?_ _ | refine blk_drew ?_ | refine blk_alloc ?_ _)); exact BK197.out) hb); have n1_ := Aside0.mk (blk_below (g := gb198) (o := .cells #[.int .u32 a1_0, .int .i64 a1_1, .int .u32 a1_2, .int .i64 a1_3, .int .i64 a1_4, .int .u16 a1_5, .int .u16 a1_6, .int .u16 a1_7, .int .u16 a1_8] 77 (0, 0)) (by (with_reducible repeat (first | refine blk_drewN ?_ _ | refine blk_drew ?_ | refine blk_alloc ?_ _)); exact BK198.out) hb); have n2_ := Aside0.mk (below_step (by repeat (first | (with_reducible first | exact HB.out | apply below_alloc | apply pw_below_drewN | apply below_drew1 | refine below_set ?_ GE197.out | refine below_set ?_ GE198.out) | exact HB.out)) hb); clear BK197; clear BK198; clear HB; have BK197 := n0_; have BK198 := n1_; have HB := n2_; clear n0_ n1_ n2_; (try clear hb); (try clear hb2); (try clear hk); (try clear hi)))
              go_ret
              exact ⟨by first | rfl | (simp [errW_none, errW_some] <;> rfl) | (simp [*, errW_none, errW_some] <;> rfl), by repeat (first | (with_reducible first | exact HB.out | apply below_alloc | apply pw_below_drewN | apply below_drew1 | refine below_set ?_ GE197.out | refine below_set ?_ GE198.out) | exact HB.out)⟩
            · replace c22 := Bool.eq_false_iff.mpr c22
              subst c22
              have H1 : (some false) = some r := by rw [if_neg (show ¬ (false = true) by decide)] at H; exact H
              clear H
              have H := H1
              clear H1
              obtain rfl := Option.some.inj H
              have hnb37 := NB197_198.out
              have hnc37 := NB198_197.out
              have hcz38_0 : wc.cell? ⟨gb197, 0, none⟩ = some (.int .u32 a0_0) := (blk_cell BK197.out 0).trans rfl
              have hcz38_1 : wc.cell? ⟨gb197, 1, none⟩ = some (.int .i64 a0_1) := (blk_cell BK197.out 1).trans rfl
              have hcz38_2 : wc.cell? ⟨gb197, 2, none⟩ = some (.int .u32 a0_2) := (blk_cell BK197.out 2).trans rfl
              have hcz38_3 : wc.cell? ⟨gb197, 3, none⟩ = some (.int .i64 a0_3) := (blk_cell BK197.out 3).trans rfl
              have hcz38_4 : wc.cell? ⟨gb197, 4, none⟩ = some (.int .i64 a0_4) := (blk_cell BK197.out 4).trans rfl
              have hcz38_5 : wc.cell? ⟨gb197, 5, none⟩ = some (.int .u16 a0_5) := (blk_cell BK197.out 5).trans rfl
              have hcz38_6 : wc.cell? ⟨gb197, 6, none⟩ = some (.int .u16 a0_6) := (blk_cell BK197.out 6).trans rfl
              have hcz38_7 : wc.cell? ⟨gb197, 7, none⟩ = some (.int .u16 a0_7) := (blk_cell BK197.out 7).trans rfl
              have hcz38_8 : wc.cell? ⟨gb197, 8, none⟩ = some (.int .u16 a0_8) := (blk_cell BK197.out 8).trans rfl
              have hfz38_0 := blk_frozen BK197.out 0
              have hfz38_1 := blk_frozen BK197.out 1
              have hfz38_2 := blk_frozen BK197.out 2
              have hfz38_3 := blk_frozen BK197.out 3
              have hfz38_4 := blk_frozen BK197.out 4
              have hfz38_5 := blk_frozen BK197.out 5
              have hfz38_6 := blk_frozen BK197.out 6
              have hfz38_7 := blk_frozen BK197.out 7
              have hfz38_8 := blk_frozen BK197.out 8
              have hcz39_0 : wc.cell? ⟨gb198, 0, none⟩ = some (.int .u32 a1_0) := (blk_cell BK198.out 0).trans rfl
              have hcz39_1 : wc.cell? ⟨gb198, 1, none⟩ = some (.int .i64 a1_1) := (blk_cell BK198.out 1).trans rfl
              have hcz39_2 : wc.cell? ⟨gb198, 2, none⟩ = some (.int .u32 a1_2) := (blk_cell BK198.out 2).trans rfl
              have hcz39_3 : wc.cell? ⟨gb198, 3, none⟩ = some (.int .i64 a1_3) := (blk_cell BK198.out 3).trans rfl
              have hcz39_4 : wc.cell? ⟨gb198, 4, none⟩ = some (.int .i64 a1_4) := (blk_cell BK198.out 4).trans rfl
              have hcz39_5 : wc.cell? ⟨gb198, 5, none⟩ = some (.int .u16 a1_5) := (blk_cell BK198.out 5).trans rfl
              have hcz39_6 : wc.cell? ⟨gb198, 6, none⟩ = some (.int .u16 a1_6) := (blk_cell BK198.out 6).trans rfl
              have hcz39_7 : wc.cell? ⟨gb198, 7, none⟩ = some (.int .u16 a1_7) := (blk_cell BK198.out 7).trans rfl
              have hcz39_8 : wc.cell? ⟨gb198, 8, none⟩ = some (.int .u16 a1_8) := (blk_cell BK198.out 8).trans rfl
              have hfz39_0 := blk_frozen BK198.out 0
              have hfz39_1 := blk_frozen BK198.out 1
              have hfz39_2 := blk_frozen BK198.out 2
              have hfz39_3 := blk_frozen BK198.out 3
              have hfz39_4 := blk_frozen BK198.out 4
              have hfz39_5 := blk_frozen BK198.out 5
              have hfz39_6 := blk_frozen BK198.out 6
              have hfz39_7 := blk_frozen BK198.out 7
              have hfz39_8 := blk_frozen BK198.out 8
              go_wp2_with (first | (go_at_call 97; (with_reducible refine (cidr_Meet.calls a0_0 a0_1 a1_0 a1_1 true _ A17.out).mono ?_); rintro e w40 ⟨rfl, hb⟩; have n0_ := Aside0.mk (blk_below (g := gb197) (o := .cells #[.int .u32 a0_0, .int .i64 a0_1, .int .u32 a0_2, .int .i64 a0_3, .int .i64 a0_4, .int .u16 a0_5, .int .u16 a0_6, .int .u16 a0_7, .int .u16 a0_8] 77 (0, 0)) (by (with_reducible repeat (first | refine blk_drewN ?_ _ | refine blk_drew ?_ | refine blk_alloc ?_ _)); exact BK197.out) hb); have n1_ := Aside0.mk (blk_below (g := gb198) (o := .cells #[.int .u32 a1_0, .int .i64 a1_1, .int .u32 a1_2, .int .i64 a1_3, .int .i64 a1_4, .int .u16 a1_5, .int .u16 a1_6, .int .u16 a1_7, .int .u16 a1_8] 77 (0, 0)) (by (with_reducible repeat (first | refine blk_drewN ?_ _ | refine blk_drew ?_ | refine blk_alloc ?_ _)); exact BK198.out) hb); have n2_ := Aside0.mk (below_step (by repeat (first | (with_reducible first | exact HB.out | apply below_alloc | apply pw_below_drewN | apply below_drew1 | refine below_set ?_ GE197.out | refine below_set ?_ GE198.out) | exact HB.out)) hb); clear BK197; clear BK198; clear HB; have BK197 := n0_; have BK198 := n1_; have HB := n2_; clear n0_ n1_ n2_; (try clear hb); (try clear hb2); (try clear hk); (try clear hi); have hcz41_0 : w40.cell? ⟨gb197, 0, none⟩ = some (.int .u32 a0_0) := (blk_cell BK197.out 0).trans rfl; have hcz41_1 : w40.cell? ⟨gb197, 1, none⟩ = some (.int .i64 a0_1) := (blk_cell BK197.out 1).trans rfl; have hcz41_2 : w40.cell? ⟨gb197, 2, none⟩ = some (.int .u32 a0_2) := (blk_cell BK197.out 2).trans rfl; have hcz41_3 : w40.cell? ⟨gb197, 3, none⟩ = some (.int .i64 a0_3) := (blk_cell BK197.out 3).trans rfl; have hcz41_4 : w40.cell? ⟨gb197, 4, none⟩ = some (.int .i64 a0_4) := (blk_cell BK197.out 4).trans rfl; have hcz41_5 : w40.cell? ⟨gb197, 5, none⟩ = some (.int .u16 a0_5) := (blk_cell BK197.out 5).trans rfl; have hcz41_6 : w40.cell? ⟨gb197, 6, none⟩ = some (.int .u16 a0_6) := (blk_cell BK197.out 6).trans rfl; have hcz41_7 : w40.cell? ⟨gb197, 7, none⟩ = some (.int .u16 a0_7) := (blk_cell BK197.out 7).trans rfl; have hcz41_8 : w40.cell? ⟨gb197, 8, none⟩ = some (.int .u16 a0_8) := (blk_cell BK197.out 8).trans rfl; have hfz41_0 := blk_frozen BK197.out 0; have hfz41_1 := blk_frozen BK197.out 1; have hfz41_2 := blk_frozen BK197.out 2; have hfz41_3 := blk_frozen BK197.out 3; have hfz41_4 := blk_frozen BK197.out 4; have hfz41_5 := blk_frozen BK197.out 5; have hfz41_6 := blk_frozen BK197.out 6; have hfz41_7 := blk_frozen BK197.out 7; have hfz41_8 := blk_frozen BK197.out 8; have hcz42_0 : w40.cell? ⟨gb198, 0, none⟩ = some (.int .u32 a1_0) := (blk_cell BK198.out 0).trans rfl; have hcz42_1 : w40.cell? ⟨gb198, 1, none⟩ = some (.int .i64 a1_1) := (blk_cell BK198.out 1).trans rfl; have hcz42_2 : w40.cell? ⟨gb198, 2, none⟩ = some (.int .u32 a1_2) := (blk_cell BK198.out 2).trans rfl; have hcz42_3 : w40.cell? ⟨gb198, 3, none⟩ = some (.int .i64 a1_3) := (blk_cell BK198.out 3).trans rfl; have hcz42_4 : w40.cell? ⟨gb198, 4, none⟩ = some (.int .i64 a1_4) := (blk_cell BK198.out 4).trans rfl; have hcz42_5 : w40.cell? ⟨gb198, 5, none⟩ = some (.int .u16 a1_5) := (blk_cell BK198.out 5).trans rfl; have hcz42_6 : w40.cell? ⟨gb198, 6, none⟩ = some (.int .u16 a1_6) := (blk_cell BK198.out 6).trans rfl; have hcz42_7 : w40.cell? ⟨gb198, 7, none⟩ = some (.int .u16 a1_7) := (blk_cell BK198.out 7).trans rfl; have hcz42_8 : w40.cell? ⟨gb198, 8, none⟩ = some (.int .u16 a1_8) := (blk_cell BK198.out 8).trans rfl; have hfz42_0 := blk_frozen BK198.out 0; have hfz42_1 := blk_frozen BK198.out 1; have hfz42_2 := blk_frozen BK198.out 2; have hfz42_3 := blk_frozen BK198.out 3; have hfz42_4 := blk_frozen BK198.out 4; have hfz42_5 := blk_frozen BK198.out 5; have hfz42_6 := blk_frozen BK198.out 6; have hfz42_7 := blk_frozen BK198.out 7; have hfz42_8 := blk_frozen BK198.out 8) | (go_at_call 97; (with_reducible refine (cidr_Meet.calls a0_2 a0_3 a1_2 a1_3 true _ A19.out).mono ?_); rintro e w43 ⟨rfl, hb⟩; have n0_ := Aside0.mk (blk_below (g := gb197) (o := .cells #[.int .u32 a0_0, .int .i64 a0_1, .int .u32 a0_2, .int .i64 a0_3, .int .i64 a0_4, .int .u16 a0_5, .int .u16 a0_6, .int .u16 a0_7, .int .u16 a0_8] 77 (0, 0)) (by (with_reducible repeat (first | refine blk_drewN ?_ _ | refine blk_drew ?_ | refine blk_alloc ?_ _)); exact BK197.out) hb); have n1_ := Aside0.mk (blk_below (g := gb198) (o := .cells #[.int .u32 a1_0, .int .i64 a1_1, .int .u32 a1_2, .int .i64 a1_3, .int .i64 a1_4, .int .u16 a1_5, .int .u16 a1_6, .int .u16 a1_7, .int .u16 a1_8] 77 (0, 0)) (by (with_reducible repeat (first | refine blk_drewN ?_ _ | refine blk_drew ?_ | refine blk_alloc ?_ _)); exact BK198.out) hb); have n2_ := Aside0.mk (below_step (by repeat (first | (with_reducible first | exact HB.out | apply below_alloc | apply pw_below_drewN | apply below_drew1 | refine below_set ?_ GE197.out | refine below_set ?_ GE198.out) | exact HB.out)) hb); clear BK197; clear BK198; clear HB; have BK197 := n0_; have BK198 := n1_; have HB := n2_; clear n0_ n1_ n2_; (try clear hb); (try clear hb2); (try clear hk); (try clear hi); have hcz44_0 : w43.cell? ⟨gb197, 0, none⟩ = some (.int .u32 a0_0) := (blk_cell BK197.out 0).trans rfl; have hcz44_1 : w43.cell? ⟨gb197, 1, none⟩ = some (.int .i64 a0_1) := (blk_cell BK197.out 1).trans rfl; have hcz44_2 : w43.cell? ⟨gb197, 2, none⟩ = some (.int .u32 a0_2) := (blk_cell BK197.out 2).trans rfl; have hcz44_3 : w43.cell? ⟨gb197, 3, none⟩ = some (.int .i64 a0_3) := (blk_cell BK197.out 3).trans rfl; have hcz44_4 : w43.cell? ⟨gb197, 4, none⟩ = some (.int .i64 a0_4) := (blk_cell BK197.out 4).trans rfl; have hcz44_5 : w43.cell? ⟨gb197, 5, none⟩ = some (.int .u16 a0_5) := (blk_cell BK197.out 5).trans rfl; have hcz44_6 : w43.cell? ⟨gb197, 6, none⟩ = some (.int .u16 a0_6) := (blk_cell BK197.out 6).trans rfl; have hcz44_7 : w43.cell? ⟨gb197, 7, none⟩ = some (.int .u16 a0_7) := (blk_cell BK197.out 7).trans rfl; have hcz44_8 : w43.cell? ⟨gb197, 8, none⟩ = some (.int .u16 a0_8) := (blk_cell BK197.out 8).trans rfl; have hfz44_0 := blk_frozen BK197.out 0; have hfz44_1 := blk_frozen BK197.out 1; have hfz44_2 := blk_frozen BK197.out 2; have hfz44_3 := blk_frozen BK197.out 3; have hfz44_4 := blk_frozen BK197.out 4; have hfz44_5 := blk_frozen BK197.out 5; have hfz44_6 := blk_frozen BK197.out 6; have hfz44_7 := blk_frozen BK197.out 7; have hfz44_8 := blk_frozen BK197.out 8; have hcz45_0 : w43.cell? ⟨gb198, 0, none⟩ = some (.int .u32 a1_0) := (blk_cell BK198.out 0).trans rfl; have hcz45_1 : w43.cell? ⟨gb198, 1, none⟩ = some (.int .i64 a1_1) := (blk_cell BK198.out 1).trans rfl; have hcz45_2 : w43.cell? ⟨gb198, 2, none⟩ = some (.int .u32 a1_2) := (blk_cell BK198.out 2).trans rfl; have hcz45_3 : w43.cell? ⟨gb198, 3, none⟩ = some (.int .i64 a1_3) := (blk_cell BK198.out 3).trans rfl; have hcz45_4 : w43.cell? ⟨gb198, 4, none⟩ = some (.int .i64 a1_4) := (blk_cell BK198.out 4).trans rfl; have hcz45_5 : w43.cell? ⟨gb198, 5, none⟩ = some (.int .u16 a1_5) := (blk_cell BK198.out 5).trans rfl; have hcz45_6 : w43.cell? ⟨gb198, 6, none⟩ = some (.int .u16 a1_6) := (blk_cell BK198.out 6).trans rfl; have hcz45_7 : w43.cell? ⟨gb198, 7, none⟩ = some (.int .u16 a1_7) := (blk_cell BK198.out 7).trans rfl; have hcz45_8 : w43.cell? ⟨gb198, 8, none⟩ = some (.int .u16 a1_8) := (blk_cell BK198.out 8).trans rfl; have hfz45_0 := blk_frozen BK198.out 0; have hfz45_1 := blk_frozen BK198.out 1; have hfz45_2 := blk_frozen BK198.out 2; have hfz45_3 := blk_frozen BK198.out 3; have hfz45_4 := blk_frozen BK198.out 4; have hfz45_5 := blk_frozen BK198.out 5; have hfz45_6 := blk_frozen BK198.out 6; have hfz45_7 := blk_frozen BK198.out 7; have hfz45_8 := blk_frozen BK198.out 8) | (go_at_call 98; (with_reducible refine (filter_touch.calls a0_5 a0_6 a1_5 a1_6 false _ A21.out).mono ?_); rintro e w46 ⟨rfl, hb⟩; have n0_ := Aside0.mk (blk_below (g := gb197) (o := .cells #[.int .u32 a0_0, .int .i64 a0_1, .int .u32 a0_2, .int .i64 a0_3, .int .i64 a0_4, .int .u16 a0_5, .int .u16 a0_6, .int .u16 a0_7, .int .u16 a0_8] 77 (0, 0)) (by (with_reducible repeat (first | refine blk_drewN ?_ _ | refine blk_drew ?_ | refine blk_alloc ?_ _)); exact BK197.out) hb); have n1_ := Aside0.mk (blk_below (g := gb198) (o := .cells #[.int .u32 a1_0, .int .i64 a1_1, .int .u32 a1_2, .int .i64 a1_3, .int .i64 a1_4, .int .u16 a1_5, .int .u16 a1_6, .int .u16 a1_7, .int .u16 a1_8] 77 (0, 0)) (by (with_reducible repeat (first | refine blk_drewN ?_ _ | refine blk_drew ?_ | refine blk_alloc ?_ _)); exact BK198.out) hb); have n2_ := Aside0.mk (below_step (by repeat (first | (with_reducible first | exact HB.out | apply below_alloc | apply pw_below_drewN | apply below_drew1 | refine below_set ?_ GE197.out | refine below_set ?_ GE198.out) | exact HB.out)) hb); clear BK197; clear BK198; clear HB; have BK197 := n0_; have BK198 := n1_; have HB := n2_; clear n0_ n1_ n2_; (try clear hb); (try clear hb2); (try clear hk); (try clear hi)))
              go_ret
              exact ⟨by first | rfl | (simp [errW_none, errW_some] <;> rfl) | (simp [*, errW_none, errW_some] <;> rfl), by repeat (first | (with_reducible first | exact HB.out | apply below_alloc | apply pw_below_drewN | apply below_drew1 | refine below_set ?_ GE197.out | refine below_set ?_ GE198.out) | exact HB.out)⟩
          · replace c20 := Bool.eq_false_iff.mpr c20
            subst c20
            have H1 : (some false) = some r := by rw [if_neg (show ¬ (false = true) by decide)] at H; exact H
            clear H
            have H := H1
            clear H1
            obtain rfl := Option.some.inj H
            have hnb47 := NB197_198.out
            have hnc47 := NB198_197.out
            have hcz48_0 : wc.cell? ⟨gb197, 0, none⟩ = some (.int .u32 a0_0) := (blk_cell BK197.out 0).trans rfl
            have hcz48_1 : wc.cell? ⟨gb197, 1, none⟩ = some (.int .i64 a0_1) := (blk_cell BK197.out 1).trans rfl
            have hcz48_2 : wc.cell? ⟨gb197, 2, none⟩ = some (.int .u32 a0_2) := (blk_cell BK197.out 2).trans rfl
            have hcz48_3 : wc.cell? ⟨gb197, 3, none⟩ = some (.int .i64 a0_3) := (blk_cell BK197.out 3).trans rfl
            have hcz48_4 : wc.cell? ⟨gb197, 4, none⟩ = some (.int .i64 a0_4) := (blk_cell BK197.out 4).trans rfl
            have hcz48_5 : wc.cell? ⟨gb197, 5, none⟩ = some (.int .u16 a0_5) := (blk_cell BK197.out 5).trans rfl
            have hcz48_6 : wc.cell? ⟨gb197, 6, none⟩ = some (.int .u16 a0_6) := (blk_cell BK197.out 6).trans rfl
            have hcz48_7 : wc.cell? ⟨gb197, 7, none⟩ = some (.int .u16 a0_7) := (blk_cell BK197.out 7).trans rfl
            have hcz48_8 : wc.cell? ⟨gb197, 8, none⟩ = some (.int .u16 a0_8) := (blk_cell BK197.out 8).trans rfl
            have hfz48_0 := blk_frozen BK197.out 0
            have hfz48_1 := blk_frozen BK197.out 1
            have hfz48_2 := blk_frozen BK197.out 2
            have hfz48_3 := blk_frozen BK197.out 3
            have hfz48_4 := blk_frozen BK197.out 4
            have hfz48_5 := blk_frozen BK197.out 5
            have hfz48_6 := blk_frozen BK197.out 6
            have hfz48_7 := blk_frozen BK197.out 7
            have hfz48_8 := blk_frozen BK197.out 8
            have hcz49_0 : wc.cell? ⟨gb198, 0, none⟩ = some (.int .u32 a1_0) := (blk_cell BK198.out 0).trans rfl
            have hcz49_1 : wc.cell? ⟨gb198, 1, none⟩ = some (.int .i64 a1_1) := (blk_cell BK198.out 1).trans rfl
            have hcz49_2 : wc.cell? ⟨gb198, 2, none⟩ = some (.int .u32 a1_2) := (blk_cell BK198.out 2).trans rfl
            have hcz49_3 : wc.cell? ⟨gb198, 3, none⟩ = some (.int .i64 a1_3) := (blk_cell BK198.out 3).trans rfl
            have hcz49_4 : wc.cell? ⟨gb198, 4, none⟩ = some (.int .i64 a1_4) := (blk_cell BK198.out 4).trans rfl
            have hcz49_5 : wc.cell? ⟨gb198, 5, none⟩ = some (.int .u16 a1_5) := (blk_cell BK198.out 5).trans rfl
            have hcz49_6 : wc.cell? ⟨gb198, 6, none⟩ = some (.int .u16 a1_6) := (blk_cell BK198.out 6).trans rfl
            have hcz49_7 : wc.cell? ⟨gb198, 7, none⟩ = some (.int .u16 a1_7) := (blk_cell BK198.out 7).trans rfl
            have hcz49_8 : wc.cell? ⟨gb198, 8, none⟩ = some (.int .u16 a1_8) := (blk_cell BK198.out 8).trans rfl
            have hfz49_0 := blk_frozen BK198.out 0
            have hfz49_1 := blk_frozen BK198.out 1
            have hfz49_2 := blk_frozen BK198.out 2
            have hfz49_3 := blk_frozen BK198.out 3
            have hfz49_4 := blk_frozen BK198.out 4
            have hfz49_5 := blk_frozen BK198.out 5
            have hfz49_6 := blk_frozen BK198.out 6
            have hfz49_7 := blk_frozen BK198.out 7
            have hfz49_8 := blk_frozen BK198.out 8
            go_wp2_with (first | (go_at_call 97; (with_reducible refine (cidr_Meet.calls a0_0 a0_1 a1_0 a1_1 true _ A17.out).mono ?_); rintro e w50 ⟨rfl, hb⟩; have n0_ := Aside0.mk (blk_below (g := gb197) (o := .cells #[.int .u32 a0_0, .int .i64 a0_1, .int .u32 a0_2, .int .i64 a0_3, .int .i64 a0_4, .int .u16 a0_5, .int .u16 a0_6, .int .u16 a0_7, .int .u16 a0_8] 77 (0, 0)) (by (with_reducible repeat (first | refine blk_drewN ?_ _ | refine blk_drew ?_ | refine blk_alloc ?_ _)); exact BK197.out) hb); have n1_ := Aside0.mk (blk_below (g := gb198) (o := .cells #[.int .u32 a1_0, .int .i64 a1_1, .int .u32 a1_2, .int .i64 a1_3, .int .i64 a1_4, .int .u16 a1_5, .int .u16 a1_6, .int .u16 a1_7, .int .u16 a1_8] 77 (0, 0)) (by (with_reducible repeat (first | refine blk_drewN ?_ _ | refine blk_drew ?_ | refine blk_alloc ?_ _)); exact BK198.out) hb); have n2_ := Aside0.mk (below_step (by repeat (first | (with_reducible first | exact HB.out | apply below_alloc | apply pw_below_drewN | apply below_drew1 | refine below_set ?_ GE197.out | refine below_set ?_ GE198.out) | exact HB.out)) hb); clear BK197; clear BK198; clear HB; have BK197 := n0_; have BK198 := n1_; have HB := n2_; clear n0_ n1_ n2_; (try clear hb); (try clear hb2); (try clear hk); (try clear hi); have hcz51_0 : w50.cell? ⟨gb197, 0, none⟩ = some (.int .u32 a0_0) := (blk_cell BK197.out 0).trans rfl; have hcz51_1 : w50.cell? ⟨gb197, 1, none⟩ = some (.int .i64 a0_1) := (blk_cell BK197.out 1).trans rfl; have hcz51_2 : w50.cell? ⟨gb197, 2, none⟩ = some (.int .u32 a0_2) := (blk_cell BK197.out 2).trans rfl; have hcz51_3 : w50.cell? ⟨gb197, 3, none⟩ = some (.int .i64 a0_3) := (blk_cell BK197.out 3).trans rfl; have hcz51_4 : w50.cell? ⟨gb197, 4, none⟩ = some (.int .i64 a0_4) := (blk_cell BK197.out 4).trans rfl; have hcz51_5 : w50.cell? ⟨gb197, 5, none⟩ = some (.int .u16 a0_5) := (blk_cell BK197.out 5).trans rfl; have hcz51_6 : w50.cell? ⟨gb197, 6, none⟩ = some (.int .u16 a0_6) := (blk_cell BK197.out 6).trans rfl; have hcz51_7 : w50.cell? ⟨gb197, 7, none⟩ = some (.int .u16 a0_7) := (blk_cell BK197.out 7).trans rfl; have hcz51_8 : w50.cell? ⟨gb197, 8, none⟩ = some (.int .u16 a0_8) := (blk_cell BK197.out 8).trans rfl; have hfz51_0 := blk_frozen BK197.out 0; have hfz51_1 := blk_frozen BK197.out 1; have hfz51_2 := blk_frozen BK197.out 2; have hfz51_3 := blk_frozen BK197.out 3; have hfz51_4 := blk_frozen BK197.out 4; have hfz51_5 := blk_frozen BK197.out 5; have hfz51_6 := blk_frozen BK197.out 6; have hfz51_7 := blk_frozen BK197.out 7; have hfz51_8 := blk_frozen BK197.out 8; have hcz52_0 : w50.cell? ⟨gb198, 0, none⟩ = some (.int .u32 a1_0) := (blk_cell BK198.out 0).trans rfl; have hcz52_1 : w50.cell? ⟨gb198, 1, none⟩ = some (.int .i64 a1_1) := (blk_cell BK198.out 1).trans rfl; have hcz52_2 : w50.cell? ⟨gb198, 2, none⟩ = some (.int .u32 a1_2) := (blk_cell BK198.out 2).trans rfl; have hcz52_3 : w50.cell? ⟨gb198, 3, none⟩ = some (.int .i64 a1_3) := (blk_cell BK198.out 3).trans rfl; have hcz52_4 : w50.cell? ⟨gb198, 4, none⟩ = some (.int .i64 a1_4) := (blk_cell BK198.out 4).trans rfl; have hcz52_5 : w50.cell? ⟨gb198, 5, none⟩ = some (.int .u16 a1_5) := (blk_cell BK198.out 5).trans rfl; have hcz52_6 : w50.cell? ⟨gb198, 6, none⟩ = some (.int .u16 a1_6) := (blk_cell BK198.out 6).trans rfl; have hcz52_7 : w50.cell? ⟨gb198, 7, none⟩ = some (.int .u16 a1_7) := (blk_cell BK198.out 7).trans rfl; have hcz52_8 : w50.cell? ⟨gb198, 8, none⟩ = some (.int .u16 a1_8) := (blk_cell BK198.out 8).trans rfl; have hfz52_0 := blk_frozen BK198.out 0; have hfz52_1 := blk_frozen BK198.out 1; have hfz52_2 := blk_frozen BK198.out 2; have hfz52_3 := blk_frozen BK198.out 3; have hfz52_4 := blk_frozen BK198.out 4; have hfz52_5 := blk_frozen BK198.out 5; have hfz52_6 := blk_frozen BK198.out 6; have hfz52_7 := blk_frozen BK198.out 7; have hfz52_8 := blk_frozen BK198.out 8) | (go_at_call 97; (with_reducible refine (cidr_Meet.calls a0_2 a0_3 a1_2 a1_3 false _ A19.out).mono ?_); rintro e w53 ⟨rfl, hb⟩; have n0_ := Aside0.mk (blk_below (g := gb197) (o := .cells #[.int .u32 a0_0, .int .i64 a0_1, .int .u32 a0_2, .int .i64 a0_3, .int .i64 a0_4, .int .u16 a0_5, .int .u16 a0_6, .int .u16 a0_7, .int .u16 a0_8] 77 (0, 0)) (by (with_reducible repeat (first | refine blk_drewN ?_ _ | refine blk_drew ?_ | refine blk_alloc ?_ _)); exact BK197.out) hb); have n1_ := Aside0.mk (blk_below (g := gb198) (o := .cells #[.int .u32 a1_0, .int .i64 a1_1, .int .u32 a1_2, .int .i64 a1_3, .int .i64 a1_4, .int .u16 a1_5, .int .u16 a1_6, .int .u16 a1_7, .int .u16 a1_8] 77 (0, 0)) (by (with_reducible repeat (first | refine blk_drewN ?_ _ | refine blk_drew ?_ | refine blk_alloc ?_ _)); exact BK198.out) hb); have n2_ := Aside0.mk (below_step (by repeat (first | (with_reducible first | exact HB.out | apply below_alloc | apply pw_below_drewN | apply below_drew1 | refine below_set ?_ GE197.out | refine below_set ?_ GE198.out) | exact HB.out)) hb); clear BK197; clear BK198; clear HB; have BK197 := n0_; have BK198 := n1_; have HB := n2_; clear n0_ n1_ n2_; (try clear hb); (try clear hb2); (try clear hk); (try clear hi)))
            go_ret
            exact ⟨by first | rfl | (simp [errW_none, errW_some] <;> rfl) | (simp [*, errW_none, errW_some] <;> rfl), by repeat (first | (with_reducible first | exact HB.out | apply below_alloc | apply pw_below_drewN | apply below_drew1 | refine below_set ?_ GE197.out | refine below_set ?_ GE198.out) | exact HB.out)⟩
        · replace c18 := Bool.eq_false_iff.mpr c18
          subst c18
          have H1 : (some false) = some r := by rw [if_neg (show ¬ (false = true) by decide)] at H; exact H
          clear H
          have H := H1
          clear H1
          obtain rfl := Option.some.inj H
          have hnb54 := NB197_198.out
          have hnc54 := NB198_197.out
          have hcz55_0 : wc.cell? ⟨gb197, 0, none⟩ = some (.int .u32 a0_0) := (blk_cell BK197.out 0).trans rfl
          have hcz55_1 : wc.cell? ⟨gb197, 1, none⟩ = some (.int .i64 a0_1) := (blk_cell BK197.out 1).trans rfl
          have hcz55_2 : wc.cell? ⟨gb197, 2, none⟩ = some (.int .u32 a0_2) := (blk_cell BK197.out 2).trans rfl
          have hcz55_3 : wc.cell? ⟨gb197, 3, none⟩ = some (.int .i64 a0_3) := (blk_cell BK197.out 3).trans rfl
          have hcz55_4 : wc.cell? ⟨gb197, 4, none⟩ = some (.int .i64 a0_4) := (blk_cell BK197.out 4).trans rfl
          have hcz55_5 : wc.cell? ⟨gb197, 5, none⟩ = some (.int .u16 a0_5) := (blk_cell BK197.out 5).trans rfl
          have hcz55_6 : wc.cell? ⟨gb197, 6, none⟩ = some (.int .u16 a0_6) := (blk_cell BK197.out 6).trans rfl
          have hcz55_7 : wc.cell? ⟨gb197, 7, none⟩ = some (.int .u16 a0_7) := (blk_cell BK197.out 7).trans rfl
          have hcz55_8 : wc.cell? ⟨gb197, 8, none⟩ = some (.int .u16 a0_8) := (blk_cell BK197.out 8).trans rfl
          have hfz55_0 := blk_frozen BK197.out 0
          have hfz55_1 := blk_frozen BK197.out 1
          have hfz55_2 := blk_frozen BK197.out 2
          have hfz55_3 := blk_frozen BK197.out 3
          have hfz55_4 := blk_frozen BK197.out 4
          have hfz55_5 := blk_frozen BK197.out 5
          have hfz55_6 := blk_frozen BK197.out 6
          have hfz55_7 := blk_frozen BK197.out 7
          have hfz55_8 := blk_frozen BK197.out 8
          have hcz56_0 : wc.cell? ⟨gb198, 0, none⟩ = some (.int .u32 a1_0) := (blk_cell BK198.out 0).trans rfl
          have hcz56_1 : wc.cell? ⟨gb198, 1, none⟩ = some (.int .i64 a1_1) := (blk_cell BK198.out 1).trans rfl
          have hcz56_2 : wc.cell? ⟨gb198, 2, none⟩ = some (.int .u32 a1_2) := (blk_cell BK198.out 2).trans rfl
          have hcz56_3 : wc.cell? ⟨gb198, 3, none⟩ = some (.int .i64 a1_3) := (blk_cell BK198.out 3).trans rfl
          have hcz56_4 : wc.cell? ⟨gb198, 4, none⟩ = some (.int .i64 a1_4) := (blk_cell BK198.out 4).trans rfl
          have hcz56_5 : wc.cell? ⟨gb198, 5, none⟩ = some (.int .u16 a1_5) := (blk_cell BK198.out 5).trans rfl
          have hcz56_6 : wc.cell? ⟨gb198, 6, none⟩ = some (.int .u16 a1_6) := (blk_cell BK198.out 6).trans rfl
          have hcz56_7 : wc.cell? ⟨gb198, 7, none⟩ = some (.int .u16 a1_7) := (blk_cell BK198.out 7).trans rfl
          have hcz56_8 : wc.cell? ⟨gb198, 8, none⟩ = some (.int .u16 a1_8) := (blk_cell BK198.out 8).trans rfl
          have hfz56_0 := blk_frozen BK198.out 0
          have hfz56_1 := blk_frozen BK198.out 1
          have hfz56_2 := blk_frozen BK198.out 2
          have hfz56_3 := blk_frozen BK198.out 3
          have hfz56_4 := blk_frozen BK198.out 4
          have hfz56_5 := blk_frozen BK198.out 5
          have hfz56_6 := blk_frozen BK198.out 6
          have hfz56_7 := blk_frozen BK198.out 7
          have hfz56_8 := blk_frozen BK198.out 8
          go_wp2_with (first | (go_at_call 97; (with_reducible refine (cidr_Meet.calls a0_0 a0_1 a1_0 a1_1 false _ A17.out).mono ?_); rintro e w57 ⟨rfl, hb⟩; have n0_ := Aside0.mk (blk_below (g := gb197) (o := .cells #[.int .u32 a0_0, .int .i64 a0_1, .int .u32 a0_2, .int .i64 a0_3, .int .i64 a0_4, .int .u16 a0_5, .int .u16 a0_6, .int .u16 a0_7, .int .u16 a0_8] 77 (0, 0)) (by (with_reducible repeat (first | refine blk_drewN ?_ _ | refine blk_drew ?_ | refine blk_alloc ?_ _)); exact BK197.out) hb); have n1_ := Aside0.mk (blk_below (g := gb198) (o := .cells #[.int .u32 a1_0, .int .i64 a1_1, .int .u32 a1_2, .int .i64 a1_3, .int .i64 a1_4, .int .u16 a1_5, .int .u16 a1_6, .int .u16 a1_7, .int .u16 a1_8] 77 (0, 0)) (by (with_reducible repeat (first | refine blk_drewN ?_ _ | refine blk_drew ?_ | refine blk_alloc ?_ _)); exact BK198.out) hb); have n2_ := Aside0.mk (below_step (by repeat (first | (with_reducible first | exact HB.out | apply below_alloc | apply pw_below_drewN | apply below_drew1 | refine below_set ?_ GE197.out | refine below_set ?_ GE198.out) | exact HB.out)) hb); clear BK197; clear BK198; clear HB; have BK197 := n0_; have BK198 := n1_; have HB := n2_; clear n0_ n1_ n2_; (try clear hb); (try clear hb2); (try clear hk); (try clear hi)))
          go_ret
          exact ⟨by first | rfl | (simp [errW_none, errW_some] <;> rfl) | (simp [*, errW_none, errW_some] <;> rfl), by repeat (first | (with_reducible first | exact HB.out | apply below_alloc | apply pw_below_drewN | apply below_drew1 | refine below_set ?_ GE197.out | refine below_set ?_ GE198.out) | exact HB.out)⟩
      · replace c16 := Bool.eq_false_iff.mpr c16
        subst c16
        have H1 : (some false) = some r := by rw [if_neg (show ¬ (false = true) by decide)] at H; exact H
        clear H
        have H := H1
        clear H1
        obtain rfl := Option.some.inj H
        go_wp2
        go_ret
        exact ⟨by first | rfl | (simp [errW_none, errW_some] <;> rfl) | (simp [*, errW_none, errW_some] <;> rfl), by repeat (first | (with_reducible first | exact HB.out | apply below_alloc | apply pw_below_drewN | apply below_drew1 | refine below_set ?_ GE197.out | refine below_set ?_ GE198.out) | exact HB.out)⟩

end Go.Proofs.YtloclimoffhbhaaDoor.PFq

namespace Go.Proofs.YtloclimoffhbhaaDoor.PFq
open Go.RowKit Go.Proofs.YtloclimoffhbhaaDoorW.PrintWords Go.Proofs.YtloclimoffhbhaaDoorW.PrintLast Go.Proofs.YtloclimoffhbhaaDoorW.PrintMore
attribute [local go_sem] max2_int min2_int max_two min_two max_three min_three max_four min_four   -- for this text's walks alone
set_option linter.unusedVariables false
set_option linter.unusedSimpArgs false

/-! ### crossbuckref03_size: function 101 -/
def crossbuckref03_size.l0 : Nat → Int → Int → Option (Int)
  | 0, _, _ => none
  | k + 1, x3, x4 => if x4 < 32 then (crossbuckref03_size.l0 k (IntKind.u64.wrap (x3 * 2)) (wrap64 (x4 + 1))) else (some x3)
def crossbuckref03_size.f (k : Nat) (a0 : Int) : Option (Int) := crossbuckref03_size.l0 k 1 a0
theorem crossbuckref03_size.mono_l : ∀ k, (∀ y0 y1, LeO (crossbuckref03_size.l0 k y0 y1) (crossbuckref03_size.l0 (k + 1) y0 y1))
  | 0 => fun _ _ r h => by simp [crossbuckref03_size.l0] at h
  | k + 1 => by
    have ih0 := crossbuckref03_size.mono_l k
    · intro y0 y1
      unfold crossbuckref03_size.l0
      repeat' first
      | (with_reducible exact ih0 _ _)
      | (with_reducible exact LeO.refl _)
      | (with_reducible exact LeO.none _)
      | (with_reducible refine LeO.ite ?_ ?_)
      | (with_reducible refine LeO.bind ?_ (fun _ => ?_))
      | exact ih0 _ _
      | exact LeO.none _
      | refine LeO.ite ?_ ?_
      | refine LeO.bind ?_ (fun _ => ?_)
theorem crossbuckref03_size.mono : ∀ a0 k, LeO (crossbuckref03_size.f k a0) (crossbuckref03_size.f (k + 1) a0) := by
  intro a0 k
  have ih0 := crossbuckref03_size.mono_l k
  unfold crossbuckref03_size.f
  repeat' first
      | (with_reducible exact ih0 _ _)
      | (with_reducible exact LeO.refl _)
      | (with_reducible exact LeO.none _)
      | (with_reducible refine LeO.ite ?_ ?_)
      | (with_reducible refine LeO.bind ?_ (fun _ => ?_))
      | exact ih0 _ _
      | exact LeO.none _
      | refine LeO.ite ?_ ?_
      | refine LeO.bind ?_ (fun _ => ?_)
set_option maxHeartbeats 8000000 in
set_option maxRecDepth 100000 in
theorem crossbuckref03_size.calls (k : Nat) (a0 : Int) (r : Int) (w : World) (h : crossbuckref03_size.f k a0 = some r) :
    Calls Tryd.prog 101 #[.int .i64 a0] w fun e w' => e = .returned (.int .u64 r) ∧ Drawn0 w w' := by
  have H : (crossbuckref03_size.l0 k 1 a0) = some r := h
  clear h
  have H' := Aside0.mk H
  clear H
  go_enter Tryd.func101, Tryd.ntmps101
  go_wp2
  go_loopg [3, 4] k (fun kq v3 v4 w' => ∃ (x3_1 : Int) (x4_1 : Int), v3 = .int .u64 x3_1 ∧ v4 = .int .i64 x4_1 ∧ Aside0 (crossbuckref03_size.l0 kq x3_1 x4_1 = some r) ∧ Aside0 (kq ≤ k) ∧ Drawn0 w w')
  case atStart => exact ⟨(1), (a0), (by first | rfl | (simp; done) | (simp [*]; done)), (by first | rfl | (simp; done) | (simp [*]; done)), H', ⟨Nat.le_refl _⟩, by repeat (first | exact Drawn0.refl _ | apply Drawn0.step)⟩
  case round =>
    clear H'
    try clear c1
    obtain ⟨x3_1, x4_1, rfl, rfl, HA, HK1, ⟨m1, rfl⟩⟩ := hrel
    cases gk with
    | zero => exact absurd HA.out (by simp [crossbuckref03_size.l0])
    | succ k1 =>
      have H := HA.out
      clear HA
      simp only [crossbuckref03_size.l0] at H
      by_cases c2 : x4_1 < 32
      · rw [if_pos c2] at H
        have c2b0 : decide (x4_1 < 32) = true := decide_eq_true c2
        clear c2
        have H' := Aside0.mk H
        clear H
        go_wp2
        go_roundg k1
        case measure => have := HK1.out; omega
        case rel => exact ⟨(IntKind.u64.wrap (x3_1 * 2)), (wrap64 (x4_1 + 1)), (by first | rfl | (simp; done) | (simp [*]; done)), (by first | rfl | (simp; done) | (simp [*]; done)), H', ⟨by have := HK1.out; omega⟩, by repeat (first | exact Drawn0.refl _ | apply Drawn0.step)⟩
      · rw [if_neg c2] at H
        have c2b0 : decide (x4_1 < 32) = false := decide_eq_false c2
        clear c2
        obtain rfl := Option.some.inj H
        go_wp2
        go_ret
        exact ⟨by first | rfl | (simp; done) | (simp [*]; done), by repeat (first | exact Drawn0.refl _ | apply Drawn0.step)⟩

end Go.Proofs.YtloclimoffhbhaaDoor.PFq

namespace Go.Proofs.YtloclimoffhbhaaDoor.PFq
open Go.RowKit Go.Proofs.YtloclimoffhbhaaDoorW.PrintWords Go.Proofs.YtloclimoffhbhaaDoorW.PrintLast Go.Proofs.YtloclimoffhbhaaDoorW.PrintMore
attribute [local go_sem] max2_int min2_int max_two min_two max_three min_three max_four min_four   -- for this text's walks alone
set_option linter.unusedVariables false
set_option linter.unusedSimpArgs false

/-! ### crossbuckref03_Right: function 61 -/
def crossbuckref03_Right.f (k : Nat) (a0_0 : Int) (a0_1 : Int) : Option (Bool) := if a0_1 ≥ 0 then (if a0_1 ≤ 32 then ((crossbuckref03_size.f k a0_1).bind fun t107 => (if t107 = 0 then (none) else (some ((Int.tmod (IntKind.u64.wrap (a0_0)) t107) == 0)))) else (some false)) else (some false)
theorem crossbuckref03_Right.mono : ∀ a0 a1 k, LeO (crossbuckref03_Right.f k a0 a1) (crossbuckref03_Right.f (k + 1) a0 a1) := by
  intro a0 a1 k
  unfold crossbuckref03_Right.f
  repeat' first
      | (with_reducible exact crossbuckref03_size.mono _ _)
      | (with_reducible exact LeO.refl _)
      | (with_reducible exact LeO.none _)
      | (with_reducible refine LeO.ite ?_ ?_)
      | (with_reducible refine LeO.bind ?_ (fun _ => ?_))
      | exact crossbuckref03_size.mono _ _
      | exact LeO.none _
      | refine LeO.ite ?_ ?_
      | refine LeO.bind ?_ (fun _ => ?_)
set_option maxHeartbeats 8000000 in
set_option maxRecDepth 100000 in
theorem crossbuckref03_Right.calls (k : Nat) (a0_0 : Int) (a0_1 : Int) (r : Bool) (w : World) (h : crossbuckref03_Right.f k a0_0 a0_1 = some r) :
    Calls Tryd.prog 61 #[.agg #[.int .u32 a0_0, .int .i64 a0_1]] w fun e w' => e = .returned (.bool r) ∧ Below w.heap.size w w' := by
  have hu42 := Tryd.underlying42
  have HB := Aside0.mk (Below.refl w.heap.size w)
  have H : (if a0_1 ≥ 0 then (if a0_1 ≤ 32 then ((crossbuckref03_size.f k a0_1).bind fun t107 => (if t107 = 0 then (none) else (some ((Int.tmod (IntKind.u64.wrap (a0_0)) t107) == 0)))) else (some false)) else (some false)) = some r := h
  clear h
  by_cases c2 : a0_1 ≥ 0
  · rw [if_pos c2] at H
    have c2b0 : decide (0 ≤ a0_1) = true := decide_eq_true c2
    clear c2
    by_cases c3 : a0_1 ≤ 32
    · rw [if_pos c3] at H
      have c3b0 : decide (a0_1 ≤ 32) = true := decide_eq_true c3
      clear c3
      replace H := Option.bind_eq_some_iff.mp H
      obtain ⟨t107, A40, H⟩ := H
      replace H : (if t107 = 0 then (none) else (some ((Int.tmod (IntKind.u64.wrap (a0_0)) t107) == 0))) = some r := H
      have A4 := Aside0.mk A40
      clear A40
      by_cases c5 : t107 = 0
      · rw [if_pos c5] at H
        exact absurd H (by simp)
      · rw [if_neg c5] at H
        have c5b0 : (t107 == 0) = false := beq_eq_false_iff_ne.mpr c5
        have c5b1 : (t107 != 0) = true := bne_iff_ne.mpr c5
        obtain rfl := Option.some.inj H
        go_enter Tryd.func61, Tryd.ntmps61
        go_wp2_with (first | ((with_reducible refine gate_dst (N := 1) rfl ?_); refine box_event ?hg (N := 1) ?hd (cs := #[.int .u32 a0_0, .int .i64 a0_1]) (t := 42) ?hr ?_; (case hd => rfl); (case hg => rfl); (case hr => first | (go_simp; done) | (go_simp; rfl)); intro gb106 hg w6 hbox hb; have n0_ := Aside0.mk (below_step (by repeat (first | (with_reducible first | exact HB.out | apply below_alloc | apply pw_below_drewN | apply below_drew1) | exact HB.out)) hb); have n1_ := Aside0.mk (hbox); have n2_ := Aside0.mk ((by rw [hg]; exact (below_size (by repeat (first | (with_reducible first | exact HB.out | apply below_alloc | apply pw_below_drewN | apply below_drew1) | exact HB.out))) : w.heap.size ≤ gb106)); have n3_ := Aside0.mk ((by rw [hg]; exact (below_size (by repeat (first | (with_reducible first | exact HB.out | apply below_alloc | apply pw_below_drewN | apply below_drew1) | exact HB.out))) : w.heap.size ≤ gb106)); clear HB; have HB := n0_; have BK106 := n1_; have GW106 := n2_; have GE106 := n3_; clear n0_ n1_ n2_ n3_; clear hb hbox hg; have hcz7_0 : w6.cell? ⟨gb106, 0, none⟩ = some (.int .u32 a0_0) := (blk_cell BK106.out 0).trans rfl; have hcz7_1 : w6.cell? ⟨gb106, 1, none⟩ = some (.int .i64 a0_1) := (blk_cell BK106.out 1).trans rfl; have hfz7_0 := blk_frozen BK106.out 0; have hfz7_1 := blk_frozen BK106.out 1) | (go_at_call 101; (with_reducible refine (crossbuckref03_size.calls k a0_1 t107 _ A4.out).mono ?_); rintro e w' ⟨rfl, ⟨nd, rfl⟩⟩; (try first | exact ⟨rfl, _, World.drewN_drewN _ _ _⟩ | exact ⟨rfl, _, Eq.trans (World.drewN_drewN _ _ _) (congrArg (World.drewN _) (Nat.add_assoc _ _ _))⟩)))
        repeat (go_quiet (first | ((with_reducible refine gate_dst (N := 1) rfl ?_); refine box_event ?hg (N := 1) ?hd (cs := #[.int .u32 a0_0, .int .i64 a0_1]) (t := 42) ?hr ?_; (case hd => rfl); (case hg => rfl); (case hr => first | (go_simp; done) | (go_simp; rfl)); intro gb106 hg w6 hbox hb; have n0_ := Aside0.mk (below_step (by repeat (first | (with_reducible first | exact HB.out | apply below_alloc | apply pw_below_drewN | apply below_drew1) | exact HB.out)) hb); have n1_ := Aside0.mk (hbox); have n2_ := Aside0.mk ((by rw [hg]; exact (below_size (by repeat (first | (with_reducible first | exact HB.out | apply below_alloc | apply pw_below_drewN | apply below_drew1) | exact HB.out))) : w.heap.size ≤ gb106)); have n3_ := Aside0.mk ((by rw [hg]; exact (below_size (by repeat (first | (with_reducible first | exact HB.out | apply below_alloc | apply pw_below_drewN | apply below_drew1) | exact HB.out))) : w.heap.size ≤ gb106)); clear HB; have HB := n0_; have BK106 := n1_; have GW106 := n2_; have GE106 := n3_; clear n0_ n1_ n2_ n3_; clear hb hbox hg; have hcz7_0 : w6.cell? ⟨gb106, 0, none⟩ = some (.int .u32 a0_0) := (blk_cell BK106.out 0).trans rfl; have hcz7_1 : w6.cell? ⟨gb106, 1, none⟩ = some (.int .i64 a0_1) := (blk_cell BK106.out 1).trans rfl; have hfz7_0 := blk_frozen BK106.out 0; have hfz7_1 := blk_frozen BK106.out 1) | (go_at_call 101; (with_reducible refine (crossbuckref03_size.calls k a0_1 t107 _ A4.out).mono ?_); rintro e w' ⟨rfl, ⟨nd, rfl⟩⟩; (try first | exact ⟨rfl, _, World.drewN_drewN _ _ _⟩ | exact ⟨rfl, _, Eq.trans (World.drewN_drewN _ _ _) (congrArg (World.drewN _) (Nat.add_assoc _ _ _))⟩))); try go_wp2_with (first | ((with_reducible refine gate_dst (N := 1) rfl ?_); refine box_event ?hg (N := 1) ?hd (cs := #[.int .u32 a0_0, .int .i64 a0_1]) (t := 42) ?hr ?_; (case hd => rfl); (case hg => rfl); (case hr => first | (go_simp; done) | (go_simp; rfl)); intro gb106 hg w6 hbox hb; have n0_ := Aside0.mk (below_step (by repeat (first | (with_reducible first | exact HB.out | apply below_alloc | apply pw_below_drewN | apply below_drew1) | exact HB.out)) hb); have n1_ := Aside0.mk (hbox); have n2_ := Aside0.mk ((by rw [hg]; exact (below_size (by repeat (first | (with_reducible first | exact HB.out | apply below_alloc | apply pw_below_drewN | apply below_drew1) | exact HB.out))) : w.heap.size ≤ gb106)); have n3_ := Aside0.mk ((by rw [hg]; exact (below_size (by repeat (first | (with_reducible first | exact HB.out | apply below_alloc | apply pw_below_drewN | apply below_drew1) | exact HB.out))) : w.heap.size ≤ gb106)); clear HB; have HB := n0_; have BK106 := n1_; have GW106 := n2_; have GE106 := n3_; clear n0_ n1_ n2_ n3_; clear hb hbox hg; have hcz7_0 : w6.cell? ⟨gb106, 0, none⟩ = some (.int .u32 a0_0) := (blk_cell BK106.out 0).trans rfl; have hcz7_1 : w6.cell? ⟨gb106, 1, none⟩ = some (.int .i64 a0_1) := (blk_cell BK106.out 1).trans rfl; have hfz7_0 := blk_frozen BK106.out 0; have hfz7_1 := blk_frozen BK106.out 1) | (go_at_call 101; (with_reducible refine (crossbuckref03_size.calls k a0_1 t107 _ A4.out).mono ?_); rintro e w' ⟨rfl, ⟨nd, rfl⟩⟩; (try first | exact ⟨rfl, _, World.drewN_drewN _ _ _⟩ | exact ⟨rfl, _, Eq.trans (World.drewN_drewN _ _ _) (congrArg (World.drewN _) (Nat.add_assoc _ _ _))⟩))))
        go_ret
        exact ⟨by first | rfl | (simp [errW_none, errW_some] <;> rfl) | (simp [*, errW_none, errW_some] <;> rfl), by repeat (first | (with_reducible first | exact HB.out | apply below_alloc | apply pw_below_drewN | apply below_drew1 | refine below_set ?_ GE106.out) | exact HB.out)⟩
    · rw [if_neg c3] at H
      have c3b0 : decide (a0_1 ≤ 32) = false := decide_eq_false c3
      clear c3
      obtain rfl := Option.some.inj H
      go_enter Tryd.func61, Tryd.ntmps61
      go_wp2_with (first | ((with_reducible refine gate_dst (N := 1) rfl ?_); refine box_event ?hg (N := 1) ?hd (cs := #[.int .u32 a0_0, .int .i64 a0_1]) (t := 42) ?hr ?_; (case hd => rfl); (case hg => rfl); (case hr => first | (go_simp; done) | (go_simp; rfl)); intro gb106 hg w8 hbox hb; have n0_ := Aside0.mk (below_step (by repeat (first | (with_reducible first | exact HB.out | apply below_alloc | apply pw_below_drewN | apply below_drew1) | exact HB.out)) hb); have n1_ := Aside0.mk (hbox); have n2_ := Aside0.mk ((by rw [hg]; exact (below_size (by repeat (first | (with_reducible first | exact HB.out | apply below_alloc | apply pw_below_drewN | apply below_drew1) | exact HB.out))) : w.heap.size ≤ gb106)); have n3_ := Aside0.mk ((by rw [hg]; exact (below_size (by repeat (first | (with_reducible first | exact HB.out | apply below_alloc | apply pw_below_drewN | apply below_drew1) | exact HB.out))) : w.heap.size ≤ gb106)); clear HB; have HB := n0_; have BK106 := n1_; have GW106 := n2_; have GE106 := n3_; clear n0_ n1_ n2_ n3_; clear hb hbox hg; have hcz9_0 : w8.cell? ⟨gb106, 0, none⟩ = some (.int .u32 a0_0) := (blk_cell BK106.out 0).trans rfl; have hcz9_1 : w8.cell? ⟨gb106, 1, none⟩ = some (.int .i64 a0_1) := (blk_cell BK106.out 1).trans rfl; have hfz9_0 := blk_frozen BK106.out 0; have hfz9_1 := blk_frozen BK106.out 1))
      repeat (go_quiet (first | ((with_reducible refine gate_dst (N := 1) rfl ?_); refine box_event ?hg (N := 1) ?hd (cs := #[.int .u32 a0_0, .int .i64 a0_1]) (t := 42) ?hr ?_; (case hd => rfl); (case hg => rfl); (case hr => first | (go_simp; done) | (go_simp; rfl)); intro gb106 hg w8 hbox hb; have n0_ := Aside0.mk (below_step (by repeat (first | (with_reducible first | exact HB.out | apply below_alloc | apply pw_below_drewN | apply below_drew1) | exact HB.out)) hb); have n1_ := Aside0.mk (hbox); have n2_ := Aside0.mk ((by rw [hg]; exact (below_size (by repeat (first | (with_reducible first | exact HB.out | apply below_alloc | apply pw_below_drewN | apply below_drew1) | exact HB.out))) : w.heap.size ≤ gb106)); have n3_ := Aside0.mk ((by rw [hg]; exact (below_size (by repeat (first | (with_reducible first | exact HB.out | apply below_alloc | apply pw_below_drewN | apply below_drew1) | exact HB.out))) : w.heap.size ≤ gb106)); clear HB; have HB := n0_; have BK106 := n1_; have GW106 := n2_; have GE106 := n3_; clear n0_ n1_ n2_ n3_; clear hb hbox hg; have hcz9_0 : w8.cell? ⟨gb106, 0, none⟩ = some (.int .u32 a0_0) := (blk_cell BK106.out 0).trans rfl; have hcz9_1 : w8.cell? ⟨gb106, 1, none⟩ = some (.int .i64 a0_1) := (blk_cell BK106.out 1).trans rfl; have hfz9_0 := blk_frozen BK106.out 0; have hfz9_1 := blk_frozen BK106.out 1)); try go_wp2_with (first | ((with_reducible refine gate_dst (N := 1) rfl ?_); refine box_event ?hg (N := 1) ?hd (cs := #[.int .u32 a0_0, .int .i64 a0_1]) (t := 42) ?hr ?_; (case hd => rfl); (case hg => rfl); (case hr => first | (go_simp; done) | (go_simp; rfl)); intro gb106 hg w8 hbox hb; have n0_ := Aside0.mk (below_step (by repeat (first | (with_reducible first | exact HB.out | apply below_alloc | apply pw_below_drewN | apply below_drew1) | exact HB.out)) hb); have n1_ := Aside0.mk (hbox); have n2_ := Aside0.mk ((by rw [hg]; exact (below_size (by repeat (first | (with_reducible first | exact HB.out | apply below_alloc | apply pw_below_drewN | apply below_drew1) | exact HB.out))) : w.heap.size ≤ gb106)); have n3_ := Aside0.mk ((by rw [hg]; exact (below_size (by repeat (first | (with_reducible first | exact HB.out | apply below_alloc | apply pw_below_drewN | apply below_drew1) | exact HB.out))) : w.heap.size ≤ gb106)); clear HB; have HB := n0_; have BK106 := n1_; have GW106 := n2_; have GE106 := n3_; clear n0_ n1_ n2_ n3_; clear hb hbox hg; have hcz9_0 : w8.cell? ⟨gb106, 0, none⟩ = some (.int .u32 a0_0) := (blk_cell BK106.out 0).trans rfl; have hcz9_1 : w8.cell? ⟨gb106, 1, none⟩ = some (.int .i64 a0_1) := (blk_cell BK106.out 1).trans rfl; have hfz9_0 := blk_frozen BK106.out 0; have hfz9_1 := blk_frozen BK106.out 1)))
      go_ret
      exact ⟨by first | rfl | (simp [errW_none, errW_some] <;> rfl) | (simp [*, errW_none, errW_some] <;> rfl), by repeat (first | (with_reducible first | exact HB.out | apply below_alloc | apply pw_below_drewN | apply below_drew1 | refine below_set ?_ GE106.out) | exact HB.out)⟩
  · rw [if_neg c2] at H
    have c2b0 : decide (0 ≤ a0_1) = false := decide_eq_false c2
    clear c2
    obtain rfl := Option.some.inj H
    go_enter Tryd.func61, Tryd.ntmps61
    go_wp2_with (first | ((with_reducible refine gate_dst (N := 1) rfl ?_); refine box_event ?hg (N := 1) ?hd (cs := #[.int .u32 a0_0, .int .i64 a0_1]) (t := 42) ?hr ?_; (case hd => rfl); (case hg => rfl); (case hr => first | (go_simp; done) | (go_simp; rfl)); intro gb106 hg w10 hbox hb; have n0_ := Aside0.mk (below_step (by repeat (first | (with_reducible first | exact HB.out | apply below_alloc | apply pw_below_drewN | apply below_drew1) | exact HB.out)) hb); have n1_ := Aside0.mk (hbox); have n2_ := Aside0.mk ((by rw [hg]; exact (below_size (by repeat (first | (with_reducible first | exact HB.out | apply below_alloc | apply pw_below_drewN | apply below_drew1) | exact HB.out))) : w.heap.size ≤ gb106)); have n3_ := Aside0.mk ((by rw [hg]; exact (below_size (by repeat (first | (with_reducible first | exact HB.out | apply below_alloc | apply pw_below_drewN | apply below_drew1) | exact HB.out))) : w.heap.size ≤ gb106)); clear HB; have HB := n0_; have BK106 := n1_; have GW106 := n2_; have GE106 := n3_; clear n0_ n1_ n2_ n3_; clear hb hbox hg; have hcz11_0 : w10.cell? ⟨gb106, 0, none⟩ = some (.int .u32 a0_0) := (blk_cell BK106.out 0).trans rfl; have hcz11_1 : w10.cell? ⟨gb106, 1, none⟩ = some (.int .i64 a0_1) := (blk_cell BK106.out 1).trans rfl; have hfz11_0 := blk_frozen BK106.out 0; have hfz11_1 := blk_frozen BK106.out 1))
    repeat (go_quiet (first | ((with_reducible refine gate_dst (N := 1) rfl ?_); refine box_event ?hg (N := 1) ?hd (cs := #[.int .u32 a0_0, .int .i64 a0_1]) (t := 42) ?hr ?_; (case hd => rfl); (case hg => rfl); (case hr => first | (go_simp; done) | (go_simp; rfl)); intro gb106 hg w10 hbox hb; have n0_ := Aside0.mk (below_step (by repeat (first | (with_reducible first | exact HB.out | apply below_alloc | apply pw_below_drewN | apply below_drew1) | exact HB.out)) hb); have n1_ := Aside0.mk (hbox); have n2_ := Aside0.mk ((by rw [hg]; exact (below_size (by repeat (first | (with_reducible first | exact HB.out | apply below_alloc | apply pw_below_drewN | apply below_drew1) | exact HB.out))) : w.heap.size ≤ gb106)); have n3_ := Aside0.mk ((by rw [hg]; exact (below_size (by repeat (first | (with_reducible first | exact HB.out | apply below_alloc | apply pw_below_drewN | apply below_drew1) | exact HB.out))) : w.heap.size ≤ gb106)); clear HB; have HB := n0_; have BK106 := n1_; have GW106 := n2_; have GE106 := n3_; clear n0_ n1_ n2_ n3_; clear hb hbox hg; have hcz11_0 : w10.cell? ⟨gb106, 0, none⟩ = some (.int .u32 a0_0) := (blk_cell BK106.out 0).trans rfl; have hcz11_1 : w10.cell? ⟨gb106, 1, none⟩ = some (.int .i64 a0_1) := (blk_cell BK106.out 1).trans rfl; have hfz11_0 := blk_frozen BK106.out 0; have hfz11_1 := blk_frozen BK106.out 1)); try go_wp2_with (first | ((with_reducible refine gate_dst (N := 1) rfl ?_); refine box_event ?hg (N := 1) ?hd (cs := #[.int .u32 a0_0, .int .i64 a0_1]) (t := 42) ?hr ?_; (case hd => rfl); (case hg => rfl); (case hr => first | (go_simp; done) | (go_simp; rfl)); intro gb106 hg w10 hbox hb; have n0_ := Aside0.mk (below_step (by repeat (first | (with_reducible first | exact HB.out | apply below_alloc | apply pw_below_drewN | apply below_drew1) | exact HB.out)) hb); have n1_ := Aside0.mk (hbox); have n2_ := Aside0.mk ((by rw [hg]; exact (below_size (by repeat (first | (with_reducible first | exact HB.out | apply below_alloc | apply pw_below_drewN | apply below_drew1) | exact HB.out))) : w.heap.size ≤ gb106)); have n3_ := Aside0.mk ((by rw [hg]; exact (below_size (by repeat (first | (with_reducible first | exact HB.out | apply below_alloc | apply pw_below_drewN | apply below_drew1) | exact HB.out))) : w.heap.size ≤ gb106)); clear HB; have HB := n0_; have BK106 := n1_; have GW106 := n2_; have GE106 := n3_; clear n0_ n1_ n2_ n3_; clear hb hbox hg; have hcz11_0 : w10.cell? ⟨gb106, 0, none⟩ = some (.int .u32 a0_0) := (blk_cell BK106.out 0).trans rfl; have hcz11_1 : w10.cell? ⟨gb106, 1, none⟩ = some (.int .i64 a0_1) := (blk_cell BK106.out 1).trans rfl; have hfz11_0 := blk_frozen BK106.out 0; have hfz11_1 := blk_frozen BK106.out 1)))
    go_ret
    exact ⟨by first | rfl | (simp [errW_none, errW_some] <;> rfl) | (simp [*, errW_none, errW_some] <;> rfl), by repeat (first | (with_reducible first | exact HB.out | apply below_alloc | apply pw_below_drewN | apply below_drew1 | refine below_set ?_ GE106.out) | exact HB.out)⟩

end Go.Proofs.YtloclimoffhbhaaDoor.PFq
