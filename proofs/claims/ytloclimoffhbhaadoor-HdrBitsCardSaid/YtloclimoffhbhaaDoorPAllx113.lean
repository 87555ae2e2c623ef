-- Written by wip/myprint.py (this session's own driver); Lean checks it.
import Derived.Test.YtloclimoffhbhaaDoorPAllx0
import Derived.Test.YtloclimoffhbhaaDoorPAllx89
namespace Go.Proofs.YtloclimoffhbhaaDoor.PAll
open Go.RowKit Go.Proofs.YtloclimoffhbhaaDoorW.PrintWords Go.Proofs.YtloclimoffhbhaaDoorW.PrintLast Go.Proofs.YtloclimoffhbhaaDoorW.PrintMore
attribute [local go_sem] max2_int min2_int max_two min_two max_three min_three max_four min_four   -- for this text's walks alone
set_option linter.unusedVariables false
set_option linter.unusedSimpArgs false

/-! ### hdr_With: function 41 -/
def hdr_With.j0 : Nat → Int → Bool → Int → Int → Int → Int → Int → Option (Int × Int × Int × Int × Int)
  | 0, _, _, _, _, _, _, _ => none
  | k + 1, x1, x19, x509000, x509001, x509002, x509003, x509004 => if x19 = true then (some (x509000, x509001, x509002, x509003, x509004)) else (if x1 < 32 then (if 0 ≤ (wrap64 (31 - x1)) then (some (Go.bits .xor .u32 x509000 (shl .u32 1 (wrap64 (31 - x1))), x509001, x509002, x509003, x509004)) else (none)) else (if x1 < 64 then (if 0 ≤ (wrap64 (31 - (wrap64 (x1 - 32)))) then (some (x509000, Go.bits .xor .u32 x509001 (shl .u32 1 (wrap64 (31 - (wrap64 (x1 - 32))))), x509002, x509003, x509004)) else (none)) else (if x1 < 72 then (if 0 ≤ (wrap64 (7 - (wrap64 (x1 - 64)))) then (some (x509000, x509001, Go.bits .xor .u8 x509002 (shl .u8 1 (wrap64 (7 - (wrap64 (x1 - 64))))), x509003, x509004)) else (none)) else (if x1 < 88 then (if 0 ≤ (wrap64 (15 - (wrap64 (x1 - 72)))) then (some (x509000, x509001, x509002, Go.bits .xor .u16 x509003 (shl .u16 1 (wrap64 (15 - (wrap64 (x1 - 72))))), x509004)) else (none)) else (if 0 ≤ (wrap64 (15 - (wrap64 (x1 - 88)))) then (some (x509000, x509001, x509002, x509003, Go.bits .xor .u16 x509004 (shl .u16 1 (wrap64 (15 - (wrap64 (x1 - 88))))))) else (none))))))
def hdr_With.f (k : Nat) (a0_0 : Int) (a0_1 : Int) (a0_2 : Int) (a0_3 : Int) (a0_4 : Int) (a1 : Int) (a2 : Bool) : Option (Int × Int × Int × Int × Int) := if a1 < 0 then (hdr_With.j0 k a1 true a0_0 a0_1 a0_2 a0_3 a0_4) else (if a1 ≥ 104 then (hdr_With.j0 k a1 true a0_0 a0_1 a0_2 a0_3 a0_4) else ((hdr_Bit.f k a0_0 a0_1 a0_2 a0_3 a0_4 a1).bind fun t510 => (hdr_With.j0 k a1 (t510 == a2) a0_0 a0_1 a0_2 a0_3 a0_4)))
theorem hdr_With.mono_l : ∀ k, (∀ y0 y1 y2 y3 y4 y5 y6, LeO (hdr_With.j0 k y0 y1 y2 y3 y4 y5 y6) (hdr_With.j0 (k + 1) y0 y1 y2 y3 y4 y5 y6))
  | 0 => fun _ _ _ _ _ _ _ r h => by simp [hdr_With.j0] at h
  | k + 1 => by
    have ih0 := hdr_With.mono_l k
    · intro y0 y1 y2 y3 y4 y5 y6
      unfold hdr_With.j0
      repeat' first
      | (with_reducible exact ih0 _ _ _ _ _ _ _)
      | (with_reducible exact hdr_Bit.mono _ _ _ _ _ _ _)
      | (with_reducible exact LeO.refl _)
      | (with_reducible exact LeO.none _)
      | (with_reducible refine LeO.ite ?_ ?_)
      | (with_reducible refine LeO.bind ?_ (fun _ => ?_))
      | exact ih0 _ _ _ _ _ _ _
      | exact hdr_Bit.mono _ _ _ _ _ _ _
      | exact LeO.none _
      | refine LeO.ite ?_ ?_
      | refine LeO.bind ?_ (fun _ => ?_)
theorem hdr_With.mono : ∀ a0 a1 a2 a3 a4 a5 a6 k, LeO (hdr_With.f k a0 a1 a2 a3 a4 a5 a6) (hdr_With.f (k + 1) a0 a1 a2 a3 a4 a5 a6) := by
  intro a0 a1 a2 a3 a4 a5 a6 k
  have ih0 := hdr_With.mono_l k
  unfold hdr_With.f
  repeat' first
      | (with_reducible exact ih0 _ _ _ _ _ _ _)
      | (with_reducible exact hdr_Bit.mono _ _ _ _ _ _ _)
      | (with_reducible exact LeO.refl _)
      | (with_reducible exact LeO.none _)
      | (with_reducible refine LeO.ite ?_ ?_)
      | (with_reducible refine LeO.bind ?_ (fun _ => ?_))
      | exact ih0 _ _ _ _ _ _ _
      | exact hdr_Bit.mono _ _ _ _ _ _ _
      | exact LeO.none _
      | refine LeO.ite ?_ ?_
      | refine LeO.bind ?_ (fun _ => ?_)
def hdr_With.T3 : Bool × List (List Nat × List Nat) := (true, [([], []), ([0], [0]), ([], []), ([2], [2]), ([3], [3]), ([4], [4]), ([1, 5], [1, 5]), ([0, 1, 2, 3, 4, 5, 6], []), ([7, 6, 0, 1, 2, 3, 4, 5, 6], [6, 7])])
def hdr_With.B3 : List Nat := [0, 1, 0, 4, 12, 28, 63, 127, 255]
theorem hdr_With.tab3 : rtab .any (opsOf Tryd.f41 3) = hdr_With.T3 := by kernel_rfl
theorem hdr_With.bits3 : waitsOk hdr_With.T3.2 hdr_With.B3 = true := by kernel_rfl
def hdr_With.T5 : Bool × List (List Nat × List Nat) := (true, [([], []), ([0], [0]), ([], []), ([2], [2]), ([3], [3]), ([1, 4], [1, 4]), ([0, 1, 2, 3, 4, 5], []), ([6, 5, 0, 1, 2, 3, 4, 5], [5, 6])])
def hdr_With.B5 : List Nat := [0, 1, 0, 4, 12, 31, 63, 127]
theorem hdr_With.tab5 : rtab .any (opsOf Tryd.f41 5) = hdr_With.T5 := by kernel_rfl
theorem hdr_With.bits5 : waitsOk hdr_With.T5.2 hdr_With.B5 = true := by kernel_rfl
def hdr_With.T7 : Bool × List (List Nat × List Nat) := (true, [([], []), ([0], [0]), ([], []), ([2], [2]), ([3], [3]), ([4], [4]), ([1, 5], [1, 5]), ([0, 1, 2, 3, 4, 5, 6], []), ([7, 6, 0, 1, 2, 3, 4, 5, 6], [6, 7])])
def hdr_With.B7 : List Nat := [0, 1, 0, 4, 12, 28, 63, 127, 255]
theorem hdr_With.tab7 : rtab .any (opsOf Tryd.f41 7) = hdr_With.T7 := by kernel_rfl
theorem hdr_With.bits7 : waitsOk hdr_With.T7.2 hdr_With.B7 = true := by kernel_rfl
def hdr_With.T9 : Bool × List (List Nat × List Nat) := (true, [([], []), ([0], [0]), ([], []), ([2], [2]), ([3], [3]), ([4], [4]), ([1, 5], [1, 5]), ([0, 1, 2, 3, 4, 5, 6], []), ([7, 6, 0, 1, 2, 3, 4, 5, 6], [6, 7])])
def hdr_With.B9 : List Nat := [0, 1, 0, 4, 12, 28, 63, 127, 255]
theorem hdr_With.tab9 : rtab .any (opsOf Tryd.f41 9) = hdr_With.T9 := by kernel_rfl
theorem hdr_With.bits9 : waitsOk hdr_With.T9.2 hdr_With.B9 = true := by kernel_rfl
def hdr_With.T11 : Bool × List (List Nat × List Nat) := (true, [([], []), ([0], [0]), ([], []), ([2], [2]), ([3], [3]), ([4], [4]), ([1, 5], [1, 5]), ([0, 1, 2, 3, 4, 5, 6], []), ([7, 6, 0, 1, 2, 3, 4, 5, 6], [6, 7])])
def hdr_With.B11 : List Nat := [0, 1, 0, 4, 12, 28, 63, 127, 255]
theorem hdr_With.tab11 : rtab .any (opsOf Tryd.f41 11) = hdr_With.T11 := by kernel_rfl
theorem hdr_With.bits11 : waitsOk hdr_With.T11.2 hdr_With.B11 = true := by kernel_rfl
set_option maxHeartbeats 8000000 in
set_option maxRecDepth 100000 in
theorem hdr_With.calls (k : Nat) (a0_0 : Int) (a0_1 : Int) (a0_2 : Int) (a0_3 : Int) (a0_4 : Int) (a1 : Int) (a2 : Bool) (r1 : Int) (r2 : Int) (r3 : Int) (r4 : Int) (r5 : Int) (w : World) (h : hdr_With.f k a0_0 a0_1 a0_2 a0_3 a0_4 a1 a2 = some (r1, r2, r3, r4, r5)) :
    Calls Tryd.prog 41 #[.agg #[.int .u32 a0_0, .int .u32 a0_1, .int .u8 a0_2, .int .u16 a0_3, .int .u16 a0_4], .int .i64 a1, .bool a2] w fun e w' => e = .returned (.agg #[.int .u32 r1, .int .u32 r2, .int .u8 r3, .int .u16 r4, .int .u16 r5]) ∧ Below w.heap.size w w' := by
  have hu67 := Tryd.underlying67
  have HB := Aside0.mk (Below.refl w.heap.size w)
  have H : (if a1 < 0 then (hdr_With.j0 k a1 true a0_0 a0_1 a0_2 a0_3 a0_4) else (if a1 ≥ 104 then (hdr_With.j0 k a1 true a0_0 a0_1 a0_2 a0_3 a0_4) else ((hdr_Bit.f k a0_0 a0_1 a0_2 a0_3 a0_4 a1).bind fun t510 => (hdr_With.j0 k a1 (t510 == a2) a0_0 a0_1 a0_2 a0_3 a0_4)))) = some (r1, r2, r3, r4, r5) := h
  clear h
  have HC4 := Aside0.mk H
  clear H
  go_enter Tryd.func41, Tryd.ntmps41
  go_upto_region 1 with (first | ((with_reducible refine gate_dst (N := 3) rfl ?_); refine box_event ?hg (N := 3) ?hd (cs := #[.int .u32 a0_0, .int .u32 a0_1, .int .u8 a0_2, .int .u16 a0_3, .int .u16 a0_4]) (t := 67) ?hr ?_; (case hd => rfl); (case hg => rfl); (case hr => first | (go_simp; done) | (go_simp; rfl)); intro gb508 hg w5 hbox hb; have n0_ := Aside0.mk (below_step (by repeat (first | (with_reducible first | exact HB.out | apply below_alloc | apply pw_below_drewN | apply below_drew1) | exact HB.out)) hb); have n1_ := Aside0.mk (hbox); have n2_ := Aside0.mk ((by rw [hg]; exact (below_size (by repeat (first | (with_reducible first | exact HB.out | apply below_alloc | apply pw_below_drewN | apply below_drew1) | exact HB.out))) : w.heap.size ≤ gb508)); have n3_ := Aside0.mk ((by rw [hg]; exact (below_size (by repeat (first | (with_reducible first | exact HB.out | apply below_alloc | apply pw_below_drewN | apply below_drew1) | exact HB.out))) : w.heap.size ≤ gb508)); clear HB; have HB := n0_; have BK508 := n1_; have GW508 := n2_; have GE508 := n3_; clear n0_ n1_ n2_ n3_; clear hb hbox hg) | ((with_reducible refine gate_dst (N := 6) rfl ?_); refine box_event ?hg (N := 6) ?hd (cs := #[.int .u32 0, .int .u32 0, .int .u8 0, .int .u16 0, .int .u16 0]) (t := 67) ?hr ?_; (case hd => rfl); (case hg => rfl); (case hr => first | (go_simp; done) | (go_simp; rfl)); intro gb509 hg w6 hbox hb; have n0_ := Aside0.mk (blk_below (g := gb508) (o := .cells #[.int .u32 a0_0, .int .u32 a0_1, .int .u8 a0_2, .int .u16 a0_3, .int .u16 a0_4] 67 (0, 0)) (by (with_reducible repeat (first | refine blk_drewN ?_ _ | refine blk_drew ?_ | refine blk_alloc ?_ _)); exact BK508.out) hb); have n1_ := Aside0.mk (below_step (by repeat (first | (with_reducible first | exact HB.out | apply below_alloc | apply pw_below_drewN | apply below_drew1 | refine below_set ?_ GE508.out) | exact HB.out)) hb); have n2_ := Aside0.mk (hbox); have n3_ := Aside0.mk ((by rw [hg]; exact (below_size (by repeat (first | (with_reducible first | exact HB.out | apply below_alloc | apply pw_below_drewN | apply below_drew1 | refine below_set ?_ GE508.out) | exact HB.out))) : w.heap.size ≤ gb509)); have n4_ := Aside0.mk ((by rw [hg]; exact (below_size (by repeat (first | (with_reducible first | exact HB.out | apply below_alloc | apply pw_below_drewN | apply below_drew1 | refine below_set ?_ GE508.out) | exact HB.out))) : w.heap.size ≤ gb509)); have n5_ := Aside0.mk ((by rw [hg]; exact Nat.ne_of_lt (blk_lt (g := gb508) (o := .cells #[.int .u32 a0_0, .int .u32 a0_1, .int .u8 a0_2, .int .u16 a0_3, .int .u16 a0_4] 67 (0, 0)) (by (with_reducible repeat (first | refine blk_drewN ?_ _ | refine blk_drew ?_ | refine blk_alloc ?_ _)); exact BK508.out)) : gb508 ≠ gb509)); have n6_ := Aside0.mk ((by rw [hg]; exact Nat.ne_of_gt (blk_lt (g := gb508) (o := .cells #[.int .u32 a0_0, .int .u32 a0_1, .int .u8 a0_2, .int .u16 a0_3, .int .u16 a0_4] 67 (0, 0)) (by (with_reducible repeat (first | refine blk_drewN ?_ _ | refine blk_drew ?_ | refine blk_alloc ?_ _)); exact BK508.out)) : gb509 ≠ gb508)); clear BK508; clear HB; have BK508 := n0_; have HB := n1_; have BK509 := n2_; have GW509 := n3_; have GE509 := n4_; have NB508_509 := n5_; have NB509_508 := n6_; clear n0_ n1_ n2_ n3_ n4_ n5_ n6_; clear hb hbox hg))
  (try simp only [Act.put, List.setIfInBounds_toArray, List.set_cons_zero, List.set_cons_succ])
  go_cut [19] (fun v19 wc => ∃ (kq : Nat) (x19_3 : Bool), v19 = .bool x19_3 ∧ Aside0 (hdr_With.j0 kq a1 x19_3 a0_0 a0_1 a0_2 a0_3 a0_4 = some (r1, r2, r3, r4, r5)) ∧ Aside0 (kq ≤ k) ∧ Aside0 (wc.heap[gb508]? = some (.cells #[.int .u32 a0_0, .int .u32 a0_1, .int .u8 a0_2, .int .u16 a0_3, .int .u16 a0_4] 67 (0, 0))) ∧ Aside0 (wc.heap[gb509]? = some (.cells #[.int .u32 0, .int .u32 0, .int .u8 0, .int .u16 0, .int .u16 0] 67 (0, 0))) ∧ Aside0 (Below w.heap.size w wc))
  case first =>
    have H := HC4.out
    clear HC4
    by_cases c7 : a1 < 0
    · rw [if_pos c7] at H
      have c7b0 : decide (a1 < 0) = true := decide_eq_true c7
      clear c7
      (first | rw [c7b0] | (simp only [i64_w, i32_w]; rw [c7b0]) | skip)
      have H' := Aside0.mk H
      clear H
      go_wp2
      go_meet
      case rel => exact ⟨_, (true), (by first | rfl | (simp; done) | (simp [*]; done)), H', ⟨by first | omega | exact Nat.le_refl _⟩, ⟨by (with_reducible repeat (first | refine blk_drewN ?_ _ | refine blk_drew ?_ | refine blk_alloc ?_ _)); exact BK508.out⟩, ⟨by (with_reducible repeat (first | refine blk_drewN ?_ _ | refine blk_drew ?_ | refine blk_alloc ?_ _)); exact BK509.out⟩, ⟨by repeat (first | (with_reducible first | exact HB.out | apply below_alloc | apply pw_below_drewN | apply below_drew1 | refine below_set ?_ GE508.out | refine below_set ?_ GE509.out) | exact HB.out)⟩⟩
    · rw [if_neg c7] at H
      have c7b0 : decide (a1 < 0) = false := decide_eq_false c7
      clear c7
      (first | rw [c7b0] | (simp only [i64_w, i32_w]; rw [c7b0]) | skip)
      by_cases c8 : a1 ≥ 104
      · rw [if_pos c8] at H
        have c8b0 : decide (104 ≤ a1) = true := decide_eq_true c8
        clear c8
        have H' := Aside0.mk H
        clear H
        go_wp2
        go_meet
        case rel => exact ⟨_, (true), (by first | rfl | (simp; done) | (simp [*]; done)), H', ⟨by first | omega | exact Nat.le_refl _⟩, ⟨by (with_reducible repeat (first | refine blk_drewN ?_ _ | refine blk_drew ?_ | refine blk_alloc ?_ _)); exact BK508.out⟩, ⟨by (with_reducible repeat (first | refine blk_drewN ?_ _ | refine blk_drew ?_ | refine blk_alloc ?_ _)); exact BK509.out⟩, ⟨by repeat (first | (with_reducible first | exact HB.out | apply below_alloc | apply pw_below_drewN | apply below_drew1 | refine below_set ?_ GE508.out | refine below_set ?_ GE509.out) | exact HB.out)⟩⟩
      · rw [if_neg c8] at H
        have c8b0 : decide (104 ≤ a1) = false := decide_eq_false c8
        clear c8
        replace H := Option.bind_eq_some_iff.mp H
        obtain ⟨t510, A90, H⟩ := H
        replace H : (hdr_With.j0 k a1 (t510 == a2) a0_0 a0_1 a0_2 a0_3 a0_4) = some (r1, r2, r3, r4, r5) := H
        have A9 := Aside0.mk A90
        clear A90
        have H' := Aside0.mk H
        clear H
        have hnb10 := NB508_509.out
        have hnc10 := NB509_508.out
        have hcz11_0 : w6.cell? ⟨gb508, 0, none⟩ = some (.int .u32 a0_0) := (blk_cell BK508.out 0).trans rfl
        have hcz11_1 : w6.cell? ⟨gb508, 1, none⟩ = some (.int .u32 a0_1) := (blk_cell BK508.out 1).trans rfl
        have hcz11_2 : w6.cell? ⟨gb508, 2, none⟩ = some (.int .u8 a0_2) := (blk_cell BK508.out 2).trans rfl
        have hcz11_3 : w6.cell? ⟨gb508, 3, none⟩ = some (.int .u16 a0_3) := (blk_cell BK508.out 3).trans rfl
        have hcz11_4 : w6.cell? ⟨gb508, 4, none⟩ = some (.int .u16 a0_4) := (blk_cell BK508.out 4).trans rfl
        have hfz11_0 := blk_frozen BK508.out 0
        have hfz11_1 := blk_frozen BK508.out 1
        have hfz11_2 := blk_frozen BK508.out 2
        have hfz11_3 := blk_frozen BK508.out 3
        have hfz11_4 := blk_frozen BK508.out 4
        go_wp2_with (first | (go_at_call 38; (with_reducible refine (hdr_Bit.calls k a0_0 a0_1 a0_2 a0_3 a0_4 a1 t510 _ A9.out).mono ?_); rintro e w12 ⟨rfl, hb⟩; have n0_ := Aside0.mk (blk_below (g := gb508) (o := .cells #[.int .u32 a0_0, .int .u32 a0_1, .int .u8 a0_2, .int .u16 a0_3, .int .u16 a0_4] 67 (0, 0)) (by (with_reducible repeat (first | refine blk_drewN ?_ _ | refine blk_drew ?_ | refine blk_alloc ?_ _)); exact BK508.out) hb); have n1_ := Aside0.mk (blk_below (g := gb509) (o := .cells #[.int .u32 0, .int .u32 0, .int .u8 0, .int .u16 0, .int .u16 0] 67 (0, 0)) (by (with_reducible repeat (first | refine blk_drewN ?_ _ | refine blk_drew ?_ | refine blk_alloc ?_ _)); exact BK509.out) hb); have n2_ := Aside0.mk (below_step (by repeat (first | (with_reducible first | exact HB.out | apply below_alloc | apply pw_below_drewN | apply below_drew1 | refine below_set ?_ GE508.out | refine below_set ?_ GE509.out) | exact HB.out)) hb); clear BK508; clear BK509; clear HB; have BK508 := n0_; have BK509 := n1_; have HB := n2_; clear n0_ n1_ n2_; (try clear hb); (try clear hb2); (try clear hk); (try clear hi)))
        go_meet
        case rel => exact ⟨_, ((t510 == a2)), (by first | rfl | (simp; done) | (simp [*]; done)), H', ⟨by first | omega | exact Nat.le_refl _⟩, ⟨by (with_reducible repeat (first | refine blk_drewN ?_ _ | refine blk_drew ?_ | refine blk_alloc ?_ _)); exact BK508.out⟩, ⟨by (with_reducible repeat (first | refine blk_drewN ?_ _ | refine blk_drew ?_ | refine blk_alloc ?_ _)); exact BK509.out⟩, ⟨by repeat (first | (with_reducible first | exact HB.out | apply below_alloc | apply pw_below_drewN | apply below_drew1 | refine below_set ?_ GE508.out | refine below_set ?_ GE509.out) | exact HB.out)⟩⟩
  case rest =>
    clear HC4
    try clear c1
    try clear p2
    try clear c4
    try clear c7
    try clear c7b0
    try clear c8
    try clear c8b0
    try clear c10
    try clear hcz11_0
    try clear hcz11_1
    try clear hcz11_2
    try clear hcz11_3
    try clear hcz11_4
    try clear hfz11_0
    try clear hfz11_1
    try clear hfz11_2
    try clear hfz11_3
    try clear hfz11_4
    obtain ⟨kq, x19_3, rfl, HA, HJ3, BK508, BK509, HB⟩ := hcut
    cases kq with
    | zero => exact absurd HA.out (by simp [hdr_With.j0])
    | succ kj3 =>
      have H := HA.out
      clear HA
      simp only [hdr_With.j0] at H
      by_cases c13 : x19_3 = true
      · subst c13
        have H1 : (some (a0_0, a0_1, a0_2, a0_3, a0_4)) = some (r1, r2, r3, r4, r5) := by rw [if_pos rfl] at H; exact H
        clear H
        have H := H1
        clear H1
        simp only [Option.some.injEq, Prod.mk.injEq] at H
        obtain ⟨rfl, rfl, rfl, rfl, rfl⟩ := H
        have hnb14 := NB508_509.out
        have hnc14 := NB509_508.out
        have hcz15_0 : wc.cell? ⟨gb508, 0, none⟩ = some (.int .u32 a0_0) := (blk_cell BK508.out 0).trans rfl
        have hcz15_1 : wc.cell? ⟨gb508, 1, none⟩ = some (.int .u32 a0_1) := (blk_cell BK508.out 1).trans rfl
        have hcz15_2 : wc.cell? ⟨gb508, 2, none⟩ = some (.int .u8 a0_2) := (blk_cell BK508.out 2).trans rfl
        have hcz15_3 : wc.cell? ⟨gb508, 3, none⟩ = some (.int .u16 a0_3) := (blk_cell BK508.out 3).trans rfl
        have hcz15_4 : wc.cell? ⟨gb508, 4, none⟩ = some (.int .u16 a0_4) := (blk_cell BK508.out 4).trans rfl
        have hfz15_0 := blk_frozen BK508.out 0
        have hfz15_1 := blk_frozen BK508.out 1
        have hfz15_2 := blk_frozen BK508.out 2
        have hfz15_3 := blk_frozen BK508.out 3
        have hfz15_4 := blk_frozen BK508.out 4
        have hcz16_0 : wc.cell? ⟨gb509, 0, none⟩ = some (.int .u32 0) := (blk_cell BK509.out 0).trans rfl
        have hcz16_1 : wc.cell? ⟨gb509, 1, none⟩ = some (.int .u32 0) := (blk_cell BK509.out 1).trans rfl
        have hcz16_2 : wc.cell? ⟨gb509, 2, none⟩ = some (.int .u8 0) := (blk_cell BK509.out 2).trans rfl
        have hcz16_3 : wc.cell? ⟨gb509, 3, none⟩ = some (.int .u16 0) := (blk_cell BK509.out 3).trans rfl
        have hcz16_4 : wc.cell? ⟨gb509, 4, none⟩ = some (.int .u16 0) := (blk_cell BK509.out 4).trans rfl
        have hfz16_0 := blk_frozen BK509.out 0
        have hfz16_1 := blk_frozen BK509.out 1
        have hfz16_2 := blk_frozen BK509.out 2
        have hfz16_3 := blk_frozen BK509.out 3
        have hfz16_4 := blk_frozen BK509.out 4
        go_wp2
        refine bodyPost_ret (results_cell_row rfl _ _ gb509 67 #[.int .u32 a0_0, .int .u32 a0_1, .int .u8 a0_2, .int .u16 a0_3, .int .u16 a0_4] (0, 0) _ rfl (by (with_reducible repeat (first | refine blk_drewN ?_ _ | refine blk_drew ?_ | refine blk_alloc ?_ _)); refine blk_put (cs := #[.int .u32 a0_0, .int .u32 a0_1, .int .u8 a0_2, .int .u16 a0_3, .int .u16 0]) ?_ 4 _ rfl; (with_reducible repeat (first | refine blk_drewN ?_ _ | refine blk_drew ?_ | refine blk_alloc ?_ _)); refine blk_put (cs := #[.int .u32 a0_0, .int .u32 a0_1, .int .u8 a0_2, .int .u16 0, .int .u16 0]) ?_ 3 _ rfl; (with_reducible repeat (first | refine blk_drewN ?_ _ | refine blk_drew ?_ | refine blk_alloc ?_ _)); refine blk_put (cs := #[.int .u32 a0_0, .int .u32 a0_1, .int .u8 0, .int .u16 0, .int .u16 0]) ?_ 2 _ rfl; (with_reducible repeat (first | refine blk_drewN ?_ _ | refine blk_drew ?_ | refine blk_alloc ?_ _)); refine blk_put (cs := #[.int .u32 a0_0, .int .u32 0, .int .u8 0, .int .u16 0, .int .u16 0]) ?_ 1 _ rfl; (with_reducible repeat (first | refine blk_drewN ?_ _ | refine blk_drew ?_ | refine blk_alloc ?_ _)); refine blk_put (cs := #[.int .u32 0, .int .u32 0, .int .u8 0, .int .u16 0, .int .u16 0]) ?_ 0 _ rfl; (with_reducible repeat (first | refine blk_drewN ?_ _ | refine blk_drew ?_ | refine blk_alloc ?_ _)); exact BK509.out) Tryd.underlying67 rfl (by kernel_rfl)) rfl ?_
        exact ⟨by first | rfl | (simp [errW_none, errW_some] <;> rfl) | (simp [*, errW_none, errW_some] <;> rfl), by repeat (first | (with_reducible first | exact HB.out | apply below_alloc | apply pw_below_drewN | apply below_drew1 | refine below_set ?_ GE508.out | refine below_set ?_ GE509.out) | exact HB.out)⟩
      · replace c13 := Bool.eq_false_iff.mpr c13
        subst c13
        have H1 : (if a1 < 32 then (if 0 ≤ (wrap64 (31 - a1)) then (some (Go.bits .xor .u32 a0_0 (shl .u32 1 (wrap64 (31 - a1))), a0_1, a0_2, a0_3, a0_4)) else (none)) else (if a1 < 64 then (if 0 ≤ (wrap64 (31 - (wrap64 (a1 - 32)))) then (some (a0_0, Go.bits .xor .u32 a0_1 (shl .u32 1 (wrap64 (31 - (wrap64 (a1 - 32))))), a0_2, a0_3, a0_4)) else (none)) else (if a1 < 72 then (if 0 ≤ (wrap64 (7 - (wrap64 (a1 - 64)))) then (some (a0_0, a0_1, Go.bits .xor .u8 a0_2 (shl .u8 1 (wrap64 (7 - (wrap64 (a1 - 64))))), a0_3, a0_4)) else (none)) else (if a1 < 88 then (if 0 ≤ (wrap64 (15 - (wrap64 (a1 - 72)))) then (some (a0_0, a0_1, a0_2, Go.bits .xor .u16 a0_3 (shl .u16 1 (wrap64 (15 - (wrap64 (a1 - 72))))), a0_4)) else (none)) else (if 0 ≤ (wrap64 (15 - (wrap64 (a1 - 88)))) then (some (a0_0, a0_1, a0_2, a0_3, Go.bits .xor .u16 a0_4 (shl .u16 1 (wrap64 (15 - (wrap64 (a1 - 88))))))) else (none)))))) = some (r1, r2, r3, r4, r5) := by rw [if_neg (show ¬ (false = true) by decide)] at H; exact H
        clear H
        have H := H1
        clear H1
        by_cases c17 : a1 < 32
        · rw [if_pos c17] at H
          have c17b0 : decide (a1 < 32) = true := decide_eq_true c17
          clear c17
          obtain ⟨ji18, hji18⟩ : ∃ j_ : Int, (wrap64 (31 - a1)) = j_ := ⟨_, rfl⟩
          replace H : (if 0 ≤ (ji18) then (some (Go.bits .xor .u32 a0_0 (shl .u32 1 (ji18)), a0_1, a0_2, a0_3, a0_4)) else (none)) = some (r1, r2, r3, r4, r5) := by first | (rw [hji18] at H; exact H) | (simp only [hji18] at H ⊢; exact H)
          have hji18w : (IntKind.i64.wrap (31 - a1)) = ji18 := (i64_w _).trans hji18
          by_cases c19 : 0 ≤ (ji18)
          · rw [if_pos c19] at H
            have c19b0 := eq_true c19
            have c19b1 : decide (0 ≤ (ji18)) = true := decide_eq_true c19
            clear c19
            obtain ⟨ji20, hji20⟩ : ∃ j_ : Int, (shl .u32 1 (ji18)) = j_ := ⟨_, rfl⟩
            replace H : (some (Go.bits .xor .u32 a0_0 (ji20), a0_1, a0_2, a0_3, a0_4)) = some (r1, r2, r3, r4, r5) := by first | (rw [hji20] at H; exact H) | (simp only [hji20] at H ⊢; exact H)
            have hji20_ : (IntKind.u32.wrap (1 * 2 ^ min (ji18).toNat 32)) = ji20 := hji20
            have hji20z : (ji18) ≤ 32 → (IntKind.u32.wrap (1 * 2 ^ (ji18).toNat)) = ji20 := shl_small hji20
            have hji20u : (IntKind.u32.wrap (2 ^ min (ji18).toNat 32)) = ji20 := by have h_ := hji20_; rw [Int.one_mul] at h_; exact h_
            have hji20v : (ji18) ≤ 32 → (IntKind.u32.wrap (2 ^ (ji18).toNat)) = ji20 := fun hle_ => by have h_ := hji20z hle_; rw [Int.one_mul] at h_; exact h_
            simp only [Option.some.injEq, Prod.mk.injEq] at H
            obtain ⟨rfl, rfl, rfl, rfl, rfl⟩ := H
            try go_wp2
            have n0_ := Aside0.mk (blk_drew BK508.out)
            have n1_ := Aside0.mk (blk_drew BK509.out)
            have n2_ := Aside0.mk (below_drew1 HB.out)
            clear BK508
            clear BK509
            clear HB
            have BK508 := n0_
            have BK509 := n1_
            have HB := n2_
            clear n0_ n1_ n2_
            refine start_ (n := 8) (S := fun w' => w'.cell? ⟨gb508, 0, none⟩ = some (.int .u32 a0_0) ∧ w'.cell? ⟨gb508, 1, none⟩ = some (.int .u32 a0_1) ∧ w'.cell? ⟨gb508, 2, none⟩ = some (.int .u8 a0_2) ∧ w'.cell? ⟨gb508, 3, none⟩ = some (.int .u16 a0_3) ∧ w'.cell? ⟨gb508, 4, none⟩ = some (.int .u16 a0_4)) (ds := [7]) #[false, false, false, false, false, false, false, false] (by kernel_rfl) rfl rfl ⟨(blk_cell BK508.out 0).trans rfl, (blk_cell BK508.out 1).trans rfl, (blk_cell BK508.out 2).trans rfl, (blk_cell BK508.out 3).trans rfl, (blk_cell BK508.out 4).trans rfl⟩ (fun hHeld => ?_); refine with_tabW hdr_With.tab5 hdr_With.bits5 (fun HT_ HW_ => ?_)
            generalize wc.drew = w21 at BK508 BK509 HB hHeld ⊢
            refine pure_ (i := 0) (N := some 32) (v := ?_) (a' := ?_) #[true, false, false, false, false, false, false, false] rfl rfl (any_of HT_.out (by kernel_rfl)) (fun _ _ _ h => h) (Or.inl ⟨by rfl, ?_⟩) ?_ ?_
            rotate_left
            · intro w'
              go_simp
              with_reducible rfl
            rotate_left
            · simp only [Act.put, List.setIfInBounds_toArray, List.set_cons_zero, List.set_cons_succ, i64_w, i32_w]
              rfl
            refine pure_ (i := 2) (N := some 34) (v := ?_) (a' := ?_) #[true, false, true, false, false, false, false, false] rfl rfl (any_of HT_.out (by kernel_rfl)) (fun _ _ _ h => h) (Or.inl ⟨by rfl, ?_⟩) ?_ ?_
            rotate_left
            · intro w'
              go_simp
              with_reducible rfl
            rotate_left
            · simp only [Act.put, List.setIfInBounds_toArray, List.set_cons_zero, List.set_cons_succ, i64_w, i32_w]
              rfl
            refine pure_ (i := 3) (N := some 35) (v := ?_) (a' := ?_) #[true, false, true, true, false, false, false, false] rfl rfl (any_of HT_.out (by kernel_rfl)) (fun _ _ _ h => h) (Or.inl ⟨by rfl, ?_⟩) ?_ ?_
            rotate_left
            · intro w'
              go_simp
              with_reducible rfl
            rotate_left
            · simp only [Act.put, List.setIfInBounds_toArray, List.set_cons_zero, List.set_cons_succ, i64_w, i32_w]
              rfl
            refine pure_ (i := 4) (N := some 36) (v := ?_) (a' := ?_) #[true, false, true, true, true, false, false, false] rfl rfl (any_of HT_.out (by kernel_rfl)) (fun _ _ _ h => h) (Or.inl ⟨by rfl, ?_⟩) ?_ ?_
            rotate_left
            · intro w'
              go_simp
              with_reducible rfl
            rotate_left
            · simp only [Act.put, List.setIfInBounds_toArray, List.set_cons_zero, List.set_cons_succ, i64_w, i32_w]
              rfl
            refine take_ (i := 1) (N := some 33) (v := ?_) (a' := ?_) #[true, true, true, true, true, false, false, false] rfl rfl (take_ofW HT_.out HW_.out (by kernel_rfl)) (fun _ _ _ h => h) (Or.inl ⟨by rfl, ?_⟩) hHeld ?_ ?_
            rotate_left
            · rintro w' ⟨s0, s1, s2, s3, s4⟩
              go_simp
              with_reducible rfl
            rotate_left
            · simp only [Act.put, List.setIfInBounds_toArray, List.set_cons_zero, List.set_cons_succ, i64_w, i32_w]
              rfl
            refine pure_ (i := 5) (N := some 37) (v := ?_) (a' := ?_) #[true, true, true, true, true, true, false, false] rfl rfl (any_of HT_.out (by kernel_rfl)) (fun _ _ _ h => h) (Or.inl ⟨by rfl, ?_⟩) ?_ ?_
            rotate_left
            · intro w'
              go_simp
              with_reducible rfl
            rotate_left
            · simp only [Act.put, List.setIfInBounds_toArray, List.set_cons_zero, List.set_cons_succ, i64_w, i32_w]
              rfl
            refine pure_ (i := 6) (N := some 38) (v := ?_) (a' := ?_) #[true, true, true, true, true, true, true, false] rfl rfl (any_of HT_.out (by kernel_rfl)) (fun _ _ _ h => h) (Or.inl ⟨by rfl, ?_⟩) ?_ ?_
            rotate_left
            · intro w'
              go_simp
              with_reducible rfl
            rotate_left
            · simp only [Act.put, List.setIfInBounds_toArray, List.set_cons_zero, List.set_cons_succ, i64_w, i32_w]
              rfl
            refine last_ (i := 7) (N := none) #[true, true, true, true, true, true, true, true] rfl rfl (one_of HT_.out (by kernel_rfl)) (by decide) (fun K hK => ?_)
            have hs22 : w21.cell? ⟨gb508, 0, none⟩ = some (.int .u32 a0_0) := (blk_cell BK508.out 0).trans rfl
            have hfs22 := blk_frozen BK508.out 0
            have hns22_1 := NB509_508.out
            have hms22_1 := NB508_509.out
            refine skip_ (w1 := ?_) (by rfl) rfl ?_ ?_
            rotate_left
            · go_simp
              rfl
            refine hK.out _ _ ?_
            clear hK K
            refine done_ (done_of HT_.out (by kernel_rfl)) ?_
            have hnb23 := NB508_509.out
            have hnc23 := NB509_508.out
            have hcz24_0 : w21.cell? ⟨gb508, 0, none⟩ = some (.int .u32 a0_0) := (blk_cell BK508.out 0).trans rfl
            have hcz24_1 : w21.cell? ⟨gb508, 1, none⟩ = some (.int .u32 a0_1) := (blk_cell BK508.out 1).trans rfl
            have hcz24_2 : w21.cell? ⟨gb508, 2, none⟩ = some (.int .u8 a0_2) := (blk_cell BK508.out 2).trans rfl
            have hcz24_3 : w21.cell? ⟨gb508, 3, none⟩ = some (.int .u16 a0_3) := (blk_cell BK508.out 3).trans rfl
            have hcz24_4 : w21.cell? ⟨gb508, 4, none⟩ = some (.int .u16 a0_4) := (blk_cell BK508.out 4).trans rfl
            have hfz24_0 := blk_frozen BK508.out 0
            have hfz24_1 := blk_frozen BK508.out 1
            have hfz24_2 := blk_frozen BK508.out 2
            have hfz24_3 := blk_frozen BK508.out 3
            have hfz24_4 := blk_frozen BK508.out 4
            have hcz25_0 : w21.cell? ⟨gb509, 0, none⟩ = some (.int .u32 0) := (blk_cell BK509.out 0).trans rfl
            have hcz25_1 : w21.cell? ⟨gb509, 1, none⟩ = some (.int .u32 0) := (blk_cell BK509.out 1).trans rfl
            have hcz25_2 : w21.cell? ⟨gb509, 2, none⟩ = some (.int .u8 0) := (blk_cell BK509.out 2).trans rfl
            have hcz25_3 : w21.cell? ⟨gb509, 3, none⟩ = some (.int .u16 0) := (blk_cell BK509.out 3).trans rfl
            have hcz25_4 : w21.cell? ⟨gb509, 4, none⟩ = some (.int .u16 0) := (blk_cell BK509.out 4).trans rfl
            have hfz25_0 := blk_frozen BK509.out 0
            have hfz25_1 := blk_frozen BK509.out 1
            have hfz25_2 := blk_frozen BK509.out 2
            have hfz25_3 := blk_frozen BK509.out 3
            have hfz25_4 := blk_frozen BK509.out 4
            try go_wp2
            refine bodyPost_ret (results_cell_row rfl _ _ gb509 67 #[.int .u32 (Go.bits .xor .u32 a0_0 (ji20)), .int .u32 a0_1, .int .u8 a0_2, .int .u16 a0_3, .int .u16 a0_4] (0, 0) _ rfl (by (with_reducible repeat (first | refine blk_drewN ?_ _ | refine blk_drew ?_ | refine blk_alloc ?_ _)); refine blk_put (cs := #[.int .u32 (Go.bits .xor .u32 a0_0 (ji20)), .int .u32 a0_1, .int .u8 a0_2, .int .u16 a0_3, .int .u16 0]) ?_ 4 _ rfl; (with_reducible repeat (first | refine blk_drewN ?_ _ | refine blk_drew ?_ | refine blk_alloc ?_ _)); refine blk_put (cs := #[.int .u32 (Go.bits .xor .u32 a0_0 (ji20)), .int .u32 a0_1, .int .u8 a0_2, .int .u16 0, .int .u16 0]) ?_ 3 _ rfl; (with_reducible repeat (first | refine blk_drewN ?_ _ | refine blk_drew ?_ | refine blk_alloc ?_ _)); refine blk_put (cs := #[.int .u32 (Go.bits .xor .u32 a0_0 (ji20)), .int .u32 a0_1, .int .u8 0, .int .u16 0, .int .u16 0]) ?_ 2 _ rfl; (with_reducible repeat (first | refine blk_drewN ?_ _ | refine blk_drew ?_ | refine blk_alloc ?_ _)); refine blk_put (cs := #[.int .u32 (Go.bits .xor .u32 a0_0 (ji20)), .int .u32 0, .int .u8 0, .int .u16 0, .int .u16 0]) ?_ 1 _ rfl; (with_reducible repeat (first | refine blk_drewN ?_ _ | refine blk_drew ?_ | refine blk_alloc ?_ _)); refine blk_put (cs := #[.int .u32 0, .int .u32 0, .int .u8 0, .int .u16 0, .int .u16 0]) ?_ 0 _ rfl; (with_reducible repeat (first | refine blk_drewN ?_ _ | refine blk_drew ?_ | refine blk_alloc ?_ _)); refine blk_far ?_ NB509_508.out _; (with_reducible repeat (first | refine blk_drewN ?_ _ | refine blk_drew ?_ | refine blk_alloc ?_ _)); exact BK509.out) Tryd.underlying67 rfl (by kernel_rfl)) rfl ?_
            exact ⟨by first | rfl | (simp [errW_none, errW_some] <;> rfl) | (simp only [← hji18, ← hji20]; first | rfl | (simp [errW_none, errW_some] <;> rfl)) | (simp [*, errW_none, errW_some] <;> rfl), by repeat (first | (with_reducible first | exact HB.out | apply below_alloc | apply pw_below_drewN | apply below_drew1 | refine below_set ?_ GE508.out | refine below_set ?_ GE509.out) | exact HB.out)⟩
          · rw [if_neg c19] at H
            exact absurd H (by simp)
        · rw [if_neg c17] at H
          have c17b0 : decide (a1 < 32) = false := decide_eq_false c17
          clear c17
          by_cases c26 : a1 < 64
          · rw [if_pos c26] at H
            have c26b0 : decide (a1 < 64) = true := decide_eq_true c26
            clear c26
            obtain ⟨ji27, hji27⟩ : ∃ j_ : Int, (wrap64 (31 - (wrap64 (a1 - 32)))) = j_ := ⟨_, rfl⟩
            replace H : (if 0 ≤ (ji27) then (some (a0_0, Go.bits .xor .u32 a0_1 (shl .u32 1 (ji27)), a0_2, a0_3, a0_4)) else (none)) = some (r1, r2, r3, r4, r5) := by first | (rw [hji27] at H; exact H) | (simp only [hji27] at H ⊢; exact H)
            have hji27w : (IntKind.i64.wrap (31 - (wrap64 (a1 - 32)))) = ji27 := (i64_w _).trans hji27
            by_cases c28 : 0 ≤ (ji27)
            · rw [if_pos c28] at H
              have c28b0 := eq_true c28
              have c28b1 : decide (0 ≤ (ji27)) = true := decide_eq_true c28
              clear c28
              obtain ⟨ji29, hji29⟩ : ∃ j_ : Int, (shl .u32 1 (ji27)) = j_ := ⟨_, rfl⟩
              replace H : (some (a0_0, Go.bits .xor .u32 a0_1 (ji29), a0_2, a0_3, a0_4)) = some (r1, r2, r3, r4, r5) := by first | (rw [hji29] at H; exact H) | (simp only [hji29] at H ⊢; exact H)
              have hji29_ : (IntKind.u32.wrap (1 * 2 ^ min (ji27).toNat 32)) = ji29 := hji29
              have hji29z : (ji27) ≤ 32 → (IntKind.u32.wrap (1 * 2 ^ (ji27).toNat)) = ji29 := shl_small hji29
              have hji29u : (IntKind.u32.wrap (2 ^ min (ji27).toNat 32)) = ji29 := by have h_ := hji29_; rw [Int.one_mul] at h_; exact h_
              have hji29v : (ji27) ≤ 32 → (IntKind.u32.wrap (2 ^ (ji27).toNat)) = ji29 := fun hle_ => by have h_ := hji29z hle_; rw [Int.one_mul] at h_; exact h_
              simp only [Option.some.injEq, Prod.mk.injEq] at H
              obtain ⟨rfl, rfl, rfl, rfl, rfl⟩ := H
              try go_wp2
              have n0_ := Aside0.mk (blk_drew BK508.out)
              have n1_ := Aside0.mk (blk_drew BK509.out)
              have n2_ := Aside0.mk (below_drew1 HB.out)
              clear BK508
              clear BK509
              clear HB
              have BK508 := n0_
              have BK509 := n1_
              have HB := n2_
              clear n0_ n1_ n2_
              refine start_ (n := 9) (S := fun w' => w'.cell? ⟨gb508, 0, none⟩ = some (.int .u32 a0_0) ∧ w'.cell? ⟨gb508, 1, none⟩ = some (.int .u32 a0_1) ∧ w'.cell? ⟨gb508, 2, none⟩ = some (.int .u8 a0_2) ∧ w'.cell? ⟨gb508, 3, none⟩ = some (.int .u16 a0_3) ∧ w'.cell? ⟨gb508, 4, none⟩ = some (.int .u16 a0_4)) (ds := [8]) #[false, false, false, false, false, false, false, false, false] (by kernel_rfl) rfl rfl ⟨(blk_cell BK508.out 0).trans rfl, (blk_cell BK508.out 1).trans rfl, (blk_cell BK508.out 2).trans rfl, (blk_cell BK508.out 3).trans rfl, (blk_cell BK508.out 4).trans rfl⟩ (fun hHeld => ?_); refine with_tabW hdr_With.tab7 hdr_With.bits7 (fun HT_ HW_ => ?_)
              generalize wc.drew = w30 at BK508 BK509 HB hHeld ⊢
              refine pure_ (i := 0) (N := some 42) (v := ?_) (a' := ?_) #[true, false, false, false, false, false, false, false, false] rfl rfl (any_of HT_.out (by kernel_rfl)) (fun _ _ _ h => h) (Or.inl ⟨by rfl, ?_⟩) ?_ ?_
              rotate_left
              · intro w'
                go_simp
                with_reducible rfl
              rotate_left
              · simp only [Act.put, List.setIfInBounds_toArray, List.set_cons_zero, List.set_cons_succ, i64_w, i32_w]
                rfl
              refine pure_ (i := 2) (N := some 44) (v := ?_) (a' := ?_) #[true, false, true, false, false, false, false, false, false] rfl rfl (any_of HT_.out (by kernel_rfl)) (fun _ _ _ h => h) (Or.inl ⟨by rfl, ?_⟩) ?_ ?_
              rotate_left
              · intro w'
                go_simp
                with_reducible rfl
              rotate_left
              · simp only [Act.put, List.setIfInBounds_toArray, List.set_cons_zero, List.set_cons_succ, i64_w, i32_w]
                rfl
              refine pure_ (i := 3) (N := some 45) (v := ?_) (a' := ?_) #[true, false, true, true, false, false, false, false, false] rfl rfl (any_of HT_.out (by kernel_rfl)) (fun _ _ _ h => h) (Or.inl ⟨by rfl, ?_⟩) ?_ ?_
              rotate_left
              · intro w'
                go_simp
                with_reducible rfl
              rotate_left
              · simp only [Act.put, List.setIfInBounds_toArray, List.set_cons_zero, List.set_cons_succ, i64_w, i32_w]
                rfl
              refine pure_ (i := 4) (N := some 46) (v := ?_) (a' := ?_) #[true, false, true, true, true, false, false, false, false] rfl rfl (any_of HT_.out (by kernel_rfl)) (fun _ _ _ h => h) (Or.inl ⟨by rfl, ?_⟩) ?_ ?_
              rotate_left
              · intro w'
                go_simp
                with_reducible rfl
              rotate_left
              · simp only [Act.put, List.setIfInBounds_toArray, List.set_cons_zero, List.set_cons_succ, i64_w, i32_w]
                rfl
              refine pure_ (i := 5) (N := some 47) (v := ?_) (a' := ?_) #[true, false, true, true, true, true, false, false, false] rfl rfl (any_of HT_.out (by kernel_rfl)) (fun _ _ _ h => h) (Or.inl ⟨by rfl, ?_⟩) ?_ ?_
              rotate_left
              · intro w'
                go_simp
                with_reducible rfl
              rotate_left
              · simp only [Act.put, List.setIfInBounds_toArray, List.set_cons_zero, List.set_cons_succ, i64_w, i32_w]
                rfl
              refine take_ (i := 1) (N := some 43) (v := ?_) (a' := ?_) #[true, true, true, true, true, true, false, false, false] rfl rfl (take_ofW HT_.out HW_.out (by kernel_rfl)) (fun _ _ _ h => h) (Or.inl ⟨by rfl, ?_⟩) hHeld ?_ ?_
              rotate_left
              · rintro w' ⟨s0, s1, s2, s3, s4⟩
                go_simp
                with_reducible rfl
              rotate_left
              · simp only [Act.put, List.setIfInBounds_toArray, List.set_cons_zero, List.set_cons_succ, i64_w, i32_w]
                rfl
              refine pure_ (i := 6) (N := some 48) (v := ?_) (a' := ?_) #[true, true, true, true, true, true, true, false, false] rfl rfl (any_of HT_.out (by kernel_rfl)) (fun _ _ _ h => h) (Or.inl ⟨by rfl, ?_⟩) ?_ ?_
              rotate_left
              · intro w'
                go_simp
                with_reducible rfl
              rotate_left
              · simp only [Act.put, List.setIfInBounds_toArray, List.set_cons_zero, List.set_cons_succ, i64_w, i32_w]
                rfl
              refine pure_ (i := 7) (N := some 49) (v := ?_) (a' := ?_) #[true, true, true, true, true, true, true, true, false] rfl rfl (any_of HT_.out (by kernel_rfl)) (fun _ _ _ h => h) (Or.inl ⟨by rfl, ?_⟩) ?_ ?_
              rotate_left
              · intro w'
                go_simp
                with_reducible rfl
              rotate_left
              · simp only [Act.put, List.setIfInBounds_toArray, List.set_cons_zero, List.set_cons_succ, i64_w, i32_w]
                rfl
              refine last_ (i := 8) (N := none) #[true, true, true, true, true, true, true, true, true] rfl rfl (one_of HT_.out (by kernel_rfl)) (by decide) (fun K hK => ?_)
              have hs31 : w30.cell? ⟨gb508, 1, none⟩ = some (.int .u32 a0_1) := (blk_cell BK508.out 1).trans rfl
              have hfs31 := blk_frozen BK508.out 1
              have hns31_1 := NB509_508.out
              have hms31_1 := NB508_509.out
              refine skip_ (w1 := ?_) (by rfl) rfl ?_ ?_
              rotate_left
              · go_simp
                rfl
              refine hK.out _ _ ?_
              clear hK K
              refine done_ (done_of HT_.out (by kernel_rfl)) ?_
              have hnb32 := NB508_509.out
              have hnc32 := NB509_508.out
              have hcz33_0 : w30.cell? ⟨gb508, 0, none⟩ = some (.int .u32 a0_0) := (blk_cell BK508.out 0).trans rfl
              have hcz33_1 : w30.cell? ⟨gb508, 1, none⟩ = some (.int .u32 a0_1) := (blk_cell BK508.out 1).trans rfl
              have hcz33_2 : w30.cell? ⟨gb508, 2, none⟩ = some (.int .u8 a0_2) := (blk_cell BK508.out 2).trans rfl
              have hcz33_3 : w30.cell? ⟨gb508, 3, none⟩ = some (.int .u16 a0_3) := (blk_cell BK508.out 3).trans rfl
              have hcz33_4 : w30.cell? ⟨gb508, 4, none⟩ = some (.int .u16 a0_4) := (blk_cell BK508.out 4).trans rfl
              have hfz33_0 := blk_frozen BK508.out 0
              have hfz33_1 := blk_frozen BK508.out 1
              have hfz33_2 := blk_frozen BK508.out 2
              have hfz33_3 := blk_frozen BK508.out 3
              have hfz33_4 := blk_frozen BK508.out 4
              have hcz34_0 : w30.cell? ⟨gb509, 0, none⟩ = some (.int .u32 0) := (blk_cell BK509.out 0).trans rfl
              have hcz34_1 : w30.cell? ⟨gb509, 1, none⟩ = some (.int .u32 0) := (blk_cell BK509.out 1).trans rfl
              have hcz34_2 : w30.cell? ⟨gb509, 2, none⟩ = some (.int .u8 0) := (blk_cell BK509.out 2).trans rfl
              have hcz34_3 : w30.cell? ⟨gb509, 3, none⟩ = some (.int .u16 0) := (blk_cell BK509.out 3).trans rfl
              have hcz34_4 : w30.cell? ⟨gb509, 4, none⟩ = some (.int .u16 0) := (blk_cell BK509.out 4).trans rfl
              have hfz34_0 := blk_frozen BK509.out 0
              have hfz34_1 := blk_frozen BK509.out 1
              have hfz34_2 := blk_frozen BK509.out 2
              have hfz34_3 := blk_frozen BK509.out 3
              have hfz34_4 := blk_frozen BK509.out 4
              try go_wp2
              refine bodyPost_ret (results_cell_row rfl _ _ gb509 67 #[.int .u32 a0_0, .int .u32 (Go.bits .xor .u32 a0_1 (ji29)), .int .u8 a0_2, .int .u16 a0_3, .int .u16 a0_4] (0, 0) _ rfl (by (with_reducible repeat (first | refine blk_drewN ?_ _ | refine blk_drew ?_ | refine blk_alloc ?_ _)); refine blk_put (cs := #[.int .u32 a0_0, .int .u32 (Go.bits .xor .u32 a0_1 (ji29)), .int .u8 a0_2, .int .u16 a0_3, .int .u16 0]) ?_ 4 _ rfl; (with_reducible repeat (first | refine blk_drewN ?_ _ | refine blk_drew ?_ | refine blk_alloc ?_ _)); refine blk_put (cs := #[.int .u32 a0_0, .int .u32 (Go.bits .xor .u32 a0_1 (ji29)), .int .u8 a0_2, .int .u16 0, .int .u16 0]) ?_ 3 _ rfl; (with_reducible repeat (first | refine blk_drewN ?_ _ | refine blk_drew ?_ | refine blk_alloc ?_ _)); refine blk_put (cs := #[.int .u32 a0_0, .int .u32 (Go.bits .xor .u32 a0_1 (ji29)), .int .u8 0, .int .u16 0, .int .u16 0]) ?_ 2 _ rfl; (with_reducible repeat (first | refine blk_drewN ?_ _ | refine blk_drew ?_ | refine blk_alloc ?_ _)); refine blk_put (cs := #[.int .u32 a0_0, .int .u32 0, .int .u8 0, .int .u16 0, .int .u16 0]) ?_ 1 _ rfl; (with_reducible repeat (first | refine blk_drewN ?_ _ | refine blk_drew ?_ | refine blk_alloc ?_ _)); refine blk_put (cs := #[.int .u32 0, .int .u32 0, .int .u8 0, .int .u16 0, .int .u16 0]) ?_ 0 _ rfl; (with_reducible repeat (first | refine blk_drewN ?_ _ | refine blk_drew ?_ | refine blk_alloc ?_ _)); refine blk_far ?_ NB509_508.out _; (with_reducible repeat (first | refine blk_drewN ?_ _ | refine blk_drew ?_ | refine blk_alloc ?_ _)); exact BK509.out) Tryd.underlying67 rfl (by kernel_rfl)) rfl ?_
              exact ⟨by first | rfl | (simp [errW_none, errW_some] <;> rfl) | (simp only [← hji27, ← hji29]; first | rfl | (simp [errW_none, errW_some] <;> rfl)) | (simp [*, errW_none, errW_some] <;> rfl), by repeat (first | (with_reducible first | exact HB.out | apply below_alloc | apply pw_below_drewN | apply below_drew1 | refine below_set ?_ GE508.out | refine below_set ?_ GE509.out) | exact HB.out)⟩
            · rw [if_neg c28] at H
              exact absurd H (by simp)
          · rw [if_neg c26] at H
            have c26b0 : decide (a1 < 64) = false := decide_eq_false c26
            clear c26
            by_cases c35 : a1 < 72
            · rw [if_pos c35] at H
              have c35b0 : decide (a1 < 72) = true := decide_eq_true c35
              clear c35
              obtain ⟨ji36, hji36⟩ : ∃ j_ : Int, (wrap64 (7 - (wrap64 (a1 - 64)))) = j_ := ⟨_, rfl⟩
              replace H : (if 0 ≤ (ji36) then (some (a0_0, a0_1, Go.bits .xor .u8 a0_2 (shl .u8 1 (ji36)), a0_3, a0_4)) else (none)) = some (r1, r2, r3, r4, r5) := by first | (rw [hji36] at H; exact H) | (simp only [hji36] at H ⊢; exact H)
              have hji36w : (IntKind.i64.wrap (7 - (wrap64 (a1 - 64)))) = ji36 := (i64_w _).trans hji36
              by_cases c37 : 0 ≤ (ji36)
              · rw [if_pos c37] at H
                have c37b0 := eq_true c37
                have c37b1 : decide (0 ≤ (ji36)) = true := decide_eq_true c37
                clear c37
                obtain ⟨ji38, hji38⟩ : ∃ j_ : Int, (shl .u8 1 (ji36)) = j_ := ⟨_, rfl⟩
                replace H : (some (a0_0, a0_1, Go.bits .xor .u8 a0_2 (ji38), a0_3, a0_4)) = some (r1, r2, r3, r4, r5) := by first | (rw [hji38] at H; exact H) | (simp only [hji38] at H ⊢; exact H)
                have hji38_ : (IntKind.u8.wrap (1 * 2 ^ min (ji36).toNat 8)) = ji38 := hji38
                have hji38z : (ji36) ≤ 8 → (IntKind.u8.wrap (1 * 2 ^ (ji36).toNat)) = ji38 := shl_small hji38
                have hji38u : (IntKind.u8.wrap (2 ^ min (ji36).toNat 8)) = ji38 := by have h_ := hji38_; rw [Int.one_mul] at h_; exact h_
                have hji38v : (ji36) ≤ 8 → (IntKind.u8.wrap (2 ^ (ji36).toNat)) = ji38 := fun hle_ => by have h_ := hji38z hle_; rw [Int.one_mul] at h_; exact h_
                simp only [Option.some.injEq, Prod.mk.injEq] at H
                obtain ⟨rfl, rfl, rfl, rfl, rfl⟩ := H
                try go_wp2
                have n0_ := Aside0.mk (blk_drew BK508.out)
                have n1_ := Aside0.mk (blk_drew BK509.out)
                have n2_ := Aside0.mk (below_drew1 HB.out)
                clear BK508
                clear BK509
                clear HB
                have BK508 := n0_
                have BK509 := n1_
                have HB := n2_
                clear n0_ n1_ n2_
                refine start_ (n := 9) (S := fun w' => w'.cell? ⟨gb508, 0, none⟩ = some (.int .u32 a0_0) ∧ w'.cell? ⟨gb508, 1, none⟩ = some (.int .u32 a0_1) ∧ w'.cell? ⟨gb508, 2, none⟩ = some (.int .u8 a0_2) ∧ w'.cell? ⟨gb508, 3, none⟩ = some (.int .u16 a0_3) ∧ w'.cell? ⟨gb508, 4, none⟩ = some (.int .u16 a0_4)) (ds := [8]) #[false, false, false, false, false, false, false, false, false] (by kernel_rfl) rfl rfl ⟨(blk_cell BK508.out 0).trans rfl, (blk_cell BK508.out 1).trans rfl, (blk_cell BK508.out 2).trans rfl, (blk_cell BK508.out 3).trans rfl, (blk_cell BK508.out 4).trans rfl⟩ (fun hHeld => ?_); refine with_tabW hdr_With.tab9 hdr_With.bits9 (fun HT_ HW_ => ?_)
                generalize wc.drew = w39 at BK508 BK509 HB hHeld ⊢
                refine pure_ (i := 0) (N := some 53) (v := ?_) (a' := ?_) #[true, false, false, false, false, false, false, false, false] rfl rfl (any_of HT_.out (by kernel_rfl)) (fun _ _ _ h => h) (Or.inl ⟨by rfl, ?_⟩) ?_ ?_
                rotate_left
                · intro w'
                  go_simp
                  with_reducible rfl
                rotate_left
                · simp only [Act.put, List.setIfInBounds_toArray, List.set_cons_zero, List.set_cons_succ, i64_w, i32_w]
                  rfl
                refine pure_ (i := 2) (N := some 55) (v := ?_) (a' := ?_) #[true, false, true, false, false, false, false, false, false] rfl rfl (any_of HT_.out (by kernel_rfl)) (fun _ _ _ h => h) (Or.inl ⟨by rfl, ?_⟩) ?_ ?_
                rotate_left
                · intro w'
                  go_simp
                  with_reducible rfl
                rotate_left
                · simp only [Act.put, List.setIfInBounds_toArray, List.set_cons_zero, List.set_cons_succ, i64_w, i32_w]
                  rfl
                refine pure_ (i := 3) (N := some 56) (v := ?_) (a' := ?_) #[true, false, true, true, false, false, false, false, false] rfl rfl (any_of HT_.out (by kernel_rfl)) (fun _ _ _ h => h) (Or.inl ⟨by rfl, ?_⟩) ?_ ?_
                rotate_left
                · intro w'
                  go_simp
                  with_reducible rfl
                rotate_left
                · simp only [Act.put, List.setIfInBounds_toArray, List.set_cons_zero, List.set_cons_succ, i64_w, i32_w]
                  rfl
                refine pure_ (i := 4) (N := some 57) (v := ?_) (a' := ?_) #[true, false, true, true, true, false, false, false, false] rfl rfl (any_of HT_.out (by kernel_rfl)) (fun _ _ _ h => h) (Or.inl ⟨by rfl, ?_⟩) ?_ ?_
                rotate_left
                · intro w'
                  go_simp
                  with_reducible rfl
                rotate_left
                · simp only [Act.put, List.setIfInBounds_toArray, List.set_cons_zero, List.set_cons_succ, i64_w, i32_w]
                  rfl
                refine pure_ (i := 5) (N := some 58) (v := ?_) (a' := ?_) #[true, false, true, true, true, true, false, false, false] rfl rfl (any_of HT_.out (by kernel_rfl)) (fun _ _ _ h => h) (Or.inl ⟨by rfl, ?_⟩) ?_ ?_
                rotate_left
                · intro w'
                  go_simp
                  with_reducible rfl
                rotate_left
                · simp only [Act.put, List.setIfInBounds_toArray, List.set_cons_zero, List.set_cons_succ, i64_w, i32_w]
                  rfl
                refine take_ (i := 1) (N := some 54) (v := ?_) (a' := ?_) #[true, true, true, true, true, true, false, false, false] rfl rfl (take_ofW HT_.out HW_.out (by kernel_rfl)) (fun _ _ _ h => h) (Or.inl ⟨by rfl, ?_⟩) hHeld ?_ ?_
                rotate_left
                · rintro w' ⟨s0, s1, s2, s3, s4⟩
                  go_simp
                  with_reducible rfl
                rotate_left
                · simp only [Act.put, List.setIfInBounds_toArray, List.set_cons_zero, List.set_cons_succ, i64_w, i32_w]
                  rfl
                refine pure_ (i := 6) (N := some 59) (v := ?_) (a' := ?_) #[true, true, true, true, true, true, true, false, false] rfl rfl (any_of HT_.out (by kernel_rfl)) (fun _ _ _ h => h) (Or.inl ⟨by rfl, ?_⟩) ?_ ?_
                rotate_left
                · intro w'
                  go_simp
                  with_reducible rfl
                rotate_left
                · simp only [Act.put, List.setIfInBounds_toArray, List.set_cons_zero, List.set_cons_succ, i64_w, i32_w]
                  rfl
                refine pure_ (i := 7) (N := some 60) (v := ?_) (a' := ?_) #[true, true, true, true, true, true, true, true, false] rfl rfl (any_of HT_.out (by kernel_rfl)) (fun _ _ _ h => h) (Or.inl ⟨by rfl, ?_⟩) ?_ ?_
                rotate_left
                · intro w'
                  go_simp
                  with_reducible rfl
                rotate_left
                · simp only [Act.put, List.setIfInBounds_toArray, List.set_cons_zero, List.set_cons_succ, i64_w, i32_w]
                  rfl
                refine last_ (i := 8) (N := none) #[true, true, true, true, true, true, true, true, true] rfl rfl (one_of HT_.out (by kernel_rfl)) (by decide) (fun K hK => ?_)
                have hs40 : w39.cell? ⟨gb508, 2, none⟩ = some (.int .u8 a0_2) := (blk_cell BK508.out 2).trans rfl
                have hfs40 := blk_frozen BK508.out 2
                have hns40_1 := NB509_508.out
                have hms40_1 := NB508_509.out
                refine skip_ (w1 := ?_) (by rfl) rfl ?_ ?_
                rotate_left
                · go_simp
                  rfl
                refine hK.out _ _ ?_
                clear hK K
                refine done_ (done_of HT_.out (by kernel_rfl)) ?_
                have hnb41 := NB508_509.out
                have hnc41 := NB509_508.out
                have hcz42_0 : w39.cell? ⟨gb508, 0, none⟩ = some (.int .u32 a0_0) := (blk_cell BK508.out 0).trans rfl
                have hcz42_1 : w39.cell? ⟨gb508, 1, none⟩ = some (.int .u32 a0_1) := (blk_cell BK508.out 1).trans rfl
                have hcz42_2 : w39.cell? ⟨gb508, 2, none⟩ = some (.int .u8 a0_2) := (blk_cell BK508.out 2).trans rfl
                have hcz42_3 : w39.cell? ⟨gb508, 3, none⟩ = some (.int .u16 a0_3) := (blk_cell BK508.out 3).trans rfl
                have hcz42_4 : w39.cell? ⟨gb508, 4, none⟩ = some (.int .u16 a0_4) := (blk_cell BK508.out 4).trans rfl
                have hfz42_0 := blk_frozen BK508.out 0
                have hfz42_1 := blk_frozen BK508.out 1
                have hfz42_2 := blk_frozen BK508.out 2
                have hfz42_3 := blk_frozen BK508.out 3
                have hfz42_4 := blk_frozen BK508.out 4
                have hcz43_0 : w39.cell? ⟨gb509, 0, none⟩ = some (.int .u32 0) := (blk_cell BK509.out 0).trans rfl
                have hcz43_1 : w39.cell? ⟨gb509, 1, none⟩ = some (.int .u32 0) := (blk_cell BK509.out 1).trans rfl
                have hcz43_2 : w39.cell? ⟨gb509, 2, none⟩ = some (.int .u8 0) := (blk_cell BK509.out 2).trans rfl
                have hcz43_3 : w39.cell? ⟨gb509, 3, none⟩ = some (.int .u16 0) := (blk_cell BK509.out 3).trans rfl
                have hcz43_4 : w39.cell? ⟨gb509, 4, none⟩ = some (.int .u16 0) := (blk_cell BK509.out 4).trans rfl
                have hfz43_0 := blk_frozen BK509.out 0
                have hfz43_1 := blk_frozen BK509.out 1
                have hfz43_2 := blk_frozen BK509.out 2
                have hfz43_3 := blk_frozen BK509.out 3
                have hfz43_4 := blk_frozen BK509.out 4
                try go_wp2
                refine bodyPost_ret (results_cell_row rfl _ _ gb509 67 #[.int .u32 a0_0, .int .u32 a0_1, .int .u8 (Go.bits .xor .u8 a0_2 (ji38)), .int .u16 a0_3, .int .u16 a0_4] (0, 0) _ rfl (by (with_reducible repeat (first | refine blk_drewN ?_ _ | refine blk_drew ?_ | refine blk_alloc ?_ _)); refine blk_put (cs := #[.int .u32 a0_0, .int .u32 a0_1, .int .u8 (Go.bits .xor .u8 a0_2 (ji38)), .int .u16 a0_3, .int .u16 0]) ?_ 4 _ rfl; (with_reducible repeat (first | refine blk_drewN ?_ _ | refine blk_drew ?_ | refine blk_alloc ?_ _)); refine blk_put (cs := #[.int .u32 a0_0, .int .u32 a0_1, .int .u8 (Go.bits .xor .u8 a0_2 (ji38)), .int .u16 0, .int .u16 0]) ?_ 3 _ rfl; (with_reducible repeat (first | refine blk_drewN ?_ _ | refine blk_drew ?_ | refine blk_alloc ?_ _)); refine blk_put (cs := #[.int .u32 a0_0, .int .u32 a0_1, .int .u8 0, .int .u16 0, .int .u16 0]) ?_ 2 _ rfl; (with_reducible repeat (first | refine blk_drewN ?_ _ | refine blk_drew ?_ | refine blk_alloc ?_ _)); refine blk_put (cs := #[.int .u32 a0_0, .int .u32 0, .int .u8 0, .int .u16 0, .int .u16 0]) ?_ 1 _ rfl; (with_reducible repeat (first | refine blk_drewN ?_ _ | refine blk_drew ?_ | refine blk_alloc ?_ _)); refine blk_put (cs := #[.int .u32 0, .int .u32 0, .int .u8 0, .int .u16 0, .int .u16 0]) ?_ 0 _ rfl; (with_reducible repeat (first | refine blk_drewN ?_ _ | refine blk_drew ?_ | refine blk_alloc ?_ _)); refine blk_far ?_ NB509_508.out _; (with_reducible repeat (first | refine blk_drewN ?_ _ | refine blk_drew ?_ | refine blk_alloc ?_ _)); exact BK509.out) Tryd.underlying67 rfl (by kernel_rfl)) rfl ?_
                exact ⟨by first | rfl | (simp [errW_none, errW_some] <;> rfl) | (simp only [← hji36, ← hji38]; first | rfl | (simp [errW_none, errW_some] <;> rfl)) | (simp [*, errW_none, errW_some] <;> rfl), by repeat (first | (with_reducible first | exact HB.out | apply below_alloc | apply pw_below_drewN | apply below_drew1 | refine below_set ?_ GE508.out | refine below_set ?_ GE509.out) | exact HB.out)⟩
              · rw [if_neg c37] at H
                exact absurd H (by simp)
            · rw [if_neg c35] at H
              have c35b0 : decide (a1 < 72) = false := decide_eq_false c35
              clear c35
              by_cases c44 : a1 < 88
              · rw [if_pos c44] at H
                have c44b0 : decide (a1 < 88) = true := decide_eq_true c44
                clear c44
                obtain ⟨ji45, hji45⟩ : ∃ j_ : Int, (wrap64 (15 - (wrap64 (a1 - 72)))) = j_ := ⟨_, rfl⟩
                replace H : (if 0 ≤ (ji45) then (some (a0_0, a0_1, a0_2, Go.bits .xor .u16 a0_3 (shl .u16 1 (ji45)), a0_4)) else (none)) = some (r1, r2, r3, r4, r5) := by first | (rw [hji45] at H; exact H) | (simp only [hji45] at H ⊢; exact H)
                have hji45w : (IntKind.i64.wrap (15 - (wrap64 (a1 - 72)))) = ji45 := (i64_w _).trans hji45
                by_cases c46 : 0 ≤ (ji45)
                · rw [if_pos c46] at H
                  have c46b0 := eq_true c46
                  have c46b1 : decide (0 ≤ (ji45)) = true := decide_eq_true c46
                  clear c46
                  obtain ⟨ji47, hji47⟩ : ∃ j_ : Int, (shl .u16 1 (ji45)) = j_ := ⟨_, rfl⟩
                  replace H : (some (a0_0, a0_1, a0_2, Go.bits .xor .u16 a0_3 (ji47), a0_4)) = some (r1, r2, r3, r4, r5) := by first | (rw [hji47] at H; exact H) | (simp only [hji47] at H ⊢; exact H)
                  have hji47_ : (IntKind.u16.wrap (1 * 2 ^ min (ji45).toNat 16)) = ji47 := hji47
                  have hji47z : (ji45) ≤ 16 → (IntKind.u16.wrap (1 * 2 ^ (ji45).toNat)) = ji47 := shl_small hji47
                  have hji47u : (IntKind.u16.wrap (2 ^ min (ji45).toNat 16)) = ji47 := by have h_ := hji47_; rw [Int.one_mul] at h_; exact h_
                  have hji47v : (ji45) ≤ 16 → (IntKind.u16.wrap (2 ^ (ji45).toNat)) = ji47 := fun hle_ => by have h_ := hji47z hle_; rw [Int.one_mul] at h_; exact h_
                  simp only [Option.some.injEq, Prod.mk.injEq] at H
                  obtain ⟨rfl, rfl, rfl, rfl, rfl⟩ := H
                  try go_wp2
                  have n0_ := Aside0.mk (blk_drew BK508.out)
                  have n1_ := Aside0.mk (blk_drew BK509.out)
                  have n2_ := Aside0.mk (below_drew1 HB.out)
                  clear BK508
                  clear BK509
                  clear HB
                  have BK508 := n0_
                  have BK509 := n1_
                  have HB := n2_
                  clear n0_ n1_ n2_
                  refine start_ (n := 9) (S := fun w' => w'.cell? ⟨gb508, 0, none⟩ = some (.int .u32 a0_0) ∧ w'.cell? ⟨gb508, 1, none⟩ = some (.int .u32 a0_1) ∧ w'.cell? ⟨gb508, 2, none⟩ = some (.int .u8 a0_2) ∧ w'.cell? ⟨gb508, 3, none⟩ = some (.int .u16 a0_3) ∧ w'.cell? ⟨gb508, 4, none⟩ = some (.int .u16 a0_4)) (ds := [8]) #[false, false, false, false, false, false, false, false, false] (by kernel_rfl) rfl rfl ⟨(blk_cell BK508.out 0).trans rfl, (blk_cell BK508.out 1).trans rfl, (blk_cell BK508.out 2).trans rfl, (blk_cell BK508.out 3).trans rfl, (blk_cell BK508.out 4).trans rfl⟩ (fun hHeld => ?_); refine with_tabW hdr_With.tab11 hdr_With.bits11 (fun HT_ HW_ => ?_)
                  generalize wc.drew = w48 at BK508 BK509 HB hHeld ⊢
                  refine pure_ (i := 0) (N := some 64) (v := ?_) (a' := ?_) #[true, false, false, false, false, false, false, false, false] rfl rfl (any_of HT_.out (by kernel_rfl)) (fun _ _ _ h => h) (Or.inl ⟨by rfl, ?_⟩) ?_ ?_
                  rotate_left
                  · intro w'
                    go_simp
                    with_reducible rfl
                  rotate_left
                  · simp only [Act.put, List.setIfInBounds_toArray, List.set_cons_zero, List.set_cons_succ, i64_w, i32_w]
                    rfl
                  refine pure_ (i := 2) (N := some 66) (v := ?_) (a' := ?_) #[true, false, true, false, false, false, false, false, false] rfl rfl (any_of HT_.out (by kernel_rfl)) (fun _ _ _ h => h) (Or.inl ⟨by rfl, ?_⟩) ?_ ?_
                  rotate_left
                  · intro w'
                    go_simp
                    with_reducible rfl
                  rotate_left
                  · simp only [Act.put, List.setIfInBounds_toArray, List.set_cons_zero, List.set_cons_succ, i64_w, i32_w]
                    rfl
                  refine pure_ (i := 3) (N := some 67) (v := ?_) (a' := ?_) #[true, false, true, true, false, false, false, false, false] rfl rfl (any_of HT_.out (by kernel_rfl)) (fun _ _ _ h => h) (Or.inl ⟨by rfl, ?_⟩) ?_ ?_
                  rotate_left
                  · intro w'
                    go_simp
                    with_reducible rfl
                  rotate_left
                  · simp only [Act.put, List.setIfInBounds_toArray, List.set_cons_zero, List.set_cons_succ, i64_w, i32_w]
                    rfl
                  refine pure_ (i := 4) (N := some 68) (v := ?_) (a' := ?_) #[true, false, true, true, true, false, false, false, false] rfl rfl (any_of HT_.out (by kernel_rfl)) (fun _ _ _ h => h) (Or.inl ⟨by rfl, ?_⟩) ?_ ?_
                  rotate_left
                  · intro w'
                    go_simp
                    with_reducible rfl
                  rotate_left
                  · simp only [Act.put, List.setIfInBounds_toArray, List.set_cons_zero, List.set_cons_succ, i64_w, i32_w]
                    rfl
                  refine pure_ (i := 5) (N := some 69) (v := ?_) (a' := ?_) #[true, false, true, true, true, true, false, false, false] rfl rfl (any_of HT_.out (by kernel_rfl)) (fun _ _ _ h => h) (Or.inl ⟨by rfl, ?_⟩) ?_ ?_
                  rotate_left
                  · intro w'
                    go_simp
                    with_reducible rfl
                  rotate_left
                  · simp only [Act.put, List.setIfInBounds_toArray, List.set_cons_zero, List.set_cons_succ, i64_w, i32_w]
                    rfl
                  refine take_ (i := 1) (N := some 65) (v := ?_) (a' := ?_) #[true, true, true, true, true, true, false, false, false] rfl rfl (take_ofW HT_.out HW_.out (by kernel_rfl)) (fun _ _ _ h => h) (Or.inl ⟨by rfl, ?_⟩) hHeld ?_ ?_
                  rotate_left
                  · rintro w' ⟨s0, s1, s2, s3, s4⟩
                    go_simp
                    with_reducible rfl
                  rotate_left
                  · simp only [Act.put, List.setIfInBounds_toArray, List.set_cons_zero, List.set_cons_succ, i64_w, i32_w]
                    rfl
                  refine pure_ (i := 6) (N := some 70) (v := ?_) (a' := ?_) #[true, true, true, true, true, true, true, false, false] rfl rfl (any_of HT_.out (by kernel_rfl)) (fun _ _ _ h => h) (Or.inl ⟨by rfl, ?_⟩) ?_ ?_
                  rotate_left
                  · intro w'
                    go_simp
                    with_reducible rfl
                  rotate_left
                  · simp only [Act.put, List.setIfInBounds_toArray, List.set_cons_zero, List.set_cons_succ, i64_w, i32_w]
                    rfl
                  refine pure_ (i := 7) (N := some 71) (v := ?_) (a' := ?_) #[true, true, true, true, true, true, true, true, false] rfl rfl (any_of HT_.out (by kernel_rfl)) (fun _ _ _ h => h) (Or.inl ⟨by rfl, ?_⟩) ?_ ?_
                  rotate_left
                  · intro w'
                    go_simp
                    with_reducible rfl
                  rotate_left
                  · simp only [Act.put, List.setIfInBounds_toArray, List.set_cons_zero, List.set_cons_succ, i64_w, i32_w]
                    rfl
                  refine last_ (i := 8) (N := none) #[true, true, true, true, true, true, true, true, true] rfl rfl (one_of HT_.out (by kernel_rfl)) (by decide) (fun K hK => ?_)
                  have hs49 : w48.cell? ⟨gb508, 3, none⟩ = some (.int .u16 a0_3) := (blk_cell BK508.out 3).trans rfl
                  have hfs49 := blk_frozen BK508.out 3
                  have hns49_1 := NB509_508.out
                  have hms49_1 := NB508_509.out
                  refine skip_ (w1 := ?_) (by rfl) rfl ?_ ?_
                  rotate_left
                  · go_simp
                    rfl
                  refine hK.out _ _ ?_
                  clear hK K
                  refine done_ (done_of HT_.out (by kernel_rfl)) ?_
                  have hnb50 := NB508_509.out
                  have hnc50 := NB509_508.out
                  have hcz51_0 : w48.cell? ⟨gb508, 0, none⟩ = some (.int .u32 a0_0) := (blk_cell BK508.out 0).trans rfl
                  have hcz51_1 : w48.cell? ⟨gb508, 1, none⟩ = some (.int .u32 a0_1) := (blk_cell BK508.out 1).trans rfl
                  have hcz51_2 : w48.cell? ⟨gb508, 2, none⟩ = some (.int .u8 a0_2) := (blk_cell BK508.out 2).trans rfl
                  have hcz51_3 : w48.cell? ⟨gb508, 3, none⟩ = some (.int .u16 a0_3) := (blk_cell BK508.out 3).trans rfl
                  have hcz51_4 : w48.cell? ⟨gb508, 4, none⟩ = some (.int .u16 a0_4) := (blk_cell BK508.out 4).trans rfl
                  have hfz51_0 := blk_frozen BK508.out 0
                  have hfz51_1 := blk_frozen BK508.out 1
                  have hfz51_2 := blk_frozen BK508.out 2
                  have hfz51_3 := blk_frozen BK508.out 3
                  have hfz51_4 := blk_frozen BK508.out 4
                  have hcz52_0 : w48.cell? ⟨gb509, 0, none⟩ = some (.int .u32 0) := (blk_cell BK509.out 0).trans rfl
                  have hcz52_1 : w48.cell? ⟨gb509, 1, none⟩ = some (.int .u32 0) := (blk_cell BK509.out 1).trans rfl
                  have hcz52_2 : w48.cell? ⟨gb509, 2, none⟩ = some (.int .u8 0) := (blk_cell BK509.out 2).trans rfl
                  have hcz52_3 : w48.cell? ⟨gb509, 3, none⟩ = some (.int .u16 0) := (blk_cell BK509.out 3).trans rfl
                  have hcz52_4 : w48.cell? ⟨gb509, 4, none⟩ = some (.int .u16 0) := (blk_cell BK509.out 4).trans rfl
                  have hfz52_0 := blk_frozen BK509.out 0
                  have hfz52_1 := blk_frozen BK509.out 1
                  have hfz52_2 := blk_frozen BK509.out 2
                  have hfz52_3 := blk_frozen BK509.out 3
                  have hfz52_4 := blk_frozen BK509.out 4
                  try go_wp2
                  refine bodyPost_ret (results_cell_row rfl _ _ gb509 67 #[.int .u32 a0_0, .int .u32 a0_1, .int .u8 a0_2, .int .u16 (Go.bits .xor .u16 a0_3 (ji47)), .int .u16 a0_4] (0, 0) _ rfl (by (with_reducible repeat (first | refine blk_drewN ?_ _ | refine blk_drew ?_ | refine blk_alloc ?_ _)); refine blk_put (cs := #[.int .u32 a0_0, .int .u32 a0_1, .int .u8 a0_2, .int .u16 (Go.bits .xor .u16 a0_3 (ji47)), .int .u16 0]) ?_ 4 _ rfl; (with_reducible repeat (first | refine blk_drewN ?_ _ | refine blk_drew ?_ | refine blk_alloc ?_ _)); refine blk_put (cs := #[.int .u32 a0_0, .int .u32 a0_1, .int .u8 a0_2, .int .u16 0, .int .u16 0]) ?_ 3 _ rfl; (with_reducible repeat (first | refine blk_drewN ?_ _ | refine blk_drew ?_ | refine blk_alloc ?_ _)); refine blk_put (cs := #[.int .u32 a0_0, .int .u32 a0_1, .int .u8 0, .int .u16 0, .int .u16 0]) ?_ 2 _ rfl; (with_reducible repeat (first | refine blk_drewN ?_ _ | refine blk_drew ?_ | refine blk_alloc ?_ _)); refine blk_put (cs := #[.int .u32 a0_0, .int .u32 0, .int .u8 0, .int .u16 0, .int .u16 0]) ?_ 1 _ rfl; (with_reducible repeat (first | refine blk_drewN ?_ _ | refine blk_drew ?_ | refine blk_alloc ?_ _)); refine blk_put (cs := #[.int .u32 0, .int .u32 0, .int .u8 0, .int .u16 0, .int .u16 0]) ?_ 0 _ rfl; (with_reducible repeat (first | refine blk_drewN ?_ _ | refine blk_drew ?_ | refine blk_alloc ?_ _)); refine blk_far ?_ NB509_508.out _; (with_reducible repeat (first | refine blk_drewN ?_ _ | refine blk_drew ?_ | refine blk_alloc ?_ _)); exact BK509.out) Tryd.underlying67 rfl (by kernel_rfl)) rfl ?_
                  exact ⟨by first | rfl | (simp [errW_none, errW_some] <;> rfl) | (simp only [← hji45, ← hji47]; first | rfl | (simp [errW_none, errW_some] <;> rfl)) | (simp [*, errW_none, errW_some] <;> rfl), by repeat (first | (with_reducible first | exact HB.out | apply below_alloc | apply pw_below_drewN | apply below_drew1 | refine below_set ?_ GE508.out | refine below_set ?_ GE509.out) | exact HB.out)⟩
                · rw [if_neg c46] at H
                  exact absurd H (by simp)
              · rw [if_neg c44] at H
                have c44b0 : decide (a1 < 88) = false := decide_eq_false c44
                clear c44
                obtain ⟨ji53, hji53⟩ : ∃ j_ : Int, (wrap64 (15 - (wrap64 (a1 - 88)))) = j_ := ⟨_, rfl⟩
                replace H : (if 0 ≤ (ji53) then (some (a0_0, a0_1, a0_2, a0_3, Go.bits .xor .u16 a0_4 (shl .u16 1 (ji53)))) else (none)) = some (r1, r2, r3, r4, r5) := by first | (rw [hji53] at H; exact H) | (simp only [hji53] at H ⊢; exact H)
                have hji53w : (IntKind.i64.wrap (15 - (wrap64 (a1 - 88)))) = ji53 := (i64_w _).trans hji53
                by_cases c54 : 0 ≤ (ji53)
                · rw [if_pos c54] at H
                  have c54b0 := eq_true c54
                  have c54b1 : decide (0 ≤ (ji53)) = true := decide_eq_true c54
                  clear c54
                  obtain ⟨ji55, hji55⟩ : ∃ j_ : Int, (shl .u16 1 (ji53)) = j_ := ⟨_, rfl⟩
                  replace H : (some (a0_0, a0_1, a0_2, a0_3, Go.bits .xor .u16 a0_4 (ji55))) = some (r1, r2, r3, r4, r5) := by first | (rw [hji55] at H; exact H) | (simp only [hji55] at H ⊢; exact H)
                  have hji55_ : (IntKind.u16.wrap (1 * 2 ^ min (ji53).toNat 16)) = ji55 := hji55
                  have hji55z : (ji53) ≤ 16 → (IntKind.u16.wrap (1 * 2 ^ (ji53).toNat)) = ji55 := shl_small hji55
                  have hji55u : (IntKind.u16.wrap (2 ^ min (ji53).toNat 16)) = ji55 := by have h_ := hji55_; rw [Int.one_mul] at h_; exact h_
                  have hji55v : (ji53) ≤ 16 → (IntKind.u16.wrap (2 ^ (ji53).toNat)) = ji55 := fun hle_ => by have h_ := hji55z hle_; rw [Int.one_mul] at h_; exact h_
                  simp only [Option.some.injEq, Prod.mk.injEq] at H
                  obtain ⟨rfl, rfl, rfl, rfl, rfl⟩ := H
                  try go_wp2
                  have n0_ := Aside0.mk (blk_drew BK508.out)
                  have n1_ := Aside0.mk (blk_drew BK509.out)
                  have n2_ := Aside0.mk (below_drew1 HB.out)
                  clear BK508
                  clear BK509
                  clear HB
                  have BK508 := n0_
                  have BK509 := n1_
                  have HB := n2_
                  clear n0_ n1_ n2_
                  refine start_ (n := 9) (S := fun w' => w'.cell? ⟨gb508, 0, none⟩ = some (.int .u32 a0_0) ∧ w'.cell? ⟨gb508, 1, none⟩ = some (.int .u32 a0_1) ∧ w'.cell? ⟨gb508, 2, none⟩ = some (.int .u8 a0_2) ∧ w'.cell? ⟨gb508, 3, none⟩ = some (.int .u16 a0_3) ∧ w'.cell? ⟨gb508, 4, none⟩ = some (.int .u16 a0_4)) (ds := [8]) #[false, false, false, false, false, false, false, false, false] (by kernel_rfl) rfl rfl ⟨(blk_cell BK508.out 0).trans rfl, (blk_cell BK508.out 1).trans rfl, (blk_cell BK508.out 2).trans rfl, (blk_cell BK508.out 3).trans rfl, (blk_cell BK508.out 4).trans rfl⟩ (fun hHeld => ?_); refine with_tabW hdr_With.tab3 hdr_With.bits3 (fun HT_ HW_ => ?_)
                  generalize wc.drew = w56 at BK508 BK509 HB hHeld ⊢
                  refine pure_ (i := 0) (N := some 21) (v := ?_) (a' := ?_) #[true, false, false, false, false, false, false, false, false] rfl rfl (any_of HT_.out (by kernel_rfl)) (fun _ _ _ h => h) (Or.inl ⟨by rfl, ?_⟩) ?_ ?_
                  rotate_left
                  · intro w'
                    go_simp
                    with_reducible rfl
                  rotate_left
                  · simp only [Act.put, List.setIfInBounds_toArray, List.set_cons_zero, List.set_cons_succ, i64_w, i32_w]
                    rfl
                  refine pure_ (i := 2) (N := some 23) (v := ?_) (a' := ?_) #[true, false, true, false, false, false, false, false, false] rfl rfl (any_of HT_.out (by kernel_rfl)) (fun _ _ _ h => h) (Or.inl ⟨by rfl, ?_⟩) ?_ ?_
                  rotate_left
                  · intro w'
                    go_simp
                    with_reducible rfl
                  rotate_left
                  · simp only [Act.put, List.setIfInBounds_toArray, List.set_cons_zero, List.set_cons_succ, i64_w, i32_w]
                    rfl
                  refine pure_ (i := 3) (N := some 24) (v := ?_) (a' := ?_) #[true, false, true, true, false, false, false, false, false] rfl rfl (any_of HT_.out (by kernel_rfl)) (fun _ _ _ h => h) (Or.inl ⟨by rfl, ?_⟩) ?_ ?_
                  rotate_left
                  · intro w'
                    go_simp
                    with_reducible rfl
                  rotate_left
                  · simp only [Act.put, List.setIfInBounds_toArray, List.set_cons_zero, List.set_cons_succ, i64_w, i32_w]
                    rfl
                  refine pure_ (i := 4) (N := some 25) (v := ?_) (a' := ?_) #[true, false, true, true, true, false, false, false, false] rfl rfl (any_of HT_.out (by kernel_rfl)) (fun _ _ _ h => h) (Or.inl ⟨by rfl, ?_⟩) ?_ ?_
                  rotate_left
                  · intro w'
                    go_simp
                    with_reducible rfl
                  rotate_left
                  · simp only [Act.put, List.setIfInBounds_toArray, List.set_cons_zero, List.set_cons_succ, i64_w, i32_w]
                    rfl
                  refine pure_ (i := 5) (N := some 26) (v := ?_) (a' := ?_) #[true, false, true, true, true, true, false, false, false] rfl rfl (any_of HT_.out (by kernel_rfl)) (fun _ _ _ h => h) (Or.inl ⟨by rfl, ?_⟩) ?_ ?_
                  rotate_left
                  · intro w'
                    go_simp
                    with_reducible rfl
                  rotate_left
                  · simp only [Act.put, List.setIfInBounds_toArray, List.set_cons_zero, List.set_cons_succ, i64_w, i32_w]
                    rfl
                  refine take_ (i := 1) (N := some 22) (v := ?_) (a' := ?_) #[true, true, true, true, true, true, false, false, false] rfl rfl (take_ofW HT_.out HW_.out (by kernel_rfl)) (fun _ _ _ h => h) (Or.inl ⟨by rfl, ?_⟩) hHeld ?_ ?_
                  rotate_left
                  · rintro w' ⟨s0, s1, s2, s3, s4⟩
                    go_simp
                    with_reducible rfl
                  rotate_left
                  · simp only [Act.put, List.setIfInBounds_toArray, List.set_cons_zero, List.set_cons_succ, i64_w, i32_w]
                    rfl
                  refine pure_ (i := 6) (N := some 27) (v := ?_) (a' := ?_) #[true, true, true, true, true, true, true, false, false] rfl rfl (any_of HT_.out (by kernel_rfl)) (fun _ _ _ h => h) (Or.inl ⟨by rfl, ?_⟩) ?_ ?_
                  rotate_left
                  · intro w'
                    go_simp
                    with_reducible rfl
                  rotate_left
                  · simp only [Act.put, List.setIfInBounds_toArray, List.set_cons_zero, List.set_cons_succ, i64_w, i32_w]
                    rfl
                  refine pure_ (i := 7) (N := some 28) (v := ?_) (a' := ?_) #[true, true, true, true, true, true, true, true, false] rfl rfl (any_of HT_.out (by kernel_rfl)) (fun _ _ _ h => h) (Or.inl ⟨by rfl, ?_⟩) ?_ ?_
                  rotate_left
                  · intro w'
                    go_simp
                    with_reducible rfl
                  rotate_left
                  · simp only [Act.put, List.setIfInBounds_toArray, List.set_cons_zero, List.set_cons_succ, i64_w, i32_w]
                    rfl
                  refine last_ (i := 8) (N := none) #[true, true, true, true, true, true, true, true, true] rfl rfl (one_of HT_.out (by kernel_rfl)) (by decide) (fun K hK => ?_)
                  have hs57 : w56.cell? ⟨gb508, 4, none⟩ = some (.int .u16 a0_4) := (blk_cell BK508.out 4).trans rfl
                  have hfs57 := blk_frozen BK508.out 4
                  have hns57_1 := NB509_508.out
                  have hms57_1 := NB508_509.out
                  refine skip_ (w1 := ?_) (by rfl) rfl ?_ ?_
                  rotate_left
                  · go_simp
                    rfl
                  refine hK.out _ _ ?_
                  clear hK K
                  refine done_ (done_of HT_.out (by kernel_rfl)) ?_
                  have hnb58 := NB508_509.out
                  have hnc58 := NB509_508.out
                  have hcz59_0 : w56.cell? ⟨gb508, 0, none⟩ = some (.int .u32 a0_0) := (blk_cell BK508.out 0).trans rfl
                  have hcz59_1 : w56.cell? ⟨gb508, 1, none⟩ = some (.int .u32 a0_1) := (blk_cell BK508.out 1).trans rfl
                  have hcz59_2 : w56.cell? ⟨gb508, 2, none⟩ = some (.int .u8 a0_2) := (blk_cell BK508.out 2).trans rfl
                  have hcz59_3 : w56.cell? ⟨gb508, 3, none⟩ = some (.int .u16 a0_3) := (blk_cell BK508.out 3).trans rfl
                  have hcz59_4 : w56.cell? ⟨gb508, 4, none⟩ = some (.int .u16 a0_4) := (blk_cell BK508.out 4).trans rfl
                  have hfz59_0 := blk_frozen BK508.out 0
                  have hfz59_1 := blk_frozen BK508.out 1
                  have hfz59_2 := blk_frozen BK508.out 2
                  have hfz59_3 := blk_frozen BK508.out 3
                  have hfz59_4 := blk_frozen BK508.out 4
                  have hcz60_0 : w56.cell? ⟨gb509, 0, none⟩ = some (.int .u32 0) := (blk_cell BK509.out 0).trans rfl
                  have hcz60_1 : w56.cell? ⟨gb509, 1, none⟩ = some (.int .u32 0) := (blk_cell BK509.out 1).trans rfl
                  have hcz60_2 : w56.cell? ⟨gb509, 2, none⟩ = some (.int .u8 0) := (blk_cell BK509.out 2).trans rfl
                  have hcz60_3 : w56.cell? ⟨gb509, 3, none⟩ = some (.int .u16 0) := (blk_cell BK509.out 3).trans rfl
                  have hcz60_4 : w56.cell? ⟨gb509, 4, none⟩ = some (.int .u16 0) := (blk_cell BK509.out 4).trans rfl
                  have hfz60_0 := blk_frozen BK509.out 0
                  have hfz60_1 := blk_frozen BK509.out 1
                  have hfz60_2 := blk_frozen BK509.out 2
                  have hfz60_3 := blk_frozen BK509.out 3
                  have hfz60_4 := blk_frozen BK509.out 4
                  try go_wp2
                  refine bodyPost_ret (results_cell_row rfl _ _ gb509 67 #[.int .u32 a0_0, .int .u32 a0_1, .int .u8 a0_2, .int .u16 a0_3, .int .u16 (Go.bits .xor .u16 a0_4 (ji55))] (0, 0) _ rfl (by (with_reducible repeat (first | refine blk_drewN ?_ _ | refine blk_drew ?_ | refine blk_alloc ?_ _)); refine blk_put (cs := #[.int .u32 a0_0, .int .u32 a0_1, .int .u8 a0_2, .int .u16 a0_3, .int .u16 0]) ?_ 4 _ rfl; (with_reducible repeat (first | refine blk_drewN ?_ _ | refine blk_drew ?_ | refine blk_alloc ?_ _)); refine blk_put (cs := #[.int .u32 a0_0, .int .u32 a0_1, .int .u8 a0_2, .int .u16 0, .int .u16 0]) ?_ 3 _ rfl; (with_reducible repeat (first | refine blk_drewN ?_ _ | refine blk_drew ?_ | refine blk_alloc ?_ _)); refine blk_put (cs := #[.int .u32 a0_0, .int .u32 a0_1, .int .u8 0, .int .u16 0, .int .u16 0]) ?_ 2 _ rfl; (with_reducible repeat (first | refine blk_drewN ?_ _ | refine blk_drew ?_ | refine blk_alloc ?_ _)); refine blk_put (cs := #[.int .u32 a0_0, .int .u32 0, .int .u8 0, .int .u16 0, .int .u16 0]) ?_ 1 _ rfl; (with_reducible repeat (first | refine blk_drewN ?_ _ | refine blk_drew ?_ | refine blk_alloc ?_ _)); refine blk_put (cs := #[.int .u32 0, .int .u32 0, .int .u8 0, .int .u16 0, .int .u16 0]) ?_ 0 _ rfl; (with_reducible repeat (first | refine blk_drewN ?_ _ | refine blk_drew ?_ | refine blk_alloc ?_ _)); refine blk_far ?_ NB509_508.out _; (with_reducible repeat (first | refine blk_drewN ?_ _ | refine blk_drew ?_ | refine blk_alloc ?_ _)); exact BK509.out) Tryd.underlying67 rfl (by kernel_rfl)) rfl ?_
                  exact ⟨by first | rfl | (simp [errW_none, errW_some] <;> rfl) | (simp only [← hji53, ← hji55]; first | rfl | (simp [errW_none, errW_some] <;> rfl)) | (simp [*, errW_none, errW_some] <;> rfl), by repeat (first | (with_reducible first | exact HB.out | apply below_alloc | apply pw_below_drewN | apply below_drew1 | refine below_set ?_ GE508.out | refine below_set ?_ GE509.out) | exact HB.out)⟩
                · rw [if_neg c54] at H
                  exact absurd H (by simp)

end Go.Proofs.YtloclimoffhbhaaDoor.PAll
