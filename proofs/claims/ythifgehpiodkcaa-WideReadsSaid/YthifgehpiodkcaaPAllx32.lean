-- Written by wip/myprint.py (this session's own driver); Lean checks it.
import Derived.Test.YthifgehpiodkcaaPAllx0
import Derived.Test.YthifgehpiodkcaaPAllx14
import Derived.Test.YthifgehpiodkcaaPAllx17
namespace Go.Proofs.Ythifgehpiodkcaa.PAll
open Go.RowKit Go.Proofs.YthifgehpiodkcaaW.PrintWords Go.Proofs.YthifgehpiodkcaaW.PrintLast Go.Proofs.YthifgehpiodkcaaW.PrintMore
attribute [local go_sem] max2_int min2_int max_two min_two max_three min_three max_four min_four   -- for this text's walks alone
set_option linter.unusedVariables false
set_option linter.unusedSimpArgs false

/-! ### crossbuckref01_Parse: function 13 -/
mutual
def crossbuckref01_Parse.j0 : Nat → ByteArray → Bool → Option (Int × Int × Int)
  | 0, _, _ => none
  | k + 1, x0, x21 => if x21 = true then (some (0, 0, 6)) else (crossbuckref01_Parse.l0 k x0 0 0 0)
def crossbuckref01_Parse.l0 : Nat → ByteArray → Int → Int → Int → Option (Int × Int × Int)
  | 0, _, _, _, _ => none
  | k + 1, x0, x5, x265000, x265001 => if x5 < (x0.size : Int) then (if 0 ≤ x5 then (if (bt x0 x5) < 48 then (crossbuckref01_Parse.j2 k x0 x5 true x265000 x265001) else (crossbuckref01_Parse.j2 k x0 x5 (decide ((bt x0 x5) > 57)) x265000 x265001)) else (none)) else (some (x265000, x265001, 0))
def crossbuckref01_Parse.j2 : Nat → ByteArray → Int → Bool → Int → Int → Option (Int × Int × Int)
  | 0, _, _, _, _, _ => none
  | k + 1, x0, x5, x39, x265000, x265001 => if x39 = true then (some (0, 0, 6)) else (if 0 ≤ x5 then (if x5 < (x0.size : Int) then (crossbuckref01_Parse.l1 k x0 x5 0 x265000 x265001 0 (((bt x0 x5) - 48) % 256)) else (none)) else (none))
def crossbuckref01_Parse.l1 : Nat → ByteArray → Int → Int → Int → Int → Int → Int → Option (Int × Int × Int)
  | 0, _, _, _, _, _, _, _ => none
  | k + 1, x0, x5, x7, x265000, x265001, x266000, x266001 => if x7 < 10 then ((crossbuckref01_Add.f x266000 x266001 x265000 x265001).bind fun bt266 => ((crossbuckref01_Less.f bt266.1 bt266.2 x266000 x266001).bind fun t269 => (if t269 = true then (some (0, 0, 5)) else (crossbuckref01_Parse.l1 k x0 x5 (wrap64 (x7 + 1)) x265000 x265001 bt266.1 bt266.2)))) else (crossbuckref01_Parse.l0 k x0 (wrap64 (x5 + 1)) x266000 x266001)
end
def crossbuckref01_Parse.f (k : Nat) (a0 : ByteArray) : Option (Int × Int × Int) := if (a0.size : Int) = 0 then (crossbuckref01_Parse.j0 k a0 true) else (if (a0.size : Int) > 1 then (if 0 < (a0.size : Int) then (crossbuckref01_Parse.j0 k a0 ((bt a0 0) == 48)) else (none)) else (crossbuckref01_Parse.j0 k a0 false))
theorem crossbuckref01_Parse.mono_l : ∀ k, (∀ y0 y1, LeO (crossbuckref01_Parse.j0 k y0 y1) (crossbuckref01_Parse.j0 (k + 1) y0 y1)) ∧ (∀ y0 y1 y2 y3, LeO (crossbuckref01_Parse.l0 k y0 y1 y2 y3) (crossbuckref01_Parse.l0 (k + 1) y0 y1 y2 y3)) ∧ (∀ y0 y1 y2 y3 y4, LeO (crossbuckref01_Parse.j2 k y0 y1 y2 y3 y4) (crossbuckref01_Parse.j2 (k + 1) y0 y1 y2 y3 y4)) ∧ (∀ y0 y1 y2 y3 y4 y5 y6, LeO (crossbuckref01_Parse.l1 k y0 y1 y2 y3 y4 y5 y6) (crossbuckref01_Parse.l1 (k + 1) y0 y1 y2 y3 y4 y5 y6))
  | 0 => ⟨fun _ _ r h => by simp [crossbuckref01_Parse.j0] at h, fun _ _ _ _ r h => by simp [crossbuckref01_Parse.l0] at h, fun _ _ _ _ _ r h => by simp [crossbuckref01_Parse.j2] at h, fun _ _ _ _ _ _ _ r h => by simp [crossbuckref01_Parse.l1] at h⟩
  | k + 1 => by
    obtain ⟨ih0, ih1, ih2, ih3⟩ := crossbuckref01_Parse.mono_l k
    refine ⟨?_, ?_, ?_, ?_⟩
    · intro y0 y1
      unfold crossbuckref01_Parse.j0
      repeat' first
      | (with_reducible exact ih0 _ _)
      | (with_reducible exact ih1 _ _ _ _)
      | (with_reducible exact ih2 _ _ _ _ _)
      | (with_reducible exact ih3 _ _ _ _ _ _ _)
      | (with_reducible exact LeO.refl _)
      | (with_reducible exact LeO.none _)
      | (with_reducible refine LeO.ite ?_ ?_)
      | (with_reducible refine LeO.bind ?_ (fun _ => ?_))
      | exact ih0 _ _
      | exact ih1 _ _ _ _
      | exact ih2 _ _ _ _ _
      | exact ih3 _ _ _ _ _ _ _
      | exact LeO.none _
      | refine LeO.ite ?_ ?_
      | refine LeO.bind ?_ (fun _ => ?_)
    · intro y0 y1 y2 y3
      unfold crossbuckref01_Parse.l0
      repeat' first
      | (with_reducible exact ih0 _ _)
      | (with_reducible exact ih1 _ _ _ _)
      | (with_reducible exact ih2 _ _ _ _ _)
      | (with_reducible exact ih3 _ _ _ _ _ _ _)
      | (with_reducible exact LeO.refl _)
      | (with_reducible exact LeO.none _)
      | (with_reducible refine LeO.ite ?_ ?_)
      | (with_reducible refine LeO.bind ?_ (fun _ => ?_))
      | exact ih0 _ _
      | exact ih1 _ _ _ _
      | exact ih2 _ _ _ _ _
      | exact ih3 _ _ _ _ _ _ _
      | exact LeO.none _
      | refine LeO.ite ?_ ?_
      | refine LeO.bind ?_ (fun _ => ?_)
    · intro y0 y1 y2 y3 y4
      unfold crossbuckref01_Parse.j2
      repeat' first
      | (with_reducible exact ih0 _ _)
      | (with_reducible exact ih1 _ _ _ _)
      | (with_reducible exact ih2 _ _ _ _ _)
      | (with_reducible exact ih3 _ _ _ _ _ _ _)
      | (with_reducible exact LeO.refl _)
      | (with_reducible exact LeO.none _)
      | (with_reducible refine LeO.ite ?_ ?_)
      | (with_reducible refine LeO.bind ?_ (fun _ => ?_))
      | exact ih0 _ _
      | exact ih1 _ _ _ _
      | exact ih2 _ _ _ _ _
      | exact ih3 _ _ _ _ _ _ _
      | exact LeO.none _
      | refine LeO.ite ?_ ?_
      | refine LeO.bind ?_ (fun _ => ?_)
    · intro y0 y1 y2 y3 y4 y5 y6
      unfold crossbuckref01_Parse.l1
      repeat' first
      | (with_reducible exact ih0 _ _)
      | (with_reducible exact ih1 _ _ _ _)
      | (with_reducible exact ih2 _ _ _ _ _)
      | (with_reducible exact ih3 _ _ _ _ _ _ _)
      | (with_reducible exact LeO.refl _)
      | (with_reducible exact LeO.none _)
      | (with_reducible refine LeO.ite ?_ ?_)
      | (with_reducible refine LeO.bind ?_ (fun _ => ?_))
      | exact ih0 _ _
      | exact ih1 _ _ _ _
      | exact ih2 _ _ _ _ _
      | exact ih3 _ _ _ _ _ _ _
      | exact LeO.none _
      | refine LeO.ite ?_ ?_
      | refine LeO.bind ?_ (fun _ => ?_)
theorem crossbuckref01_Parse.mono : ∀ a0 k, LeO (crossbuckref01_Parse.f k a0) (crossbuckref01_Parse.f (k + 1) a0) := by
  intro a0 k
  obtain ⟨ih0, ih1, ih2, ih3⟩ := crossbuckref01_Parse.mono_l k
  unfold crossbuckref01_Parse.f
  repeat' first
      | (with_reducible exact ih0 _ _)
      | (with_reducible exact ih1 _ _ _ _)
      | (with_reducible exact ih2 _ _ _ _ _)
      | (with_reducible exact ih3 _ _ _ _ _ _ _)
      | (with_reducible exact LeO.refl _)
      | (with_reducible exact LeO.none _)
      | (with_reducible refine LeO.ite ?_ ?_)
      | (with_reducible refine LeO.bind ?_ (fun _ => ?_))
      | exact ih0 _ _
      | exact ih1 _ _ _ _
      | exact ih2 _ _ _ _ _
      | exact ih3 _ _ _ _ _ _ _
      | exact LeO.none _
      | refine LeO.ite ?_ ?_
      | refine LeO.bind ?_ (fun _ => ?_)
set_option maxHeartbeats 8000000 in
set_option maxRecDepth 100000 in
theorem crossbuckref01_Parse.calls (k : Nat) (a0 : ByteArray) (r1 : Int) (r2 : Int) (r3 : Int) (w : World) (h : crossbuckref01_Parse.f k a0 = some (r1, r2, r3)) :
    Calls Try.prog 13 #[.string a0] w fun e w' => e = .returned (.tuple #[.agg #[.int .u64 r1, .int .u64 r2], .int .i64 r3]) ∧ Below w.heap.size w w' := by
  have hu24 := Try.underlying24
  have HB := Aside0.mk (Below.refl w.heap.size w)
  have H : (if (a0.size : Int) = 0 then (crossbuckref01_Parse.j0 k a0 true) else (if (a0.size : Int) > 1 then (if 0 < (a0.size : Int) then (crossbuckref01_Parse.j0 k a0 ((bt a0 0) == 48)) else (none)) else (crossbuckref01_Parse.j0 k a0 false))) = some (r1, r2, r3) := h
  clear h
  have HC2 := Aside0.mk H
  clear H
  go_enter Try.func13, Try.ntmps13
  go_upto_region 1 with (first | ((with_reducible refine gate_dst (N := 2) rfl ?_); (try (refine gate_guard (by rfl) ?_; dsimp only)); refine box_event ?hg (N := 2) ?hd (cs := #[.int .u64 0, .int .u64 0]) (t := 24) ?hr ?_; (case hd => rfl); (case hg => rfl); (case hr => first | (go_simp; done) | (go_simp; rfl)); intro gb263 hg w3 hbox hb; have n0_ := Aside0.mk (below_step (by repeat (first | (with_reducible first | exact HB.out | apply below_alloc | apply pw_below_drewN | apply below_drew1) | exact HB.out)) hb); have n1_ := Aside0.mk (hbox); have n2_ := Aside0.mk ((by rw [hg]; exact (below_size (by repeat (first | (with_reducible first | exact HB.out | apply below_alloc | apply pw_below_drewN | apply below_drew1) | exact HB.out))) : w.heap.size ≤ gb263)); have n3_ := Aside0.mk ((by rw [hg]; exact (below_size (by repeat (first | (with_reducible first | exact HB.out | apply below_alloc | apply pw_below_drewN | apply below_drew1) | exact HB.out))) : w.heap.size ≤ gb263)); clear HB; have HB := n0_; have BK263 := n1_; have GW263 := n2_; have GE263 := n3_; clear n0_ n1_ n2_ n3_; clear hb hbox hg))
  (try simp only [Act.put, List.setIfInBounds_toArray, List.set_cons_zero, List.set_cons_succ])
  go_cut [21] (fun v21 wc => ∃ (kq : Nat) (x21_1 : Bool), v21 = .bool x21_1 ∧ Aside0 (crossbuckref01_Parse.j0 kq a0 x21_1 = some (r1, r2, r3)) ∧ Aside0 (kq ≤ k) ∧ Aside0 (wc.heap[gb263]? = some (.cells #[.int .u64 0, .int .u64 0] 24 (0, 0))) ∧ Aside0 (Below w.heap.size w wc))
  case first =>
    have H := HC2.out
    clear HC2
    by_cases c4 : (a0.size : Int) = 0
    · rw [if_pos c4] at H
      have c4b0 : ((a0.size : Int) == 0) = true := beq_iff_eq.mpr c4
      have c4b1 : ((a0.size : Int) != 0) = false := bne_eq_false_iff_eq.mpr c4
      clear c4
      (first | rw [c4b0] | (simp only [i64_w, i32_w]; rw [c4b0]) | skip)
      have H' := Aside0.mk H
      clear H
      go_wp2
      go_meet
      case rel => exact ⟨_, (true), (by first | rfl | (simp; done) | (simp [*]; done)), H', ⟨by first | omega | exact Nat.le_refl _⟩, ⟨by (with_reducible repeat (first | refine blk_drewN ?_ _ | refine blk_drew ?_ | refine blk_alloc ?_ _)); exact BK263.out⟩, ⟨by repeat (first | (with_reducible first | exact HB.out | apply below_alloc | apply pw_below_drewN | apply below_drew1 | refine below_set ?_ GE263.out) | exact HB.out)⟩⟩
    · rw [if_neg c4] at H
      have c4b0 : ((a0.size : Int) == 0) = false := beq_eq_false_iff_ne.mpr c4
      have c4b1 : ((a0.size : Int) != 0) = true := bne_iff_ne.mpr c4
      (first | rw [c4b0] | (simp only [i64_w, i32_w]; rw [c4b0]) | skip)
      by_cases c5 : (a0.size : Int) > 1
      · rw [if_pos c5] at H
        have c5b0 : decide (1 < (a0.size : Int)) = true := decide_eq_true c5
        have c5b1 : decide (1 < a0.size) = true := decide_eq_true (by omega)
        clear c5
        by_cases c6 : 0 < (a0.size : Int)
        · rw [if_pos c6] at H
          have c6b0 : decide (0 < (a0.size : Int)) = true := decide_eq_true c6
          have c6b1 : decide (0 < a0.size) = true := decide_eq_true (by omega)
          clear c6
          have H' := Aside0.mk H
          clear H
          have p7 : 0 ≤ (0 : Int) := (by omega)
          have q7 : 0 < a0.size := (by have : (0 : Int) < (a0.size : Int) := of_decide_eq_true (by first | (with_reducible assumption) | assumption); omega)
          have hx7 : ∀ h : 0 < a0.size, ((a0[0]'h).toNat : Int) = bt a0 0 := bt_at a0 0
          clear p7
          have qi7 : (0 < (a0.size : Int)) = True := eq_true (of_decide_eq_true (by first | (with_reducible assumption) | assumption))
          replace q7 := eq_true q7
          go_wp2
          go_meet
          case rel => exact ⟨_, (((bt a0 0) == 48)), (by first | rfl | (simp; done) | (simp [*]; done)), H', ⟨by first | omega | exact Nat.le_refl _⟩, ⟨by (with_reducible repeat (first | refine blk_drewN ?_ _ | refine blk_drew ?_ | refine blk_alloc ?_ _)); exact BK263.out⟩, ⟨by repeat (first | (with_reducible first | exact HB.out | apply below_alloc | apply pw_below_drewN | apply below_drew1 | refine below_set ?_ GE263.out) | exact HB.out)⟩⟩
        · rw [if_neg c6] at H
          exact absurd H (by simp)
      · rw [if_neg c5] at H
        have c5b0 : decide (1 < (a0.size : Int)) = false := decide_eq_false c5
        have c5b1 : decide (1 < a0.size) = false := decide_eq_false (by omega)
        clear c5
        have H' := Aside0.mk H
        clear H
        go_wp2
        go_meet
        case rel => exact ⟨_, (false), (by first | rfl | (simp; done) | (simp [*]; done)), H', ⟨by first | omega | exact Nat.le_refl _⟩, ⟨by (with_reducible repeat (first | refine blk_drewN ?_ _ | refine blk_drew ?_ | refine blk_alloc ?_ _)); exact BK263.out⟩, ⟨by repeat (first | (with_reducible first | exact HB.out | apply below_alloc | apply pw_below_drewN | apply below_drew1 | refine below_set ?_ GE263.out) | exact HB.out)⟩⟩
  case rest =>
    clear HC2
    try clear c1
    try clear p2
    try clear c4
    try clear c4b0
    try clear c4b1
    try clear c5
    try clear c5b0
    try clear c5b1
    try clear c6
    try clear c6b0
    try clear c6b1
    try clear p7
    try clear q7
    try clear hx7
    try clear qi7
    try clear p7
    try clear q7
    obtain ⟨kq, x21_1, rfl, HA, HJ1, BK263, HB⟩ := hcut
    cases kq with
    | zero => exact absurd HA.out (by simp [crossbuckref01_Parse.j0])
    | succ kj1 =>
      have H := HA.out
      clear HA
      simp only [crossbuckref01_Parse.j0] at H
      by_cases c8 : x21_1 = true
      · subst c8
        have H1 : (some (0, 0, 6)) = some (r1, r2, r3) := by rw [if_pos rfl] at H; exact H
        clear H
        have H := H1
        clear H1
        simp only [Option.some.injEq, Prod.mk.injEq] at H
        obtain ⟨rfl, rfl, rfl⟩ := H
        have hcz9_0 : wc.cell? ⟨gb263, 0, none⟩ = some (.int .u64 0) := (blk_cell BK263.out 0).trans rfl
        have hcz9_1 : wc.cell? ⟨gb263, 1, none⟩ = some (.int .u64 0) := (blk_cell BK263.out 1).trans rfl
        have hfz9_0 := blk_frozen BK263.out 0
        have hfz9_1 := blk_frozen BK263.out 1
        go_wp2
        refine bodyPost_ret (results_ct rfl _ _ gb263 24 #[.int .u64 0, .int .u64 0] (0, 0) _ rfl (by (with_reducible repeat (first | refine blk_drewN ?_ _ | refine blk_drew ?_ | refine blk_alloc ?_ _)); refine blk_put (cs := #[.int .u64 0, .int .u64 0]) ?_ 1 _ rfl; (with_reducible repeat (first | refine blk_drewN ?_ _ | refine blk_drew ?_ | refine blk_alloc ?_ _)); refine blk_put (cs := #[.int .u64 0, .int .u64 0]) ?_ 0 _ rfl; (with_reducible repeat (first | refine blk_drewN ?_ _ | refine blk_drew ?_ | refine blk_alloc ?_ _)); exact BK263.out) Try.underlying24 rfl (by kernel_rfl)) rfl ?_
        exact ⟨by first | rfl | (simp [errW_none, errW_some] <;> rfl) | (simp [*, errW_none, errW_some] <;> rfl), by repeat (first | (with_reducible first | exact HB.out | apply below_alloc | apply pw_below_drewN | apply below_drew1 | refine below_set ?_ GE263.out) | exact HB.out)⟩
      · replace c8 := Bool.eq_false_iff.mpr c8
        subst c8
        have H1 : (crossbuckref01_Parse.l0 kj1 a0 0 0 0) = some (r1, r2, r3) := by rw [if_neg (show ¬ (false = true) by decide)] at H; exact H
        clear H
        have H := H1
        clear H1
        have H' := Aside0.mk H
        clear H
        go_wp2_with (first | ((with_reducible refine gate_dst (N := 4) rfl ?_); (try (refine gate_guard (by rfl) ?_; dsimp only)); refine box_event ?hg (N := 4) ?hd (cs := #[.int .u64 0, .int .u64 0]) (t := 24) ?hr ?_; (case hd => rfl); (case hg => rfl); (case hr => first | (go_simp; done) | (go_simp; rfl)); intro gb264 hg w10 hbox hb; have n0_ := Aside0.mk (blk_below (g := gb263) (o := .cells #[.int .u64 0, .int .u64 0] 24 (0, 0)) (by (with_reducible repeat (first | refine blk_drewN ?_ _ | refine blk_drew ?_ | refine blk_alloc ?_ _)); exact BK263.out) hb); have n1_ := Aside0.mk (below_step (by repeat (first | (with_reducible first | exact HB.out | apply below_alloc | apply pw_below_drewN | apply below_drew1 | refine below_set ?_ GE263.out) | exact HB.out)) hb); have n2_ := Aside0.mk (hbox); have n3_ := Aside0.mk ((by rw [hg]; exact (below_size (by repeat (first | (with_reducible first | exact HB.out | apply below_alloc | apply pw_below_drewN | apply below_drew1 | refine below_set ?_ GE263.out) | exact HB.out))) : w.heap.size ≤ gb264)); have n4_ := Aside0.mk ((by rw [hg]; exact (below_size (by repeat (first | (with_reducible first | exact HB.out | apply below_alloc | apply pw_below_drewN | apply below_drew1 | refine below_set ?_ GE263.out) | exact HB.out))) : w.heap.size ≤ gb264)); have n5_ := Aside0.mk ((by rw [hg]; exact Nat.ne_of_lt (blk_lt (g := gb263) (o := .cells #[.int .u64 0, .int .u64 0] 24 (0, 0)) (by (with_reducible repeat (first | refine blk_drewN ?_ _ | refine blk_drew ?_ | refine blk_alloc ?_ _)); exact BK263.out)) : gb263 ≠ gb264)); have n6_ := Aside0.mk ((by rw [hg]; exact Nat.ne_of_gt (blk_lt (g := gb263) (o := .cells #[.int .u64 0, .int .u64 0] 24 (0, 0)) (by (with_reducible repeat (first | refine blk_drewN ?_ _ | refine blk_drew ?_ | refine blk_alloc ?_ _)); exact BK263.out)) : gb264 ≠ gb263)); clear BK263; clear HB; have BK263 := n0_; have HB := n1_; have BK264 := n2_; have GW264 := n3_; have GE264 := n4_; have NB263_264 := n5_; have NB264_263 := n6_; clear n0_ n1_ n2_ n3_ n4_ n5_ n6_; clear hb hbox hg; have hnb11 := NB264_263.out; have hnc11 := NB263_264.out; have hcz12_0 : w10.cell? ⟨gb264, 0, none⟩ = some (.int .u64 0) := (blk_cell BK264.out 0).trans rfl; have hcz12_1 : w10.cell? ⟨gb264, 1, none⟩ = some (.int .u64 0) := (blk_cell BK264.out 1).trans rfl; have hfz12_0 := blk_frozen BK264.out 0; have hfz12_1 := blk_frozen BK264.out 1))
        go_loopg [5] kj1 (fun kq v5 w' => ∃ (x5_2 : Int) (x264000_2 : Int) (x264001_2 : Int) (x265000_2 : Int) (x265001_2 : Int), v5 = .int .i64 x5_2 ∧ Aside0 (crossbuckref01_Parse.l0 kq a0 x5_2 x265000_2 x265001_2 = some (r1, r2, r3)) ∧ Aside0 (kq ≤ kj1) ∧ Aside0 (w'.heap[gb263]? = some (.cells #[.int .u64 x264000_2, .int .u64 x264001_2] 24 (0, 0))) ∧ Aside0 (w'.heap[gb264]? = some (.cells #[.int .u64 x265000_2, .int .u64 x265001_2] 24 (0, 0))) ∧ Aside0 (Below w.heap.size w w'))
        case atStart => exact ⟨(0), (0), (0), (0), (0), (by first | rfl | (simp; done) | (simp [*]; done)), H', ⟨Nat.le_refl _⟩, ⟨by (with_reducible repeat (first | refine blk_drewN ?_ _ | refine blk_drew ?_ | refine blk_alloc ?_ _)); refine blk_far ?_ NB263_264.out _; (with_reducible repeat (first | refine blk_drewN ?_ _ | refine blk_drew ?_ | refine blk_alloc ?_ _)); refine blk_far ?_ NB263_264.out _; (with_reducible repeat (first | refine blk_drewN ?_ _ | refine blk_drew ?_ | refine blk_alloc ?_ _)); exact BK263.out⟩, ⟨by (with_reducible repeat (first | refine blk_drewN ?_ _ | refine blk_drew ?_ | refine blk_alloc ?_ _)); refine blk_put (cs := #[.int .u64 0, .int .u64 0]) ?_ 1 _ rfl; (with_reducible repeat (first | refine blk_drewN ?_ _ | refine blk_drew ?_ | refine blk_alloc ?_ _)); refine blk_put (cs := #[.int .u64 0, .int .u64 0]) ?_ 0 _ rfl; (with_reducible repeat (first | refine blk_drewN ?_ _ | refine blk_drew ?_ | refine blk_alloc ?_ _)); exact BK264.out⟩, ⟨by repeat (first | (with_reducible first | exact HB.out | apply below_alloc | apply pw_below_drewN | apply below_drew1 | refine below_set ?_ GE263.out | refine below_set ?_ GE264.out) | exact HB.out)⟩⟩
        case round =>
          clear H'
          try clear c1
          try clear p2
          try clear c4
          try clear c4b0
          try clear c4b1
          try clear c5
          try clear c5b0
          try clear c5b1
          try clear c6
          try clear c6b0
          try clear c6b1
          try clear p7
          try clear q7
          try clear hx7
          try clear qi7
          try clear c8
          try clear c11
          try clear hcz12_0
          try clear hcz12_1
          try clear hcz9_0
          try clear hcz9_1
          try clear hfz12_0
          try clear hfz12_1
          try clear hfz9_0
          try clear hfz9_1
          try clear p2
          try clear p7
          try clear q7
          obtain ⟨x5_2, x264000_2, x264001_2, x265000_2, x265001_2, rfl, HA, HK2, BK263, BK264, HB⟩ := hrel
          cases gk with
          | zero => exact absurd HA.out (by simp [crossbuckref01_Parse.l0])
          | succ k2 =>
            have H := HA.out
            clear HA
            simp only [crossbuckref01_Parse.l0] at H
            by_cases c13 : x5_2 < (a0.size : Int)
            · rw [if_pos c13] at H
              have c13b0 : decide (x5_2 < (a0.size : Int)) = true := decide_eq_true c13
              clear c13
              have HC14 := Aside0.mk H
              clear H
              go_upto_region 7 with (fail)
              go_cut [39] (fun v39 wc => ∃ (kq : Nat) (x39_13 : Bool), v39 = .bool x39_13 ∧ Aside0 (crossbuckref01_Parse.j2 kq a0 x5_2 x39_13 x265000_2 x265001_2 = some (r1, r2, r3)) ∧ Aside0 (kq ≤ k2) ∧ Aside0 (wc.heap[gb263]? = some (.cells #[.int .u64 x264000_2, .int .u64 x264001_2] 24 (0, 0))) ∧ Aside0 (wc.heap[gb264]? = some (.cells #[.int .u64 x265000_2, .int .u64 x265001_2] 24 (0, 0))) ∧ Aside0 (Below w.heap.size w wc))
              case first =>
                have H := HC14.out
                clear HC14
                by_cases c15 : 0 ≤ x5_2
                · rw [if_pos c15] at H
                  have c15b0 : decide (0 ≤ x5_2) = true := decide_eq_true c15
                  clear c15
                  (first | rw [c15b0] | (simp only [i64_w, i32_w]; rw [c15b0]) | skip)
                  by_cases c17 : (bt a0 x5_2) < 48
                  · rw [if_pos c17] at H
                    have c17b0 : decide ((bt a0 x5_2) < 48) = true := decide_eq_true c17
                    clear c17
                    have H' := Aside0.mk H
                    clear H
                    have p16 : 0 ≤ (x5_2 : Int) := of_decide_eq_true (by first | (with_reducible assumption) | assumption)
                    have q16 : x5_2 < (a0.size : Int) := of_decide_eq_true (by first | (with_reducible assumption) | assumption)
                    have hx16 := bt_at a0 x5_2
                    replace p16 := eq_true p16
                    replace q16 := eq_true q16
                    go_wp2
                    go_meet
                    case rel => exact ⟨_, (true), (by first | rfl | (simp; done) | (simp [*]; done)), H', ⟨by have := HJ1.out; have := HK2.out; first | omega | exact Nat.le_refl _⟩, ⟨by (with_reducible repeat (first | refine blk_drewN ?_ _ | refine blk_drew ?_ | refine blk_alloc ?_ _)); exact BK263.out⟩, ⟨by (with_reducible repeat (first | refine blk_drewN ?_ _ | refine blk_drew ?_ | refine blk_alloc ?_ _)); exact BK264.out⟩, ⟨by repeat (first | (with_reducible first | exact HB.out | apply below_alloc | apply pw_below_drewN | apply below_drew1 | refine below_set ?_ GE263.out | refine below_set ?_ GE264.out) | exact HB.out)⟩⟩
                  · rw [if_neg c17] at H
                    have c17b0 : decide ((bt a0 x5_2) < 48) = false := decide_eq_false c17
                    clear c17
                    have H' := Aside0.mk H
                    clear H
                    have p16 : 0 ≤ (x5_2 : Int) := of_decide_eq_true (by first | (with_reducible assumption) | assumption)
                    have q16 : x5_2 < (a0.size : Int) := of_decide_eq_true (by first | (with_reducible assumption) | assumption)
                    have hx16 := bt_at a0 x5_2
                    replace p16 := eq_true p16
                    replace q16 := eq_true q16
                    have p18 : 0 ≤ (x5_2 : Int) := of_decide_eq_true (by first | (with_reducible assumption) | assumption)
                    have q18 : x5_2 < (a0.size : Int) := of_decide_eq_true (by first | (with_reducible assumption) | assumption)
                    have hx18 := bt_at a0 x5_2
                    replace p18 := eq_true p18
                    replace q18 := eq_true q18
                    go_wp2
                    go_meet
                    case rel => exact ⟨_, (decide ((bt a0 x5_2) > 57)), (by first | rfl | (simp; done) | (simp [*]; done)), H', ⟨by have := HJ1.out; have := HK2.out; first | omega | exact Nat.le_refl _⟩, ⟨by (with_reducible repeat (first | refine blk_drewN ?_ _ | refine blk_drew ?_ | refine blk_alloc ?_ _)); exact BK263.out⟩, ⟨by (with_reducible repeat (first | refine blk_drewN ?_ _ | refine blk_drew ?_ | refine blk_alloc ?_ _)); exact BK264.out⟩, ⟨by repeat (first | (with_reducible first | exact HB.out | apply below_alloc | apply pw_below_drewN | apply below_drew1 | refine below_set ?_ GE263.out | refine below_set ?_ GE264.out) | exact HB.out)⟩⟩
                · rw [if_neg c15] at H
                  exact absurd H (by simp)
              case rest =>
                clear HC14
                try clear c1
                try clear p1
                try clear q1
                try clear hx1
                try clear p2
                try clear c4
                try clear c4b0
                try clear c4b1
                try clear c5
                try clear c5b0
                try clear c5b1
                try clear c6
                try clear c6b0
                try clear c6b1
                try clear p7
                try clear q7
                try clear hx7
                try clear qi7
                try clear c8
                try clear c11
                try clear c13
                try clear c13b0
                try clear c15
                try clear c15b0
                try clear p16
                try clear q16
                try clear hx16
                try clear c17
                try clear c17b0
                try clear p18
                try clear q18
                try clear hx18
                try clear hcz12_0
                try clear hcz12_1
                try clear hcz9_0
                try clear hcz9_1
                try clear hfz12_0
                try clear hfz12_1
                try clear hfz9_0
                try clear hfz9_1
                try clear p16
                try clear p18
                try clear p2
                try clear p7
                try clear q16
                try clear q18
                try clear q7
                obtain ⟨kq, x39_13, rfl, HA, HJ13, BK263, BK264, HB⟩ := hcut
                cases kq with
                | zero => exact absurd HA.out (by simp [crossbuckref01_Parse.j2])
                | succ kj13 =>
                  have H := HA.out
                  clear HA
                  simp only [crossbuckref01_Parse.j2] at H
                  by_cases c19 : x39_13 = true
                  · subst c19
                    have H1 : (some (0, 0, 6)) = some (r1, r2, r3) := by rw [if_pos rfl] at H; exact H
                    clear H
                    have H := H1
                    clear H1
                    simp only [Option.some.injEq, Prod.mk.injEq] at H
                    obtain ⟨rfl, rfl, rfl⟩ := H
                    have hnb20 := NB263_264.out
                    have hnc20 := NB264_263.out
                    have hcz21_0 : wc.cell? ⟨gb263, 0, none⟩ = some (.int .u64 x264000_2) := (blk_cell BK263.out 0).trans rfl
                    have hcz21_1 : wc.cell? ⟨gb263, 1, none⟩ = some (.int .u64 x264001_2) := (blk_cell BK263.out 1).trans rfl
                    have hfz21_0 := blk_frozen BK263.out 0
                    have hfz21_1 := blk_frozen BK263.out 1
                    go_wp2
                    refine bodyPost_ret (results_ct rfl _ _ gb263 24 #[.int .u64 0, .int .u64 0] (0, 0) _ rfl (by (with_reducible repeat (first | refine blk_drewN ?_ _ | refine blk_drew ?_ | refine blk_alloc ?_ _)); refine blk_put (cs := #[.int .u64 0, .int .u64 x264001_2]) ?_ 1 _ rfl; (with_reducible repeat (first | refine blk_drewN ?_ _ | refine blk_drew ?_ | refine blk_alloc ?_ _)); refine blk_put (cs := #[.int .u64 x264000_2, .int .u64 x264001_2]) ?_ 0 _ rfl; (with_reducible repeat (first | refine blk_drewN ?_ _ | refine blk_drew ?_ | refine blk_alloc ?_ _)); exact BK263.out) Try.underlying24 rfl (by kernel_rfl)) rfl ?_
                    exact ⟨by first | rfl | (simp [errW_none, errW_some] <;> rfl) | (simp [*, errW_none, errW_some] <;> rfl), by repeat (first | (with_reducible first | exact HB.out | apply below_alloc | apply pw_below_drewN | apply below_drew1 | refine below_set ?_ GE263.out | refine below_set ?_ GE264.out) | exact HB.out)⟩
                  · replace c19 := Bool.eq_false_iff.mpr c19
                    subst c19
                    have H1 : (if 0 ≤ x5_2 then (if x5_2 < (a0.size : Int) then (crossbuckref01_Parse.l1 kj13 a0 x5_2 0 x265000_2 x265001_2 0 (((bt a0 x5_2) - 48) % 256)) else (none)) else (none)) = some (r1, r2, r3) := by rw [if_neg (show ¬ (false = true) by decide)] at H; exact H
                    clear H
                    have H := H1
                    clear H1
                    by_cases c22 : 0 ≤ x5_2
                    · rw [if_pos c22] at H
                      have c22b0 : decide (0 ≤ x5_2) = true := decide_eq_true c22
                      clear c22
                      by_cases c23 : x5_2 < (a0.size : Int)
                      · rw [if_pos c23] at H
                        have c23b0 : decide (x5_2 < (a0.size : Int)) = true := decide_eq_true c23
                        clear c23
                        have H' := Aside0.mk H
                        clear H
                        have p24 : 0 ≤ (x5_2 : Int) := of_decide_eq_true (by first | (with_reducible assumption) | assumption)
                        have q24 : x5_2 < (a0.size : Int) := of_decide_eq_true (by first | (with_reducible assumption) | assumption)
                        have hx24 := bt_at a0 x5_2
                        replace p24 := eq_true p24
                        replace q24 := eq_true q24
                        go_wp2_with (first | ((with_reducible refine gate_dst (N := 6) rfl ?_); (try (refine gate_guard (by rfl) ?_; dsimp only)); refine box_event ?hg (N := 6) ?hd (cs := #[.int .u64 0, .int .u64 0]) (t := 24) ?hr ?_; (case hd => rfl); (case hg => rfl); (case hr => first | (go_simp; done) | (go_simp; rfl)); intro gb265 hg w25 hbox hb; have n0_ := Aside0.mk (blk_below (g := gb263) (o := .cells #[.int .u64 x264000_2, .int .u64 x264001_2] 24 (0, 0)) (by (with_reducible repeat (first | refine blk_drewN ?_ _ | refine blk_drew ?_ | refine blk_alloc ?_ _)); exact BK263.out) hb); have n1_ := Aside0.mk (blk_below (g := gb264) (o := .cells #[.int .u64 x265000_2, .int .u64 x265001_2] 24 (0, 0)) (by (with_reducible repeat (first | refine blk_drewN ?_ _ | refine blk_drew ?_ | refine blk_alloc ?_ _)); exact BK264.out) hb); have n2_ := Aside0.mk (below_step (by repeat (first | (with_reducible first | exact HB.out | apply below_alloc | apply pw_below_drewN | apply below_drew1 | refine below_set ?_ GE263.out | refine below_set ?_ GE264.out) | exact HB.out)) hb); have n3_ := Aside0.mk (hbox); have n4_ := Aside0.mk ((by rw [hg]; exact (below_size (by repeat (first | (with_reducible first | exact HB.out | apply below_alloc | apply pw_below_drewN | apply below_drew1 | refine below_set ?_ GE263.out | refine below_set ?_ GE264.out) | exact HB.out))) : w.heap.size ≤ gb265)); have n5_ := Aside0.mk ((by rw [hg]; exact (below_size (by repeat (first | (with_reducible first | exact HB.out | apply below_alloc | apply pw_below_drewN | apply below_drew1 | refine below_set ?_ GE263.out | refine below_set ?_ GE264.out) | exact HB.out))) : w.heap.size ≤ gb265)); have n6_ := Aside0.mk ((by rw [hg]; exact Nat.ne_of_lt (blk_lt (g := gb263) (o := .cells #[.int .u64 x264000_2, .int .u64 x264001_2] 24 (0, 0)) (by (with_reducible repeat (first | refine blk_drewN ?_ _ | refine blk_drew ?_ | refine blk_alloc ?_ _)); exact BK263.out)) : gb263 ≠ gb265)); have n7_ := Aside0.mk ((by rw [hg]; exact Nat.ne_of_gt (blk_lt (g := gb263) (o := .cells #[.int .u64 x264000_2, .int .u64 x264001_2] 24 (0, 0)) (by (with_reducible repeat (first | refine blk_drewN ?_ _ | refine blk_drew ?_ | refine blk_alloc ?_ _)); exact BK263.out)) : gb265 ≠ gb263)); have n8_ := Aside0.mk ((by rw [hg]; exact Nat.ne_of_lt (blk_lt (g := gb264) (o := .cells #[.int .u64 x265000_2, .int .u64 x265001_2] 24 (0, 0)) (by (with_reducible repeat (first | refine blk_drewN ?_ _ | refine blk_drew ?_ | refine blk_alloc ?_ _)); exact BK264.out)) : gb264 ≠ gb265)); have n9_ := Aside0.mk ((by rw [hg]; exact Nat.ne_of_gt (blk_lt (g := gb264) (o := .cells #[.int .u64 x265000_2, .int .u64 x265001_2] 24 (0, 0)) (by (with_reducible repeat (first | refine blk_drewN ?_ _ | refine blk_drew ?_ | refine blk_alloc ?_ _)); exact BK264.out)) : gb265 ≠ gb264)); clear BK263; clear BK264; clear HB; have BK263 := n0_; have BK264 := n1_; have HB := n2_; have BK265 := n3_; have GW265 := n4_; have GE265 := n5_; have NB263_265 := n6_; have NB265_263 := n7_; have NB264_265 := n8_; have NB265_264 := n9_; clear n0_ n1_ n2_ n3_ n4_ n5_ n6_ n7_ n8_ n9_; clear hb hbox hg; have hnb26 := NB265_263.out; have hnc26 := NB263_265.out; have hnb27 := NB265_264.out; have hnc27 := NB264_265.out; have hcz28_0 : w25.cell? ⟨gb265, 0, none⟩ = some (.int .u64 0) := (blk_cell BK265.out 0).trans rfl; have hcz28_1 : w25.cell? ⟨gb265, 1, none⟩ = some (.int .u64 0) := (blk_cell BK265.out 1).trans rfl; have hfz28_0 := blk_frozen BK265.out 0; have hfz28_1 := blk_frozen BK265.out 1))
                        go_loopg [7] kj13 (fun kq v7 w' => ∃ (x7_4 : Int) (x264000_4 : Int) (x264001_4 : Int) (x266000_4 : Int) (x266001_4 : Int), v7 = .int .i64 x7_4 ∧ Aside0 (crossbuckref01_Parse.l1 kq a0 x5_2 x7_4 x265000_2 x265001_2 x266000_4 x266001_4 = some (r1, r2, r3)) ∧ Aside0 (kq ≤ kj13) ∧ Aside0 (w'.heap[gb263]? = some (.cells #[.int .u64 x264000_4, .int .u64 x264001_4] 24 (0, 0))) ∧ Aside0 (w'.heap[gb264]? = some (.cells #[.int .u64 x265000_2, .int .u64 x265001_2] 24 (0, 0))) ∧ Aside0 (w'.heap[gb265]? = some (.cells #[.int .u64 x266000_4, .int .u64 x266001_4] 24 (0, 0))) ∧ Aside0 (Below w.heap.size w w'))
                        case atStart => exact ⟨(0), (x264000_2), (x264001_2), (0), (((bt a0 x5_2) - 48) % 256), (by first | rfl | (simp; done) | (simp [*]; done)), H', ⟨Nat.le_refl _⟩, ⟨by (with_reducible repeat (first | refine blk_drewN ?_ _ | refine blk_drew ?_ | refine blk_alloc ?_ _)); refine blk_far ?_ NB263_265.out _; (with_reducible repeat (first | refine blk_drewN ?_ _ | refine blk_drew ?_ | refine blk_alloc ?_ _)); refine blk_far ?_ NB263_265.out _; (with_reducible repeat (first | refine blk_drewN ?_ _ | refine blk_drew ?_ | refine blk_alloc ?_ _)); exact BK263.out⟩, ⟨by (with_reducible repeat (first | refine blk_drewN ?_ _ | refine blk_drew ?_ | refine blk_alloc ?_ _)); refine blk_far ?_ NB264_265.out _; (with_reducible repeat (first | refine blk_drewN ?_ _ | refine blk_drew ?_ | refine blk_alloc ?_ _)); refine blk_far ?_ NB264_265.out _; (with_reducible repeat (first | refine blk_drewN ?_ _ | refine blk_drew ?_ | refine blk_alloc ?_ _)); exact BK264.out⟩, ⟨by (with_reducible repeat (first | refine blk_drewN ?_ _ | refine blk_drew ?_ | refine blk_alloc ?_ _)); refine blk_put (cs := #[.int .u64 0, .int .u64 0]) ?_ 1 _ rfl; (with_reducible repeat (first | refine blk_drewN ?_ _ | refine blk_drew ?_ | refine blk_alloc ?_ _)); refine blk_put (cs := #[.int .u64 0, .int .u64 0]) ?_ 0 _ rfl; (with_reducible repeat (first | refine blk_drewN ?_ _ | refine blk_drew ?_ | refine blk_alloc ?_ _)); exact BK265.out⟩, ⟨by repeat (first | (with_reducible first | exact HB.out | apply below_alloc | apply pw_below_drewN | apply below_drew1 | refine below_set ?_ GE263.out | refine below_set ?_ GE264.out | refine below_set ?_ GE265.out) | exact HB.out)⟩⟩
                        case round =>
                          clear H'
                          try clear c1
                          try clear p1
                          try clear q1
                          try clear hx1
                          try clear c2
                          try clear p2
                          try clear q2
                          try clear hx2
                          try clear c4
                          try clear c4b0
                          try clear c4b1
                          try clear c5
                          try clear c5b0
                          try clear c5b1
                          try clear c6
                          try clear c6b0
                          try clear c6b1
                          try clear p7
                          try clear q7
                          try clear hx7
                          try clear qi7
                          try clear c8
                          try clear c11
                          try clear c13
                          try clear c13b0
                          try clear c15
                          try clear c15b0
                          try clear p16
                          try clear q16
                          try clear hx16
                          try clear c17
                          try clear c17b0
                          try clear p18
                          try clear q18
                          try clear hx18
                          try clear c19
                          try clear c20
                          try clear c22
                          try clear c22b0
                          try clear c23
                          try clear c23b0
                          try clear p24
                          try clear q24
                          try clear hx24
                          try clear c26
                          try clear c27
                          try clear hcz12_0
                          try clear hcz12_1
                          try clear hcz21_0
                          try clear hcz21_1
                          try clear hcz28_0
                          try clear hcz28_1
                          try clear hcz9_0
                          try clear hcz9_1
                          try clear hfz12_0
                          try clear hfz12_1
                          try clear hfz21_0
                          try clear hfz21_1
                          try clear hfz28_0
                          try clear hfz28_1
                          try clear hfz9_0
                          try clear hfz9_1
                          try clear p1
                          try clear p16
                          try clear p18
                          try clear p2
                          try clear p24
                          try clear p7
                          try clear q1
                          try clear q16
                          try clear q18
                          try clear q24
                          try clear q7
                          obtain ⟨x7_4, x264000_4, x264001_4, x266000_4, x266001_4, rfl, HA, HK4, BK263, BK264, BK265, HB⟩ := hrel
                          cases gk with
                          | zero => exact absurd HA.out (by simp [crossbuckref01_Parse.l1])
                          | succ k4 =>
                            have H := HA.out
                            clear HA
                            simp only [crossbuckref01_Parse.l1] at H
                            by_cases c29 : x7_4 < 10
                            · rw [if_pos c29] at H
                              have c29b0 : decide (x7_4 < 10) = true := decide_eq_true c29
                              clear c29
                              replace H := Option.bind_eq_some_iff.mp H
                              obtain ⟨⟨t266, t267⟩, A300, H⟩ := H
                              replace H : ((crossbuckref01_Less.f t266 t267 x266000_4 x266001_4).bind fun t269 => (if t269 = true then (some (0, 0, 5)) else (crossbuckref01_Parse.l1 k4 a0 x5_2 (wrap64 (x7_4 + 1)) x265000_2 x265001_2 t266 t267))) = some (r1, r2, r3) := H
                              have A30 := Aside0.mk A300
                              clear A300
                              replace H := Option.bind_eq_some_iff.mp H
                              obtain ⟨t269, A310, H⟩ := H
                              replace H : (if t269 = true then (some (0, 0, 5)) else (crossbuckref01_Parse.l1 k4 a0 x5_2 (wrap64 (x7_4 + 1)) x265000_2 x265001_2 t266 t267)) = some (r1, r2, r3) := H
                              have A31 := Aside0.mk A310
                              clear A310
                              by_cases c32 : t269 = true
                              · subst c32
                                have H1 : (some (0, 0, 5)) = some (r1, r2, r3) := by rw [if_pos rfl] at H; exact H
                                clear H
                                have H := H1
                                clear H1
                                simp only [Option.some.injEq, Prod.mk.injEq] at H
                                obtain ⟨rfl, rfl, rfl⟩ := H
                                have hnb33 := NB265_263.out
                                have hnc33 := NB263_265.out
                                have hnb34 := NB265_264.out
                                have hnc34 := NB264_265.out
                                have hcz35_0 : wr.cell? ⟨gb265, 0, none⟩ = some (.int .u64 x266000_4) := (blk_cell BK265.out 0).trans rfl
                                have hcz35_1 : wr.cell? ⟨gb265, 1, none⟩ = some (.int .u64 x266001_4) := (blk_cell BK265.out 1).trans rfl
                                have hfz35_0 := blk_frozen BK265.out 0
                                have hfz35_1 := blk_frozen BK265.out 1
                                have hnb36 := NB264_263.out
                                have hnc36 := NB263_264.out
                                have hcz37_0 : wr.cell? ⟨gb264, 0, none⟩ = some (.int .u64 x265000_2) := (blk_cell BK264.out 0).trans rfl
                                have hcz37_1 : wr.cell? ⟨gb264, 1, none⟩ = some (.int .u64 x265001_2) := (blk_cell BK264.out 1).trans rfl
                                have hfz37_0 := blk_frozen BK264.out 0
                                have hfz37_1 := blk_frozen BK264.out 1
                                go_wp2_with (first | ((with_reducible refine gate_callee (f := 16) rfl ?_); refine goesL_ (some 53) rfl rfl Try.func16 (by kernel_rfl) rfl #[.agg #[.int .u64 x266000_4, .int .u64 x266001_4], .agg #[.int .u64 x265000_2, .int .u64 x265001_2]] rfl (by (try simp only [List.map_toArray, List.map_cons, List.map_nil]); first | done | rfl | (simp only [List.length_drop, List.length_take]; rfl)) ?_; (with_reducible refine (crossbuckref01_Add.calls x266000_4 x266001_4 x265000_2 x265001_2 t266 t267 _ A30.out).mono ?_); rintro e w38 ⟨rfl, hb⟩; refine ⟨_, rfl, ?_⟩; have n0_ := Aside0.mk (blk_below (g := gb263) (o := .cells #[.int .u64 x264000_4, .int .u64 x264001_4] 24 (0, 0)) (by (with_reducible repeat (first | refine blk_drewN ?_ _ | refine blk_drew ?_ | refine blk_alloc ?_ _)); exact BK263.out) hb); have n1_ := Aside0.mk (blk_below (g := gb264) (o := .cells #[.int .u64 x265000_2, .int .u64 x265001_2] 24 (0, 0)) (by (with_reducible repeat (first | refine blk_drewN ?_ _ | refine blk_drew ?_ | refine blk_alloc ?_ _)); exact BK264.out) hb); have n2_ := Aside0.mk (blk_below (g := gb265) (o := .cells #[.int .u64 x266000_4, .int .u64 x266001_4] 24 (0, 0)) (by (with_reducible repeat (first | refine blk_drewN ?_ _ | refine blk_drew ?_ | refine blk_alloc ?_ _)); exact BK265.out) hb); have n3_ := Aside0.mk (below_step (by repeat (first | (with_reducible first | exact HB.out | apply below_alloc | apply pw_below_drewN | apply below_drew1 | refine below_set ?_ GE263.out | refine below_set ?_ GE264.out | refine below_set ?_ GE265.out) | exact HB.out)) hb); clear BK263; clear BK264; clear BK265; clear HB; have BK263 := n0_; have BK264 := n1_; have BK265 := n2_; have HB := n3_; clear n0_ n1_ n2_ n3_; (try clear hb); (try clear hb2); (try clear hk); (try clear hi)) | ((with_reducible refine gate_dst (N := 8) rfl ?_); (try (refine gate_guard (by rfl) ?_; dsimp only)); refine box_event ?hg (N := 8) ?hd (cs := #[.int .u64 0, .int .u64 0]) (t := 24) ?hr ?_; (case hd => rfl); (case hg => rfl); (case hr => first | (go_simp; done) | (go_simp; rfl)); intro gb268 hg w39 hbox hb; have n0_ := Aside0.mk (blk_below (g := gb263) (o := .cells #[.int .u64 x264000_4, .int .u64 x264001_4] 24 (0, 0)) (by (with_reducible repeat (first | refine blk_drewN ?_ _ | refine blk_drew ?_ | refine blk_alloc ?_ _)); exact BK263.out) hb); have n1_ := Aside0.mk (blk_below (g := gb264) (o := .cells #[.int .u64 x265000_2, .int .u64 x265001_2] 24 (0, 0)) (by (with_reducible repeat (first | refine blk_drewN ?_ _ | refine blk_drew ?_ | refine blk_alloc ?_ _)); exact BK264.out) hb); have n2_ := Aside0.mk (blk_below (g := gb265) (o := .cells #[.int .u64 x266000_4, .int .u64 x266001_4] 24 (0, 0)) (by (with_reducible repeat (first | refine blk_drewN ?_ _ | refine blk_drew ?_ | refine blk_alloc ?_ _)); exact BK265.out) hb); have n3_ := Aside0.mk (below_step (by repeat (first | (with_reducible first | exact HB.out | apply below_alloc | apply pw_below_drewN | apply below_drew1 | refine below_set ?_ GE263.out | refine below_set ?_ GE264.out | refine below_set ?_ GE265.out) | exact HB.out)) hb); have n4_ := Aside0.mk (hbox); have n5_ := Aside0.mk ((by rw [hg]; exact (below_size (by repeat (first | (with_reducible first | exact HB.out | apply below_alloc | apply pw_below_drewN | apply below_drew1 | refine below_set ?_ GE263.out | refine below_set ?_ GE264.out | refine below_set ?_ GE265.out) | exact HB.out))) : w.heap.size ≤ gb268)); have n6_ := Aside0.mk ((by rw [hg]; exact (below_size (by repeat (first | (with_reducible first | exact HB.out | apply below_alloc | apply pw_below_drewN | apply below_drew1 | refine below_set ?_ GE263.out | refine below_set ?_ GE264.out | refine below_set ?_ GE265.out) | exact HB.out))) : w.heap.size ≤ gb268)); have n7_ := Aside0.mk ((by rw [hg]; exact Nat.ne_of_lt (blk_lt (g := gb263) (o := .cells #[.int .u64 x264000_4, .int .u64 x264001_4] 24 (0, 0)) (by (with_reducible repeat (first | refine blk_drewN ?_ _ | refine blk_drew ?_ | refine blk_alloc ?_ _)); exact BK263.out)) : gb263 ≠ gb268)); have n8_ := Aside0.mk ((by rw [hg]; exact Nat.ne_of_gt (blk_lt (g := gb263) (o := .cells #[.int .u64 x264000_4, .int .u64 x264001_4] 24 (0, 0)) (by (with_reducible repeat (first | refine blk_drewN ?_ _ | refine blk_drew ?_ | refine blk_alloc ?_ _)); exact BK263.out)) : gb268 ≠ gb263)); have n9_ := Aside0.mk ((by rw [hg]; exact Nat.ne_of_lt (blk_lt (g := gb264) (o := .cells #[.int .u64 x265000_2, .int .u64 x265001_2] 24 (0, 0)) (by (with_reducible repeat (first | refine blk_drewN ?_ _ | refine blk_drew ?_ | refine blk_alloc ?_ _)); exact BK264.out)) : gb264 ≠ gb268)); have n10_ := Aside0.mk ((by rw [hg]; exact Nat.ne_of_gt (blk_lt (g := gb264) (o := .cells #[.int .u64 x265000_2, .int .u64 x265001_2] 24 (0, 0)) (by (with_reducible repeat (first | refine blk_drewN ?_ _ | refine blk_drew ?_ | refine blk_alloc ?_ _)); exact BK264.out)) : gb268 ≠ gb264)); have n11_ := Aside0.mk ((by rw [hg]; exact Nat.ne_of_lt (blk_lt (g := gb265) (o := .cells #[.int .u64 x266000_4, .int .u64 x266001_4] 24 (0, 0)) (by (with_reducible repeat (first | refine blk_drewN ?_ _ | refine blk_drew ?_ | refine blk_alloc ?_ _)); exact BK265.out)) : gb265 ≠ gb268)); have n12_ := Aside0.mk ((by rw [hg]; exact Nat.ne_of_gt (blk_lt (g := gb265) (o := .cells #[.int .u64 x266000_4, .int .u64 x266001_4] 24 (0, 0)) (by (with_reducible repeat (first | refine blk_drewN ?_ _ | refine blk_drew ?_ | refine blk_alloc ?_ _)); exact BK265.out)) : gb268 ≠ gb265)); clear BK263; clear BK264; clear BK265; clear HB; have BK263 := n0_; have BK264 := n1_; have BK265 := n2_; have HB := n3_; have BK268 := n4_; have GW268 := n5_; have GE268 := n6_; have NB263_268 := n7_; have NB268_263 := n8_; have NB264_268 := n9_; have NB268_264 := n10_; have NB265_268 := n11_; have NB268_265 := n12_; clear n0_ n1_ n2_ n3_ n4_ n5_ n6_ n7_ n8_ n9_ n10_ n11_ n12_; clear hb hbox hg; have hnb40 := NB268_263.out; have hnc40 := NB263_268.out; have hnb41 := NB268_264.out; have hnc41 := NB264_268.out; have hnb42 := NB268_265.out; have hnc42 := NB265_268.out; have hcz43_0 : w39.cell? ⟨gb268, 0, none⟩ = some (.int .u64 0) := (blk_cell BK268.out 0).trans rfl; have hcz43_1 : w39.cell? ⟨gb268, 1, none⟩ = some (.int .u64 0) := (blk_cell BK268.out 1).trans rfl; have hfz43_0 := blk_frozen BK268.out 0; have hfz43_1 := blk_frozen BK268.out 1; have hcz44_0 : w39.cell? ⟨gb265, 0, none⟩ = some (.int .u64 x266000_4) := (blk_cell BK265.out 0).trans rfl; have hcz44_1 : w39.cell? ⟨gb265, 1, none⟩ = some (.int .u64 x266001_4) := (blk_cell BK265.out 1).trans rfl; have hfz44_0 := blk_frozen BK265.out 0; have hfz44_1 := blk_frozen BK265.out 1) | ((with_reducible refine gate_callee (f := 14) rfl ?_); refine goesL_ (some 56) rfl rfl Try.func14 (by kernel_rfl) rfl #[.agg #[.int .u64 t266, .int .u64 t267], .agg #[.int .u64 x266000_4, .int .u64 x266001_4]] rfl (by (try simp only [List.map_toArray, List.map_cons, List.map_nil]); first | done | rfl | (simp only [List.length_drop, List.length_take]; rfl)) ?_; (with_reducible refine (crossbuckref01_Less.calls t266 t267 x266000_4 x266001_4 true _ A31.out).mono ?_); rintro e w45 ⟨rfl, hb⟩; refine ⟨_, rfl, ?_⟩; have n0_ := Aside0.mk (blk_below (g := gb263) (o := .cells #[.int .u64 x264000_4, .int .u64 x264001_4] 24 (0, 0)) (by (with_reducible repeat (first | refine blk_drewN ?_ _ | refine blk_drew ?_ | refine blk_alloc ?_ _)); refine blk_far ?_ NB263_268.out _; (with_reducible repeat (first | refine blk_drewN ?_ _ | refine blk_drew ?_ | refine blk_alloc ?_ _)); refine blk_far ?_ NB263_268.out _; (with_reducible repeat (first | refine blk_drewN ?_ _ | refine blk_drew ?_ | refine blk_alloc ?_ _)); exact BK263.out) hb); have n1_ := Aside0.mk (blk_below (g := gb264) (o := .cells #[.int .u64 x265000_2, .int .u64 x265001_2] 24 (0, 0)) (by (with_reducible repeat (first | refine blk_drewN ?_ _ | refine blk_drew ?_ | refine blk_alloc ?_ _)); refine blk_far ?_ NB264_268.out _; (with_reducible repeat (first | refine blk_drewN ?_ _ | refine blk_drew ?_ | refine blk_alloc ?_ _)); refine blk_far ?_ NB264_268.out _; (with_reducible repeat (first | refine blk_drewN ?_ _ | refine blk_drew ?_ | refine blk_alloc ?_ _)); exact BK264.out) hb); have n2_ := Aside0.mk (blk_below (g := gb265) (o := .cells #[.int .u64 x266000_4, .int .u64 x266001_4] 24 (0, 0)) (by (with_reducible repeat (first | refine blk_drewN ?_ _ | refine blk_drew ?_ | refine blk_alloc ?_ _)); refine blk_far ?_ NB265_268.out _; (with_reducible repeat (first | refine blk_drewN ?_ _ | refine blk_drew ?_ | refine blk_alloc ?_ _)); refine blk_far ?_ NB265_268.out _; (with_reducible repeat (first | refine blk_drewN ?_ _ | refine blk_drew ?_ | refine blk_alloc ?_ _)); exact BK265.out) hb); have n3_ := Aside0.mk (blk_below (g := gb268) (o := .cells #[.int .u64 t266, .int .u64 t267] 24 (0, 0)) (by (with_reducible repeat (first | refine blk_drewN ?_ _ | refine blk_drew ?_ | refine blk_alloc ?_ _)); refine blk_put (cs := #[.int .u64 t266, .int .u64 0]) ?_ 1 _ rfl; (with_reducible repeat (first | refine blk_drewN ?_ _ | refine blk_drew ?_ | refine blk_alloc ?_ _)); refine blk_put (cs := #[.int .u64 0, .int .u64 0]) ?_ 0 _ rfl; (with_reducible repeat (first | refine blk_drewN ?_ _ | refine blk_drew ?_ | refine blk_alloc ?_ _)); exact BK268.out) hb); have n4_ := Aside0.mk (below_step (by repeat (first | (with_reducible first | exact HB.out | apply below_alloc | apply pw_below_drewN | apply below_drew1 | refine below_set ?_ GE263.out | refine below_set ?_ GE264.out | refine below_set ?_ GE265.out | refine below_set ?_ GE268.out) | exact HB.out)) hb); clear BK263; clear BK264; clear BK265; clear BK268; clear HB; have BK263 := n0_; have BK264 := n1_; have BK265 := n2_; have BK268 := n3_; have HB := n4_; clear n0_ n1_ n2_ n3_ n4_; (try clear hb); (try clear hb2); (try clear hk); (try clear hi); have hcz46_0 : w45.cell? ⟨gb263, 0, none⟩ = some (.int .u64 x264000_4) := (blk_cell BK263.out 0).trans rfl; have hcz46_1 : w45.cell? ⟨gb263, 1, none⟩ = some (.int .u64 x264001_4) := (blk_cell BK263.out 1).trans rfl; have hfz46_0 := blk_frozen BK263.out 0; have hfz46_1 := blk_frozen BK263.out 1))
                                refine bodyPost_ret (results_ct rfl _ _ gb263 24 #[.int .u64 0, .int .u64 0] (0, 0) _ rfl (by (with_reducible repeat (first | refine blk_drewN ?_ _ | refine blk_drew ?_ | refine blk_alloc ?_ _)); refine blk_put (cs := #[.int .u64 0, .int .u64 x264001_4]) ?_ 1 _ rfl; (with_reducible repeat (first | refine blk_drewN ?_ _ | refine blk_drew ?_ | refine blk_alloc ?_ _)); refine blk_put (cs := #[.int .u64 x264000_4, .int .u64 x264001_4]) ?_ 0 _ rfl; (with_reducible repeat (first | refine blk_drewN ?_ _ | refine blk_drew ?_ | refine blk_alloc ?_ _)); exact BK263.out) Try.underlying24 rfl (by kernel_rfl)) rfl ?_
                                exact ⟨by first | rfl | (simp [errW_none, errW_some] <;> rfl) | (simp [*, errW_none, errW_some] <;> rfl), by repeat (first | (with_reducible first | exact HB.out | apply below_alloc | apply pw_below_drewN | apply below_drew1 | refine below_set ?_ GE263.out | refine below_set ?_ GE264.out | refine below_set ?_ GE265.out | refine below_set ?_ GE268.out) | exact HB.out)⟩
                              · replace c32 := Bool.eq_false_iff.mpr c32
                                subst c32
                                have H1 : (crossbuckref01_Parse.l1 k4 a0 x5_2 (wrap64 (x7_4 + 1)) x265000_2 x265001_2 t266 t267) = some (r1, r2, r3) := by rw [if_neg (show ¬ (false = true) by decide)] at H; exact H
                                clear H
                                have H := H1
                                clear H1
                                have H' := Aside0.mk H
                                clear H
                                have hnb47 := NB265_263.out
                                have hnc47 := NB263_265.out
                                have hnb48 := NB265_264.out
                                have hnc48 := NB264_265.out
                                have hcz49_0 : wr.cell? ⟨gb265, 0, none⟩ = some (.int .u64 x266000_4) := (blk_cell BK265.out 0).trans rfl
                                have hcz49_1 : wr.cell? ⟨gb265, 1, none⟩ = some (.int .u64 x266001_4) := (blk_cell BK265.out 1).trans rfl
                                have hfz49_0 := blk_frozen BK265.out 0
                                have hfz49_1 := blk_frozen BK265.out 1
                                have hnb50 := NB264_263.out
                                have hnc50 := NB263_264.out
                                have hcz51_0 : wr.cell? ⟨gb264, 0, none⟩ = some (.int .u64 x265000_2) := (blk_cell BK264.out 0).trans rfl
                                have hcz51_1 : wr.cell? ⟨gb264, 1, none⟩ = some (.int .u64 x265001_2) := (blk_cell BK264.out 1).trans rfl
                                have hfz51_0 := blk_frozen BK264.out 0
                                have hfz51_1 := blk_frozen BK264.out 1
                                go_wp2_with (first | ((with_reducible refine gate_callee (f := 16) rfl ?_); refine goesL_ (some 53) rfl rfl Try.func16 (by kernel_rfl) rfl #[.agg #[.int .u64 x266000_4, .int .u64 x266001_4], .agg #[.int .u64 x265000_2, .int .u64 x265001_2]] rfl (by (try simp only [List.map_toArray, List.map_cons, List.map_nil]); first | done | rfl | (simp only [List.length_drop, List.length_take]; rfl)) ?_; (with_reducible refine (crossbuckref01_Add.calls x266000_4 x266001_4 x265000_2 x265001_2 t266 t267 _ A30.out).mono ?_); rintro e w52 ⟨rfl, hb⟩; refine ⟨_, rfl, ?_⟩; have n0_ := Aside0.mk (blk_below (g := gb263) (o := .cells #[.int .u64 x264000_4, .int .u64 x264001_4] 24 (0, 0)) (by (with_reducible repeat (first | refine blk_drewN ?_ _ | refine blk_drew ?_ | refine blk_alloc ?_ _)); exact BK263.out) hb); have n1_ := Aside0.mk (blk_below (g := gb264) (o := .cells #[.int .u64 x265000_2, .int .u64 x265001_2] 24 (0, 0)) (by (with_reducible repeat (first | refine blk_drewN ?_ _ | refine blk_drew ?_ | refine blk_alloc ?_ _)); exact BK264.out) hb); have n2_ := Aside0.mk (blk_below (g := gb265) (o := .cells #[.int .u64 x266000_4, .int .u64 x266001_4] 24 (0, 0)) (by (with_reducible repeat (first | refine blk_drewN ?_ _ | refine blk_drew ?_ | refine blk_alloc ?_ _)); exact BK265.out) hb); have n3_ := Aside0.mk (below_step (by repeat (first | (with_reducible first | exact HB.out | apply below_alloc | apply pw_below_drewN | apply below_drew1 | refine below_set ?_ GE263.out | refine below_set ?_ GE264.out | refine below_set ?_ GE265.out) | exact HB.out)) hb); clear BK263; clear BK264; clear BK265; clear HB; have BK263 := n0_; have BK264 := n1_; have BK265 := n2_; have HB := n3_; clear n0_ n1_ n2_ n3_; (try clear hb); (try clear hb2); (try clear hk); (try clear hi)) | ((with_reducible refine gate_dst (N := 8) rfl ?_); (try (refine gate_guard (by rfl) ?_; dsimp only)); refine box_event ?hg (N := 8) ?hd (cs := #[.int .u64 0, .int .u64 0]) (t := 24) ?hr ?_; (case hd => rfl); (case hg => rfl); (case hr => first | (go_simp; done) | (go_simp; rfl)); intro gb268 hg w53 hbox hb; have n0_ := Aside0.mk (blk_below (g := gb263) (o := .cells #[.int .u64 x264000_4, .int .u64 x264001_4] 24 (0, 0)) (by (with_reducible repeat (first | refine blk_drewN ?_ _ | refine blk_drew ?_ | refine blk_alloc ?_ _)); exact BK263.out) hb); have n1_ := Aside0.mk (blk_below (g := gb264) (o := .cells #[.int .u64 x265000_2, .int .u64 x265001_2] 24 (0, 0)) (by (with_reducible repeat (first | refine blk_drewN ?_ _ | refine blk_drew ?_ | refine blk_alloc ?_ _)); exact BK264.out) hb); have n2_ := Aside0.mk (blk_below (g := gb265) (o := .cells #[.int .u64 x266000_4, .int .u64 x266001_4] 24 (0, 0)) (by (with_reducible repeat (first | refine blk_drewN ?_ _ | refine blk_drew ?_ | refine blk_alloc ?_ _)); exact BK265.out) hb); have n3_ := Aside0.mk (below_step (by repeat (first | (with_reducible first | exact HB.out | apply below_alloc | apply pw_below_drewN | apply below_drew1 | refine below_set ?_ GE263.out | refine below_set ?_ GE264.out | refine below_set ?_ GE265.out) | exact HB.out)) hb); have n4_ := Aside0.mk (hbox); have n5_ := Aside0.mk ((by rw [hg]; exact (below_size (by repeat (first | (with_reducible first | exact HB.out | apply below_alloc | apply pw_below_drewN | apply below_drew1 | refine below_set ?_ GE263.out | refine below_set ?_ GE264.out | refine below_set ?_ GE265.out) | exact HB.out))) : w.heap.size ≤ gb268)); have n6_ := Aside0.mk ((by rw [hg]; exact (below_size (by repeat (first | (with_reducible first | exact HB.out | apply below_alloc | apply pw_below_drewN | apply below_drew1 | refine below_set ?_ GE263.out | refine below_set ?_ GE264.out | refine below_set ?_ GE265.out) | exact HB.out))) : w.heap.size ≤ gb268)); have n7_ := Aside0.mk ((by rw [hg]; exact Nat.ne_of_lt (blk_lt (g := gb263) (o := .cells #[.int .u64 x264000_4, .int .u64 x264001_4] 24 (0, 0)) (by (with_reducible repeat (first | refine blk_drewN ?_ _ | refine blk_drew ?_ | refine blk_alloc ?_ _)); exact BK263.out)) : gb263 ≠ gb268)); have n8_ := Aside0.mk ((by rw [hg]; exact Nat.ne_of_gt (blk_lt (g := gb263) (o := .cells #[.int .u64 x264000_4, .int .u64 x264001_4] 24 (0, 0)) (by (with_reducible repeat (first | refine blk_drewN ?_ _ | refine blk_drew ?_ | refine blk_alloc ?_ _)); exact BK263.out)) : gb268 ≠ gb263)); have n9_ := Aside0.mk ((by rw [hg]; exact Nat.ne_of_lt (blk_lt (g := gb264) (o := .cells #[.int .u64 x265000_2, .int .u64 x265001_2] 24 (0, 0)) (by (with_reducible repeat (first | refine blk_drewN ?_ _ | refine blk_drew ?_ | refine blk_alloc ?_ _)); exact BK264.out)) : gb264 ≠ gb268)); have n10_ := Aside0.mk ((by rw [hg]; exact Nat.ne_of_gt (blk_lt (g := gb264) (o := .cells #[.int .u64 x265000_2, .int .u64 x265001_2] 24 (0, 0)) (by (with_reducible repeat (first | refine blk_drewN ?_ _ | refine blk_drew ?_ | refine blk_alloc ?_ _)); exact BK264.out)) : gb268 ≠ gb264)); have n11_ := Aside0.mk ((by rw [hg]; exact Nat.ne_of_lt (blk_lt (g := gb265) (o := .cells #[.int .u64 x266000_4, .int .u64 x266001_4] 24 (0, 0)) (by (with_reducible repeat (first | refine blk_drewN ?_ _ | refine blk_drew ?_ | refine blk_alloc ?_ _)); exact BK265.out)) : gb265 ≠ gb268)); have n12_ := Aside0.mk ((by rw [hg]; exact Nat.ne_of_gt (blk_lt (g := gb265) (o := .cells #[.int .u64 x266000_4, .int .u64 x266001_4] 24 (0, 0)) (by (with_reducible repeat (first | refine blk_drewN ?_ _ | refine blk_drew ?_ | refine blk_alloc ?_ _)); exact BK265.out)) : gb268 ≠ gb265)); clear BK263; clear BK264; clear BK265; clear HB; have BK263 := n0_; have BK264 := n1_; have BK265 := n2_; have HB := n3_; have BK268 := n4_; have GW268 := n5_; have GE268 := n6_; have NB263_268 := n7_; have NB268_263 := n8_; have NB264_268 := n9_; have NB268_264 := n10_; have NB265_268 := n11_; have NB268_265 := n12_; clear n0_ n1_ n2_ n3_ n4_ n5_ n6_ n7_ n8_ n9_ n10_ n11_ n12_; clear hb hbox hg; have hnb54 := NB268_263.out; have hnc54 := NB263_268.out; have hnb55 := NB268_264.out; have hnc55 := NB264_268.out; have hnb56 := NB268_265.out; have hnc56 := NB265_268.out; have hcz57_0 : w53.cell? ⟨gb268, 0, none⟩ = some (.int .u64 0) := (blk_cell BK268.out 0).trans rfl; have hcz57_1 : w53.cell? ⟨gb268, 1, none⟩ = some (.int .u64 0) := (blk_cell BK268.out 1).trans rfl; have hfz57_0 := blk_frozen BK268.out 0; have hfz57_1 := blk_frozen BK268.out 1; have hcz58_0 : w53.cell? ⟨gb265, 0, none⟩ = some (.int .u64 x266000_4) := (blk_cell BK265.out 0).trans rfl; have hcz58_1 : w53.cell? ⟨gb265, 1, none⟩ = some (.int .u64 x266001_4) := (blk_cell BK265.out 1).trans rfl; have hfz58_0 := blk_frozen BK265.out 0; have hfz58_1 := blk_frozen BK265.out 1) | ((with_reducible refine gate_callee (f := 14) rfl ?_); refine goesL_ (some 56) rfl rfl Try.func14 (by kernel_rfl) rfl #[.agg #[.int .u64 t266, .int .u64 t267], .agg #[.int .u64 x266000_4, .int .u64 x266001_4]] rfl (by (try simp only [List.map_toArray, List.map_cons, List.map_nil]); first | done | rfl | (simp only [List.length_drop, List.length_take]; rfl)) ?_; (with_reducible refine (crossbuckref01_Less.calls t266 t267 x266000_4 x266001_4 false _ A31.out).mono ?_); rintro e w59 ⟨rfl, hb⟩; refine ⟨_, rfl, ?_⟩; have n0_ := Aside0.mk (blk_below (g := gb263) (o := .cells #[.int .u64 x264000_4, .int .u64 x264001_4] 24 (0, 0)) (by (with_reducible repeat (first | refine blk_drewN ?_ _ | refine blk_drew ?_ | refine blk_alloc ?_ _)); refine blk_far ?_ NB263_268.out _; (with_reducible repeat (first | refine blk_drewN ?_ _ | refine blk_drew ?_ | refine blk_alloc ?_ _)); refine blk_far ?_ NB263_268.out _; (with_reducible repeat (first | refine blk_drewN ?_ _ | refine blk_drew ?_ | refine blk_alloc ?_ _)); exact BK263.out) hb); have n1_ := Aside0.mk (blk_below (g := gb264) (o := .cells #[.int .u64 x265000_2, .int .u64 x265001_2] 24 (0, 0)) (by (with_reducible repeat (first | refine blk_drewN ?_ _ | refine blk_drew ?_ | refine blk_alloc ?_ _)); refine blk_far ?_ NB264_268.out _; (with_reducible repeat (first | refine blk_drewN ?_ _ | refine blk_drew ?_ | refine blk_alloc ?_ _)); refine blk_far ?_ NB264_268.out _; (with_reducible repeat (first | refine blk_drewN ?_ _ | refine blk_drew ?_ | refine blk_alloc ?_ _)); exact BK264.out) hb); have n2_ := Aside0.mk (blk_below (g := gb265) (o := .cells #[.int .u64 x266000_4, .int .u64 x266001_4] 24 (0, 0)) (by (with_reducible repeat (first | refine blk_drewN ?_ _ | refine blk_drew ?_ | refine blk_alloc ?_ _)); refine blk_far ?_ NB265_268.out _; (with_reducible repeat (first | refine blk_drewN ?_ _ | refine blk_drew ?_ | refine blk_alloc ?_ _)); refine blk_far ?_ NB265_268.out _; (with_reducible repeat (first | refine blk_drewN ?_ _ | refine blk_drew ?_ | refine blk_alloc ?_ _)); exact BK265.out) hb); have n3_ := Aside0.mk (blk_below (g := gb268) (o := .cells #[.int .u64 t266, .int .u64 t267] 24 (0, 0)) (by (with_reducible repeat (first | refine blk_drewN ?_ _ | refine blk_drew ?_ | refine blk_alloc ?_ _)); refine blk_put (cs := #[.int .u64 t266, .int .u64 0]) ?_ 1 _ rfl; (with_reducible repeat (first | refine blk_drewN ?_ _ | refine blk_drew ?_ | refine blk_alloc ?_ _)); refine blk_put (cs := #[.int .u64 0, .int .u64 0]) ?_ 0 _ rfl; (with_reducible repeat (first | refine blk_drewN ?_ _ | refine blk_drew ?_ | refine blk_alloc ?_ _)); exact BK268.out) hb); have n4_ := Aside0.mk (below_step (by repeat (first | (with_reducible first | exact HB.out | apply below_alloc | apply pw_below_drewN | apply below_drew1 | refine below_set ?_ GE263.out | refine below_set ?_ GE264.out | refine below_set ?_ GE265.out | refine below_set ?_ GE268.out) | exact HB.out)) hb); clear BK263; clear BK264; clear BK265; clear BK268; clear HB; have BK263 := n0_; have BK264 := n1_; have BK265 := n2_; have BK268 := n3_; have HB := n4_; clear n0_ n1_ n2_ n3_ n4_; (try clear hb); (try clear hb2); (try clear hk); (try clear hi); have hcz60_0 : w59.cell? ⟨gb268, 0, none⟩ = some (.int .u64 t266) := (blk_cell BK268.out 0).trans rfl; have hcz60_1 : w59.cell? ⟨gb268, 1, none⟩ = some (.int .u64 t267) := (blk_cell BK268.out 1).trans rfl; have hfz60_0 := blk_frozen BK268.out 0; have hfz60_1 := blk_frozen BK268.out 1; have hcz61_0 : w59.cell? ⟨gb265, 0, none⟩ = some (.int .u64 x266000_4) := (blk_cell BK265.out 0).trans rfl; have hcz61_1 : w59.cell? ⟨gb265, 1, none⟩ = some (.int .u64 x266001_4) := (blk_cell BK265.out 1).trans rfl; have hfz61_0 := blk_frozen BK265.out 0; have hfz61_1 := blk_frozen BK265.out 1))
                                go_roundg k4
                                case measure => have := HJ1.out; have := HK2.out; have := HJ13.out; have := HK4.out; omega
                                case rel => exact ⟨(wrap64 (x7_4 + 1)), (x264000_4), (x264001_4), (t266), (t267), (by first | rfl | (simp; done) | (simp [*]; done)), H', ⟨by have := HJ1.out; have := HK2.out; have := HJ13.out; have := HK4.out; omega⟩, ⟨by (with_reducible repeat (first | refine blk_drewN ?_ _ | refine blk_drew ?_ | refine blk_alloc ?_ _)); refine blk_far ?_ NB263_265.out _; (with_reducible repeat (first | refine blk_drewN ?_ _ | refine blk_drew ?_ | refine blk_alloc ?_ _)); refine blk_far ?_ NB263_265.out _; (with_reducible repeat (first | refine blk_drewN ?_ _ | refine blk_drew ?_ | refine blk_alloc ?_ _)); exact BK263.out⟩, ⟨by (with_reducible repeat (first | refine blk_drewN ?_ _ | refine blk_drew ?_ | refine blk_alloc ?_ _)); refine blk_far ?_ NB264_265.out _; (with_reducible repeat (first | refine blk_drewN ?_ _ | refine blk_drew ?_ | refine blk_alloc ?_ _)); refine blk_far ?_ NB264_265.out _; (with_reducible repeat (first | refine blk_drewN ?_ _ | refine blk_drew ?_ | refine blk_alloc ?_ _)); exact BK264.out⟩, ⟨by (with_reducible repeat (first | refine blk_drewN ?_ _ | refine blk_drew ?_ | refine blk_alloc ?_ _)); refine blk_put (cs := #[.int .u64 t266, .int .u64 x266001_4]) ?_ 1 _ rfl; (with_reducible repeat (first | refine blk_drewN ?_ _ | refine blk_drew ?_ | refine blk_alloc ?_ _)); refine blk_put (cs := #[.int .u64 x266000_4, .int .u64 x266001_4]) ?_ 0 _ rfl; (with_reducible repeat (first | refine blk_drewN ?_ _ | refine blk_drew ?_ | refine blk_alloc ?_ _)); exact BK265.out⟩, ⟨by repeat (first | (with_reducible first | exact HB.out | apply below_alloc | apply pw_below_drewN | apply below_drew1 | refine below_set ?_ GE263.out | refine below_set ?_ GE264.out | refine below_set ?_ GE265.out | refine below_set ?_ GE268.out) | exact HB.out)⟩⟩
                            · rw [if_neg c29] at H
                              have c29b0 : decide (x7_4 < 10) = false := decide_eq_false c29
                              clear c29
                              have H' := Aside0.mk H
                              clear H
                              have hnb62 := NB265_263.out
                              have hnc62 := NB263_265.out
                              have hnb63 := NB265_264.out
                              have hnc63 := NB264_265.out
                              have hcz64_0 : wr.cell? ⟨gb265, 0, none⟩ = some (.int .u64 x266000_4) := (blk_cell BK265.out 0).trans rfl
                              have hcz64_1 : wr.cell? ⟨gb265, 1, none⟩ = some (.int .u64 x266001_4) := (blk_cell BK265.out 1).trans rfl
                              have hfz64_0 := blk_frozen BK265.out 0
                              have hfz64_1 := blk_frozen BK265.out 1
                              have hnb65 := NB264_263.out
                              have hnc65 := NB263_264.out
                              have hcz66_0 : wr.cell? ⟨gb264, 0, none⟩ = some (.int .u64 x265000_2) := (blk_cell BK264.out 0).trans rfl
                              have hcz66_1 : wr.cell? ⟨gb264, 1, none⟩ = some (.int .u64 x265001_2) := (blk_cell BK264.out 1).trans rfl
                              have hfz66_0 := blk_frozen BK264.out 0
                              have hfz66_1 := blk_frozen BK264.out 1
                              go_wp2
                              go_roundg k4
                              case measure => have := HJ1.out; have := HK2.out; have := HJ13.out; have := HK4.out; omega
                              case rel => exact ⟨(wrap64 (x5_2 + 1)), (x264000_4), (x264001_4), (x266000_4), (x266001_4), (by first | rfl | (simp; done) | (simp [*]; done)), H', ⟨by have := HJ1.out; have := HK2.out; have := HJ13.out; have := HK4.out; omega⟩, ⟨by (with_reducible repeat (first | refine blk_drewN ?_ _ | refine blk_drew ?_ | refine blk_alloc ?_ _)); refine blk_far ?_ NB263_264.out _; (with_reducible repeat (first | refine blk_drewN ?_ _ | refine blk_drew ?_ | refine blk_alloc ?_ _)); refine blk_far ?_ NB263_264.out _; (with_reducible repeat (first | refine blk_drewN ?_ _ | refine blk_drew ?_ | refine blk_alloc ?_ _)); exact BK263.out⟩, ⟨by (with_reducible repeat (first | refine blk_drewN ?_ _ | refine blk_drew ?_ | refine blk_alloc ?_ _)); refine blk_put (cs := #[.int .u64 x266000_4, .int .u64 x265001_2]) ?_ 1 _ rfl; (with_reducible repeat (first | refine blk_drewN ?_ _ | refine blk_drew ?_ | refine blk_alloc ?_ _)); refine blk_put (cs := #[.int .u64 x265000_2, .int .u64 x265001_2]) ?_ 0 _ rfl; (with_reducible repeat (first | refine blk_drewN ?_ _ | refine blk_drew ?_ | refine blk_alloc ?_ _)); exact BK264.out⟩, ⟨by repeat (first | (with_reducible first | exact HB.out | apply below_alloc | apply pw_below_drewN | apply below_drew1 | refine below_set ?_ GE263.out | refine below_set ?_ GE264.out | refine below_set ?_ GE265.out) | exact HB.out)⟩⟩
                      · rw [if_neg c23] at H
                        exact absurd H (by simp)
                    · rw [if_neg c22] at H
                      exact absurd H (by simp)
            · rw [if_neg c13] at H
              have c13b0 : decide (x5_2 < (a0.size : Int)) = false := decide_eq_false c13
              clear c13
              simp only [Option.some.injEq, Prod.mk.injEq] at H
              obtain ⟨rfl, rfl, rfl⟩ := H
              have hnb67 := NB264_263.out
              have hnc67 := NB263_264.out
              have hcz68_0 : wr.cell? ⟨gb264, 0, none⟩ = some (.int .u64 x265000_2) := (blk_cell BK264.out 0).trans rfl
              have hcz68_1 : wr.cell? ⟨gb264, 1, none⟩ = some (.int .u64 x265001_2) := (blk_cell BK264.out 1).trans rfl
              have hfz68_0 := blk_frozen BK264.out 0
              have hfz68_1 := blk_frozen BK264.out 1
              have hcz69_0 : wr.cell? ⟨gb263, 0, none⟩ = some (.int .u64 x264000_2) := (blk_cell BK263.out 0).trans rfl
              have hcz69_1 : wr.cell? ⟨gb263, 1, none⟩ = some (.int .u64 x264001_2) := (blk_cell BK263.out 1).trans rfl
              have hfz69_0 := blk_frozen BK263.out 0
              have hfz69_1 := blk_frozen BK263.out 1
              go_wp2
              refine bodyPost_ret (results_ct rfl _ _ gb263 24 #[.int .u64 x265000_2, .int .u64 x265001_2] (0, 0) _ rfl (by (with_reducible repeat (first | refine blk_drewN ?_ _ | refine blk_drew ?_ | refine blk_alloc ?_ _)); refine blk_put (cs := #[.int .u64 x265000_2, .int .u64 x264001_2]) ?_ 1 _ rfl; (with_reducible repeat (first | refine blk_drewN ?_ _ | refine blk_drew ?_ | refine blk_alloc ?_ _)); refine blk_put (cs := #[.int .u64 x264000_2, .int .u64 x264001_2]) ?_ 0 _ rfl; (with_reducible repeat (first | refine blk_drewN ?_ _ | refine blk_drew ?_ | refine blk_alloc ?_ _)); exact BK263.out) Try.underlying24 rfl (by kernel_rfl)) rfl ?_
              exact ⟨by first | rfl | (simp [errW_none, errW_some] <;> rfl) | (simp [*, errW_none, errW_some] <;> rfl), by repeat (first | (with_reducible first | exact HB.out | apply below_alloc | apply pw_below_drewN | apply below_drew1 | refine below_set ?_ GE263.out | refine below_set ?_ GE264.out) | exact HB.out)⟩

end Go.Proofs.Ythifgehpiodkcaa.PAll
