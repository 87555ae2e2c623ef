-- Written by wip/myprint.py and wip/merge.py (this session's own programs); Lean checks it.
-- halved
import Derived.Test.YtdemogdagemagaaPTrx0
import Derived.Test.YtdemogdagemagaaPTrx6
import Derived.Test.YtdemogdagemagaaPTrx7
namespace Go.Proofs.Ytdemogdagemagaa.PTr
open Go.RowKit Go.Proofs.YtdemogdagemagaaW.PrintWords Go.Proofs.YtdemogdagemagaaW.PrintLast Go.Proofs.YtdemogdagemagaaW.PrintMore
attribute [local go_sem] max2_int min2_int max_two min_two max_three min_three max_four min_four   -- for this text's walks alone
set_option linter.unusedVariables false
set_option linter.unusedSimpArgs false

attribute [local go_sem high] eqA90
/-! ### crossbuckref05_Peer: function 20 -/
def crossbuckref05_Peer.l0 : Nat → Int → Int → List (S90) → Int → Option (Int × Int × Bool)
 | 0, _, _, _, _ => none
 | k + 1, x1, x2, x9, x10 => if x10 < (x9.length : Int) then (if 0 ≤ x10 then (if (((rd_T90 x9 x10).f0) == x1 && (((rd_T90 x9 x10).f1) == x2)) = true then (if (Int.tmod x10 2) = 1 then (if 0 ≤ (wrap64 (x10 - 1)) then (if (wrap64 (x10 - 1)) < (x9.length : Int) then (some ((rd_T90 x9 (wrap64 (x10 - 1))).f0, (rd_T90 x9 (wrap64 (x10 - 1))).f1, true)) else (none)) else (none)) else (if 0 ≤ (wrap64 (x10 + 1)) then (if (wrap64 (x10 + 1)) < (x9.length : Int) then (some ((rd_T90 x9 (wrap64 (x10 + 1))).f0, (rd_T90 x9 (wrap64 (x10 + 1))).f1, true)) else (none)) else (none))) else (crossbuckref05_Peer.l0 k x1 x2 x9 (wrap64 (x10 + 1)))) else (none)) else (some (0, 0, false))
def crossbuckref05_Peer.f (k : Nat) (l0_0 : List Int) (l0_1 : List (S39)) (l0_2 : List (S52)) (a1 : Int) (a2 : Int) : Option (Int × Int × Bool) := (crossbuckref05_Ends.f k l0_0 l0_1 l0_2).bind fun t251 => (crossbuckref05_Peer.l0 k a1 a2 t251 0)
theorem crossbuckref05_Peer.mono_l : ∀ k, (∀ y0 y1 y2 y3, LeO (crossbuckref05_Peer.l0 k y0 y1 y2 y3) (crossbuckref05_Peer.l0 (k + 1) y0 y1 y2 y3))
 | 0 => fun _ _ _ _ r h => by simp [crossbuckref05_Peer.l0] at h
 | k + 1 => by
  have ih0 := crossbuckref05_Peer.mono_l k
  ·intro y0 y1 y2 y3
   unfold crossbuckref05_Peer.l0
   repeat' first
   | (with_reducible exact ih0 _ _ _ _)
   | (with_reducible exact crossbuckref05_Ends.mono _ _ _ _)
   | (with_reducible exact LeO.refl _)
   | (with_reducible exact LeO.none _)
   | (with_reducible refine LeO.ite ?_ ?_)
   | (with_reducible refine LeO.bind ?_ (fun _ => ?_))
   | exact ih0 _ _ _ _
   | exact crossbuckref05_Ends.mono _ _ _ _
   | exact LeO.none _
   | refine LeO.ite ?_ ?_
   | refine LeO.bind ?_ (fun _ => ?_)
theorem crossbuckref05_Peer.mono : ∀ a0 a1 a2 a3 a4 k, LeO (crossbuckref05_Peer.f k a0 a1 a2 a3 a4) (crossbuckref05_Peer.f (k + 1) a0 a1 a2 a3 a4) := by
 intro a0 a1 a2 a3 a4 k
 have ih0 := crossbuckref05_Peer.mono_l k
 unfold crossbuckref05_Peer.f
 repeat' first
   | (with_reducible exact ih0 _ _ _ _)
   | (with_reducible exact crossbuckref05_Ends.mono _ _ _ _)
   | (with_reducible exact LeO.refl _)
   | (with_reducible exact LeO.none _)
   | (with_reducible refine LeO.ite ?_ ?_)
   | (with_reducible refine LeO.bind ?_ (fun _ => ?_))
   | exact ih0 _ _ _ _
   | exact crossbuckref05_Ends.mono _ _ _ _
   | exact LeO.none _
   | refine LeO.ite ?_ ?_
   | refine LeO.bind ?_ (fun _ => ?_)
set_option maxHeartbeats 8000000 in
set_option maxRecDepth 100000 in
theorem crossbuckref05_Peer.calls (k : Nat) (A0_0 : Option Addr) (c0_0 : Nat) (l0_0 : List Int) (A0_1 : Option Addr) (c0_1 : Nat) (l0_1 : List (S39)) (A0_2 : Option Addr) (c0_2 : Nat) (l0_2 : List (S52)) (a1 : Int) (a2 : Int) (r1 : Int) (r2 : Int) (r3 : Bool) (w : World) (hr0_0 : Kd.C (Kd.int .i64) w A0_0 l0_0.length l0_0) (hc0_0 : l0_0.length ≤ c0_0) (hr0_1 : Kd.C k39 w A0_1 l0_1.length l0_1) (hc0_1 : l0_1.length ≤ c0_1) (hr0_2 : Kd.C k52 w A0_2 l0_2.length l0_2) (hc0_2 : l0_2.length ≤ c0_2) (h : crossbuckref05_Peer.f k l0_0 l0_1 l0_2 a1 a2 = some (r1, r2, r3)) :
  Calls Try.prog 20 #[.agg #[.slice A0_0 l0_0.length c0_0, .slice A0_1 l0_1.length c0_1, .slice A0_2 l0_2.length c0_2], .int .i64 a1, .int .i64 a2] w fun e w' => e = .returned (.tuple #[.int .i64 r1, .int .i64 r2, .bool r3]) ∧ Below w.heap.size w w' := by
 have hu26 := Try.underlying26
 have hu90 := Try.underlying90
 have HR0_0 := Aside0.mk hr0_0
 have HC0_0 := Aside0.mk hc0_0
 clear hr0_0 hc0_0
 have HR0_1 := Aside0.mk hr0_1
 have HC0_1 := Aside0.mk hc0_1
 clear hr0_1 hc0_1
 have HR0_2 := Aside0.mk hr0_2
 have HC0_2 := Aside0.mk hc0_2
 clear hr0_2 hc0_2
 have HB := Aside0.mk (Below.refl w.heap.size w)
 have H : ((crossbuckref05_Ends.f k l0_0 l0_1 l0_2).bind fun t251 => (crossbuckref05_Peer.l0 k a1 a2 t251 0)) = some (r1, r2, r3) := h
 clear h
 replace H := Option.bind_eq_some_iff.mp H
 obtain ⟨t251, A40, H⟩ := H
 replace H : (crossbuckref05_Peer.l0 k a1 a2 t251 0) = some (r1, r2, r3) := H
 have A4 := Aside0.mk A40
 clear A40
 have H' := Aside0.mk H
 clear H
 go_enter Try.func20, Try.ntmps20
 go_wp2_with (first | ((with_reducible refine gate_dst (N := 3) rfl ?_); refine box_event ?hg (N := 3) ?hd (cs := #[.slice A0_0 l0_0.length c0_0, .slice A0_1 l0_1.length c0_1, .slice A0_2 l0_2.length c0_2]) (t := 26) ?hr ?_; (case hd => rfl); (case hg => rfl); (case hr => first | (go_simp; done) | (go_simp; rfl)); intro gb250 hg w5 hbox hb; have n0_ := Aside0.mk (below_step (by repeat (first | (with_reducible first | exact HB.out | apply below_alloc | apply pw_below_drewN | apply below_drew1) | exact HB.out)) hb); have n1_ := Aside0.mk (hbox); have n2_ := Aside0.mk ((by rw [hg]; exact (below_size (by repeat (first | (with_reducible first | exact HB.out | apply below_alloc | apply pw_below_drewN | apply below_drew1) | exact HB.out))) : w.heap.size ≤ gb250)); have n3_ := Aside0.mk ((by rw [hg]; exact (below_size (by repeat (first | (with_reducible first | exact HB.out | apply below_alloc | apply pw_below_drewN | apply below_drew1) | exact HB.out))) : w.heap.size ≤ gb250)); clear HB; have HB := n0_; have BK250 := n1_; have GW250 := n2_; have GE250 := n3_; clear n0_ n1_ n2_ n3_; clear hb hbox hg; have hcz6_0 : w5.cell? ⟨gb250, 0, none⟩ = some (.slice A0_0 l0_0.length c0_0) := (blk_cell BK250.out 0).trans rfl; have hcz6_1 : w5.cell? ⟨gb250, 1, none⟩ = some (.slice A0_1 l0_1.length c0_1) := (blk_cell BK250.out 1).trans rfl; have hcz6_2 : w5.cell? ⟨gb250, 2, none⟩ = some (.slice A0_2 l0_2.length c0_2) := (blk_cell BK250.out 2).trans rfl; have hfz6_0 := blk_frozen BK250.out 0; have hfz6_1 := blk_frozen BK250.out 1; have hfz6_2 := blk_frozen BK250.out 2) | (go_at_call 47; (with_reducible refine (crossbuckref05_Ends.calls k _ _ l0_0 _ _ l0_1 _ _ l0_2 t251 _ ?side1 ?side2 ?side3 ?side4 ?side5 ?side6 A4.out).mono ?_); (case side1 => repeat (first | exact (Kd.C_below HR0_0.out HB.out) | (with_reducible refine Kd.C_alloc ?_ _) | (with_reducible refine Kd.C_drewN ?_ _) | (with_reducible refine Kd.C_drew ?_))); (case side2 => exact HC0_0.out); (case side3 => repeat (first | exact (Kd.C_below HR0_1.out HB.out) | (with_reducible refine Kd.C_alloc ?_ _) | (with_reducible refine Kd.C_drewN ?_ _) | (with_reducible refine Kd.C_drew ?_))); (case side4 => exact HC0_1.out); (case side5 => repeat (first | exact (Kd.C_below HR0_2.out HB.out) | (with_reducible refine Kd.C_alloc ?_ _) | (with_reducible refine Kd.C_drewN ?_ _) | (with_reducible refine Kd.C_drew ?_))); (case side6 => exact HC0_2.out); rintro e w7 ⟨v252, rfl, ho0, hb⟩; have n0_ := Aside0.mk (Kd.R_lower ho0 (below_size (by repeat (first | (with_reducible first | exact HB.out | apply below_alloc | apply pw_below_drewN | apply below_drew1 | refine below_set ?_ GE250.out) | exact HB.out)))); have n1_ := Aside0.mk (blk_below (g := gb250) (o := .cells #[.slice A0_0 l0_0.length c0_0, .slice A0_1 l0_1.length c0_1, .slice A0_2 l0_2.length c0_2] 26 (0, 0)) (by (with_reducible repeat (first | refine blk_drewN ?_ _ | refine blk_drew ?_ | refine blk_alloc ?_ _)); exact BK250.out) hb); have n2_ := Aside0.mk (below_step (by repeat (first | (with_reducible first | exact HB.out | apply below_alloc | apply pw_below_drewN | apply below_drew1 | refine below_set ?_ GE250.out) | exact HB.out)) hb); clear BK250; clear HB; have HO253 := n0_; have BK250 := n1_; have HB := n2_; clear n0_ n1_ n2_; (try clear hb); (try clear hb2); (try clear hk); (try clear hi); (try clear ho0)))
 repeat (go_quiet (first | ((with_reducible refine gate_dst (N := 3) rfl ?_); refine box_event ?hg (N := 3) ?hd (cs := #[.slice A0_0 l0_0.length c0_0, .slice A0_1 l0_1.length c0_1, .slice A0_2 l0_2.length c0_2]) (t := 26) ?hr ?_; (case hd => rfl); (case hg => rfl); (case hr => first | (go_simp; done) | (go_simp; rfl)); intro gb250 hg w5 hbox hb; have n0_ := Aside0.mk (below_step (by repeat (first | (with_reducible first | exact HB.out | apply below_alloc | apply pw_below_drewN | apply below_drew1) | exact HB.out)) hb); have n1_ := Aside0.mk (hbox); have n2_ := Aside0.mk ((by rw [hg]; exact (below_size (by repeat (first | (with_reducible first | exact HB.out | apply below_alloc | apply pw_below_drewN | apply below_drew1) | exact HB.out))) : w.heap.size ≤ gb250)); have n3_ := Aside0.mk ((by rw [hg]; exact (below_size (by repeat (first | (with_reducible first | exact HB.out | apply below_alloc | apply pw_below_drewN | apply below_drew1) | exact HB.out))) : w.heap.size ≤ gb250)); clear HB; have HB := n0_; have BK250 := n1_; have GW250 := n2_; have GE250 := n3_; clear n0_ n1_ n2_ n3_; clear hb hbox hg; have hcz6_0 : w5.cell? ⟨gb250, 0, none⟩ = some (.slice A0_0 l0_0.length c0_0) := (blk_cell BK250.out 0).trans rfl; have hcz6_1 : w5.cell? ⟨gb250, 1, none⟩ = some (.slice A0_1 l0_1.length c0_1) := (blk_cell BK250.out 1).trans rfl; have hcz6_2 : w5.cell? ⟨gb250, 2, none⟩ = some (.slice A0_2 l0_2.length c0_2) := (blk_cell BK250.out 2).trans rfl; have hfz6_0 := blk_frozen BK250.out 0; have hfz6_1 := blk_frozen BK250.out 1; have hfz6_2 := blk_frozen BK250.out 2) | (go_at_call 47; (with_reducible refine (crossbuckref05_Ends.calls k _ _ l0_0 _ _ l0_1 _ _ l0_2 t251 _ ?side1 ?side2 ?side3 ?side4 ?side5 ?side6 A4.out).mono ?_); (case side1 => repeat (first | exact (Kd.C_below HR0_0.out HB.out) | (with_reducible refine Kd.C_alloc ?_ _) | (with_reducible refine Kd.C_drewN ?_ _) | (with_reducible refine Kd.C_drew ?_))); (case side2 => exact HC0_0.out); (case side3 => repeat (first | exact (Kd.C_below HR0_1.out HB.out) | (with_reducible refine Kd.C_alloc ?_ _) | (with_reducible refine Kd.C_drewN ?_ _) | (with_reducible refine Kd.C_drew ?_))); (case side4 => exact HC0_1.out); (case side5 => repeat (first | exact (Kd.C_below HR0_2.out HB.out) | (with_reducible refine Kd.C_alloc ?_ _) | (with_reducible refine Kd.C_drewN ?_ _) | (with_reducible refine Kd.C_drew ?_))); (case side6 => exact HC0_2.out); rintro e w7 ⟨v252, rfl, ho0, hb⟩; have n0_ := Aside0.mk (Kd.R_lower ho0 (below_size (by repeat (first | (with_reducible first | exact HB.out | apply below_alloc | apply pw_below_drewN | apply below_drew1 | refine below_set ?_ GE250.out) | exact HB.out)))); have n1_ := Aside0.mk (blk_below (g := gb250) (o := .cells #[.slice A0_0 l0_0.length c0_0, .slice A0_1 l0_1.length c0_1, .slice A0_2 l0_2.length c0_2] 26 (0, 0)) (by (with_reducible repeat (first | refine blk_drewN ?_ _ | refine blk_drew ?_ | refine blk_alloc ?_ _)); exact BK250.out) hb); have n2_ := Aside0.mk (below_step (by repeat (first | (with_reducible first | exact HB.out | apply below_alloc | apply pw_below_drewN | apply below_drew1 | refine below_set ?_ GE250.out) | exact HB.out)) hb); clear BK250; clear HB; have HO253 := n0_; have BK250 := n1_; have HB := n2_; clear n0_ n1_ n2_; (try clear hb); (try clear hb2); (try clear hk); (try clear hi); (try clear ho0))); try go_wp2_with (first | ((with_reducible refine gate_dst (N := 3) rfl ?_); refine box_event ?hg (N := 3) ?hd (cs := #[.slice A0_0 l0_0.length c0_0, .slice A0_1 l0_1.length c0_1, .slice A0_2 l0_2.length c0_2]) (t := 26) ?hr ?_; (case hd => rfl); (case hg => rfl); (case hr => first | (go_simp; done) | (go_simp; rfl)); intro gb250 hg w5 hbox hb; have n0_ := Aside0.mk (below_step (by repeat (first | (with_reducible first | exact HB.out | apply below_alloc | apply pw_below_drewN | apply below_drew1) | exact HB.out)) hb); have n1_ := Aside0.mk (hbox); have n2_ := Aside0.mk ((by rw [hg]; exact (below_size (by repeat (first | (with_reducible first | exact HB.out | apply below_alloc | apply pw_below_drewN | apply below_drew1) | exact HB.out))) : w.heap.size ≤ gb250)); have n3_ := Aside0.mk ((by rw [hg]; exact (below_size (by repeat (first | (with_reducible first | exact HB.out | apply below_alloc | apply pw_below_drewN | apply below_drew1) | exact HB.out))) : w.heap.size ≤ gb250)); clear HB; have HB := n0_; have BK250 := n1_; have GW250 := n2_; have GE250 := n3_; clear n0_ n1_ n2_ n3_; clear hb hbox hg; have hcz6_0 : w5.cell? ⟨gb250, 0, none⟩ = some (.slice A0_0 l0_0.length c0_0) := (blk_cell BK250.out 0).trans rfl; have hcz6_1 : w5.cell? ⟨gb250, 1, none⟩ = some (.slice A0_1 l0_1.length c0_1) := (blk_cell BK250.out 1).trans rfl; have hcz6_2 : w5.cell? ⟨gb250, 2, none⟩ = some (.slice A0_2 l0_2.length c0_2) := (blk_cell BK250.out 2).trans rfl; have hfz6_0 := blk_frozen BK250.out 0; have hfz6_1 := blk_frozen BK250.out 1; have hfz6_2 := blk_frozen BK250.out 2) | (go_at_call 47; (with_reducible refine (crossbuckref05_Ends.calls k _ _ l0_0 _ _ l0_1 _ _ l0_2 t251 _ ?side1 ?side2 ?side3 ?side4 ?side5 ?side6 A4.out).mono ?_); (case side1 => repeat (first | exact (Kd.C_below HR0_0.out HB.out) | (with_reducible refine Kd.C_alloc ?_ _) | (with_reducible refine Kd.C_drewN ?_ _) | (with_reducible refine Kd.C_drew ?_))); (case side2 => exact HC0_0.out); (case side3 => repeat (first | exact (Kd.C_below HR0_1.out HB.out) | (with_reducible refine Kd.C_alloc ?_ _) | (with_reducible refine Kd.C_drewN ?_ _) | (with_reducible refine Kd.C_drew ?_))); (case side4 => exact HC0_1.out); (case side5 => repeat (first | exact (Kd.C_below HR0_2.out HB.out) | (with_reducible refine Kd.C_alloc ?_ _) | (with_reducible refine Kd.C_drewN ?_ _) | (with_reducible refine Kd.C_drew ?_))); (case side6 => exact HC0_2.out); rintro e w7 ⟨v252, rfl, ho0, hb⟩; have n0_ := Aside0.mk (Kd.R_lower ho0 (below_size (by repeat (first | (with_reducible first | exact HB.out | apply below_alloc | apply pw_below_drewN | apply below_drew1 | refine below_set ?_ GE250.out) | exact HB.out)))); have n1_ := Aside0.mk (blk_below (g := gb250) (o := .cells #[.slice A0_0 l0_0.length c0_0, .slice A0_1 l0_1.length c0_1, .slice A0_2 l0_2.length c0_2] 26 (0, 0)) (by (with_reducible repeat (first | refine blk_drewN ?_ _ | refine blk_drew ?_ | refine blk_alloc ?_ _)); exact BK250.out) hb); have n2_ := Aside0.mk (below_step (by repeat (first | (with_reducible first | exact HB.out | apply below_alloc | apply pw_below_drewN | apply below_drew1 | refine below_set ?_ GE250.out) | exact HB.out)) hb); clear BK250; clear HB; have HO253 := n0_; have BK250 := n1_; have HB := n2_; clear n0_ n1_ n2_; (try clear hb); (try clear hb2); (try clear hk); (try clear hi); (try clear ho0))))
 go_loopg [10] k (fun kq v10 w' => ∃ (x10_1 : Int), v10 = .int .i64 x10_1 ∧ Aside0 (crossbuckref05_Peer.l0 kq a1 a2 t251 x10_1 = some (r1, r2, r3)) ∧ Aside0 (kq ≤ k) ∧ Aside0 (Kd.R k90 90 w' w.heap.size (fun _ => True) v252 t251) ∧ Aside0 (w'.heap[gb250]? = some (.cells #[(.slice A0_0 l0_0.length c0_0), (.slice A0_1 l0_1.length c0_1), (.slice A0_2 l0_2.length c0_2)] 26 (0, 0))) ∧ Aside0 (Below w.heap.size w w'))
 case atStart => exact ⟨(0), (by first | rfl | (simp; done) | (simp [*]; done)), H', ⟨Nat.le_refl _⟩, ⟨by (with_reducible repeat (first | apply Kd.R_alloc | apply Kd.R_drewN | apply Kd.R_drew)); exact HO253.out⟩, ⟨by (with_reducible repeat (first | refine blk_drewN ?_ _ | refine blk_drew ?_ | refine blk_alloc ?_ _)); exact BK250.out⟩, ⟨by repeat (first | (with_reducible first | exact HB.out | apply below_alloc | apply pw_below_drewN | apply below_drew1 | refine below_set ?_ GE250.out) | exact HB.out)⟩⟩
 case round =>
  clear H'
  try clear c2
  try clear p2
  try clear hcz6_0
  try clear hcz6_1
  try clear hcz6_2
  try clear hfz6_0
  try clear hfz6_1
  try clear hfz6_2
  obtain ⟨x10_1, rfl, HA, HK1, HO_9, BK250, HB⟩ := hrel
  cases gk with
  | zero => exact absurd HA.out (by simp [crossbuckref05_Peer.l0])
  | succ k1 =>
   have H := HA.out
   clear HA
   simp only [crossbuckref05_Peer.l0] at H
   by_cases c8 : x10_1 < (t251.length : Int)
   ·rw [if_pos c8] at H
    have c8b0 : decide (x10_1 < (t251.length : Int)) = true := decide_eq_true c8
    clear c8
    by_cases c9 : 0 ≤ x10_1
    ·rw [if_pos c9] at H
     have c9b0 : decide (0 ≤ x10_1) = true := decide_eq_true c9
     clear c9
     by_cases c10 : (((rd_T90 t251 x10_1).f0) == a1 && (((rd_T90 t251 x10_1).f1) == a2)) = true
     ·rw [if_pos c10] at H
      have c10b0 : (((rd_T90 t251 x10_1).f0) == a1 && (((rd_T90 t251 x10_1).f1) == a2)) = true := c10
      (try (have c10b1 : decide (((rd_T90 t251 x10_1).f0) = a1 && (((rd_T90 t251 x10_1).f1) == a2)) = true := by simpa using c10))
      (try (have c10b2 : (((rd_T90 t251 x10_1).f0) == a1 && (((rd_T90 t251 x10_1).f1) == a2)) = true := by simpa using c10))
      clear c10
      by_cases c11 : (Int.tmod x10_1 2) = 1
      ·rw [if_pos c11] at H
       have c11b0 : ((Int.tmod x10_1 2) == 1) = true := beq_iff_eq.mpr c11
       have c11b1 : ((Int.tmod x10_1 2) != 1) = false := bne_eq_false_iff_eq.mpr c11
       clear c11
       obtain ⟨ji12, hji12⟩ : ∃ j_ : Int, (wrap64 (x10_1 - 1)) = j_ := ⟨_, rfl⟩
       replace H : (if 0 ≤ (ji12) then (if (ji12) < (t251.length : Int) then (some ((rd_T90 t251 (ji12)).f0, (rd_T90 t251 (ji12)).f1, true)) else (none)) else (none)) = some (r1, r2, r3) := by first | (rw [hji12] at H; exact H) | (simp only [hji12] at H ⊢; exact H)
       have hji12w : (IntKind.i64.wrap (x10_1 - 1)) = ji12 := (i64_w _).trans hji12
       by_cases c13 : 0 ≤ (ji12)
       ·rw [if_pos c13] at H
        have c13b0 : decide (0 ≤ (ji12)) = true := decide_eq_true c13
        clear c13
        by_cases c14 : (ji12) < (t251.length : Int)
        ·rw [if_pos c14] at H
         have c14b0 : decide ((ji12) < (t251.length : Int)) = true := decide_eq_true c14
         clear c14
         simp only [Option.some.injEq, Prod.mk.injEq] at H
         obtain ⟨rfl, rfl, rfl⟩ := H
         obtain ⟨Ao15, co15, eo15⟩ := Kd.R_slice HO_9.out
         subst eo15
         have p254 : 0 ≤ (x10_1 : Int) := of_decide_eq_true (by first | (with_reducible assumption) | assumption)
         have q254 : x10_1 < (t251.length : Int) := of_decide_eq_true (by first | (with_reducible assumption) | assumption)
         obtain ⟨ad254, e254, hx254_0, hx254_1⟩ := at_T90 (Kd.R_reads' HO_9.out).2.2 x10_1 p254 q254
         cases e254
         replace p254 := eq_true p254
         replace q254 := eq_true q254
         have p255 : 0 ≤ ((ji12) : Int) := of_decide_eq_true (by first | (with_reducible assumption) | assumption)
         have q255 : (ji12) < (t251.length : Int) := of_decide_eq_true (by first | (with_reducible assumption) | assumption)
         obtain ⟨ad255, e255, hx255_0, hx255_1⟩ := at_T90 (Kd.R_reads' HO_9.out).2.2 (ji12) p255 q255
         obtain rfl : ad254 = ad255 := (by injection e255)
         replace p255 := eq_true p255
         replace q255 := eq_true q255
         have p256 : 0 ≤ ((ji12) : Int) := of_decide_eq_true (by first | (with_reducible assumption) | assumption)
         have q256 : (ji12) < (t251.length : Int) := of_decide_eq_true (by first | (with_reducible assumption) | assumption)
         obtain ⟨ad256, e256, hx256_0, hx256_1⟩ := at_T90 (Kd.R_reads' HO_9.out).2.2 (ji12) p256 q256
         obtain rfl : ad254 = ad256 := (by injection e256)
         replace p256 := eq_true p256
         replace q256 := eq_true q256
         go_wp2
         repeat (go_quiet (fail); try go_wp2)
         go_ret3
         exact ⟨by first | rfl | (simp [errW_none, errW_some] <;> rfl) | (simp only [← hji12]; first | rfl | (simp [errW_none, errW_some] <;> rfl)) | (simp [*, errW_none, errW_some] <;> rfl), by repeat (first | (with_reducible first | exact HB.out | apply below_alloc | apply pw_below_drewN | apply below_drew1 | refine below_set ?_ GE250.out) | exact HB.out)⟩
        ·rw [if_neg c14] at H
         exact absurd H (by simp)
       ·rw [if_neg c13] at H
        exact absurd H (by simp)
      ·rw [if_neg c11] at H
       have c11b0 : ((Int.tmod x10_1 2) == 1) = false := beq_eq_false_iff_ne.mpr c11
       have c11b1 : ((Int.tmod x10_1 2) != 1) = true := bne_iff_ne.mpr c11
       obtain ⟨ji16, hji16⟩ : ∃ j_ : Int, (wrap64 (x10_1 + 1)) = j_ := ⟨_, rfl⟩
       replace H : (if 0 ≤ (ji16) then (if (ji16) < (t251.length : Int) then (some ((rd_T90 t251 (ji16)).f0, (rd_T90 t251 (ji16)).f1, true)) else (none)) else (none)) = some (r1, r2, r3) := by first | (rw [hji16] at H; exact H) | (simp only [hji16] at H ⊢; exact H)
       have hji16w : (IntKind.i64.wrap (x10_1 + 1)) = ji16 := (i64_w _).trans hji16
       by_cases c17 : 0 ≤ (ji16)
       ·rw [if_pos c17] at H
        have c17b0 : decide (0 ≤ (ji16)) = true := decide_eq_true c17
        clear c17
        by_cases c18 : (ji16) < (t251.length : Int)
        ·rw [if_pos c18] at H
         have c18b0 : decide ((ji16) < (t251.length : Int)) = true := decide_eq_true c18
         clear c18
         simp only [Option.some.injEq, Prod.mk.injEq] at H
         obtain ⟨rfl, rfl, rfl⟩ := H
         obtain ⟨Ao19, co19, eo19⟩ := Kd.R_slice HO_9.out
         subst eo19
         have p254 : 0 ≤ (x10_1 : Int) := of_decide_eq_true (by first | (with_reducible assumption) | assumption)
         have q254 : x10_1 < (t251.length : Int) := of_decide_eq_true (by first | (with_reducible assumption) | assumption)
         obtain ⟨ad254, e254, hx254_0, hx254_1⟩ := at_T90 (Kd.R_reads' HO_9.out).2.2 x10_1 p254 q254
         cases e254
         replace p254 := eq_true p254
         replace q254 := eq_true q254
         have p257 : 0 ≤ ((ji16) : Int) := of_decide_eq_true (by first | (with_reducible assumption) | assumption)
         have q257 : (ji16) < (t251.length : Int) := of_decide_eq_true (by first | (with_reducible assumption) | assumption)
         obtain ⟨ad257, e257, hx257_0, hx257_1⟩ := at_T90 (Kd.R_reads' HO_9.out).2.2 (ji16) p257 q257
         obtain rfl : ad254 = ad257 := (by injection e257)
         replace p257 := eq_true p257
         replace q257 := eq_true q257
         have p258 : 0 ≤ ((ji16) : Int) := of_decide_eq_true (by first | (with_reducible assumption) | assumption)
         have q258 : (ji16) < (t251.length : Int) := of_decide_eq_true (by first | (with_reducible assumption) | assumption)
         obtain ⟨ad258, e258, hx258_0, hx258_1⟩ := at_T90 (Kd.R_reads' HO_9.out).2.2 (ji16) p258 q258
         obtain rfl : ad254 = ad258 := (by injection e258)
         replace p258 := eq_true p258
         replace q258 := eq_true q258
         go_wp2
         repeat (go_quiet (fail); try go_wp2)
         go_ret3
         exact ⟨by first | rfl | (simp [errW_none, errW_some] <;> rfl) | (simp only [← hji16]; first | rfl | (simp [errW_none, errW_some] <;> rfl)) | (simp [*, errW_none, errW_some] <;> rfl), by repeat (first | (with_reducible first | exact HB.out | apply below_alloc | apply pw_below_drewN | apply below_drew1 | refine below_set ?_ GE250.out) | exact HB.out)⟩
        ·rw [if_neg c18] at H
         exact absurd H (by simp)
       ·rw [if_neg c17] at H
        exact absurd H (by simp)
     ·rw [if_neg c10] at H
      have c10b0 : (((rd_T90 t251 x10_1).f0) == a1 && (((rd_T90 t251 x10_1).f1) == a2)) = false := by simpa using c10
      (try (have c10b1 : decide (((rd_T90 t251 x10_1).f0) = a1 && (((rd_T90 t251 x10_1).f1) == a2)) = false := by simpa using c10))
      (try (have c10b2 : (((rd_T90 t251 x10_1).f0) == a1 && (((rd_T90 t251 x10_1).f1) == a2)) = false := by simpa using c10))
      (try (have c10b3 : ¬ (((rd_T90 t251 x10_1).f0) = a1 && (((rd_T90 t251 x10_1).f1) == a2)) := by simpa using c10))
      clear c10
      have H' := Aside0.mk H
      clear H
      obtain ⟨Ao20, co20, eo20⟩ := Kd.R_slice HO_9.out
      subst eo20
      have p254 : 0 ≤ (x10_1 : Int) := of_decide_eq_true (by first | (with_reducible assumption) | assumption)
      have q254 : x10_1 < (t251.length : Int) := of_decide_eq_true (by first | (with_reducible assumption) | assumption)
      obtain ⟨ad254, e254, hx254_0, hx254_1⟩ := at_T90 (Kd.R_reads' HO_9.out).2.2 x10_1 p254 q254
      cases e254
      replace p254 := eq_true p254
      replace q254 := eq_true q254
      go_wp2
      repeat (go_quiet (fail); try go_wp2)
      go_roundg k1
      case measure => have := HK1.out; omega
      case rel => exact ⟨(wrap64 (x10_1 + 1)), (by first | rfl | (simp; done) | (simp [*]; done)), H', ⟨by have := HK1.out; omega⟩, ⟨by (with_reducible repeat (first | apply Kd.R_alloc | apply Kd.R_drewN | apply Kd.R_drew)); exact HO_9.out⟩, ⟨by (with_reducible repeat (first | refine blk_drewN ?_ _ | refine blk_drew ?_ | refine blk_alloc ?_ _)); exact BK250.out⟩, ⟨by repeat (first | (with_reducible first | exact HB.out | apply below_alloc | apply pw_below_drewN | apply below_drew1 | refine below_set ?_ GE250.out) | exact HB.out)⟩⟩
    ·rw [if_neg c9] at H
     exact absurd H (by simp)
   ·rw [if_neg c8] at H
    have c8b0 : decide (x10_1 < (t251.length : Int)) = false := decide_eq_false c8
    clear c8
    simp only [Option.some.injEq, Prod.mk.injEq] at H
    obtain ⟨rfl, rfl, rfl⟩ := H
    obtain ⟨Ao21, co21, eo21⟩ := Kd.R_slice HO_9.out
    subst eo21
    go_wp2
    repeat (go_quiet (fail); try go_wp2)
    go_ret3
    exact ⟨by first | rfl | (simp [errW_none, errW_some] <;> rfl) | (simp [*, errW_none, errW_some] <;> rfl), by repeat (first | (with_reducible first | exact HB.out | apply below_alloc | apply pw_below_drewN | apply below_drew1 | refine below_set ?_ GE250.out) | exact HB.out)⟩

end Go.Proofs.Ytdemogdagemagaa.PTr
