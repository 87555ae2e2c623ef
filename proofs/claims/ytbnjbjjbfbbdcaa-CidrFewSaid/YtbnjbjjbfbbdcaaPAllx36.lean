-- Written by wip/myprint.py (this session's own driver); Lean checks it.
import Derived.Test.YtbnjbjjbfbbdcaaPAllx0
import Derived.Test.YtbnjbjjbfbbdcaaPAllx1
import Derived.Test.YtbnjbjjbfbbdcaaPAllx33
import Derived.Test.YtbnjbjjbfbbdcaaPAllx34
import Derived.Test.YtbnjbjjbfbbdcaaPAllx35
namespace Go.Proofs.Ytbnjbjjbfbbdcaa.PAll
open Go.RowKit Go.Proofs.YtbnjbjjbfbbdcaaW.PrintWords Go.Proofs.YtbnjbjjbfbbdcaaW.PrintLast Go.Proofs.YtbnjbjjbfbbdcaaW.PrintMore
attribute [local go_sem] max2_int min2_int max_two min_two max_three min_three max_four min_four   -- for this text's walks alone
set_option linter.unusedVariables false
set_option linter.unusedSimpArgs false

attribute [local go_sem high] eqA29
/-! ### crossbucklaw03_CidrFew: function 4 -/
mutual
def crossbucklaw03_CidrFew.j0 : Nat → Int → Bool → Int → Int → Option (Bool)
  | 0, _, _, _, _ => none
  | k + 1, x0, x39, x285000, x285001 => if x39 = true then (some false) else ((cidr_Blocks.f k x285000 x285001).bind fun t293 => (crossbucklaw03_CidrFew.l0 k x0 t293 0 t293 (t293.length : Int) 0 x285000 x285001))
def crossbucklaw03_CidrFew.l0 : Nat → Int → List (S29) → Int → List (S29) → Int → Int → Int → Int → Option (Bool)
  | 0, _, _, _, _, _, _, _, _ => none
  | k + 1, x0, x7, x8, x42, x43, x44, x285000, x285001 => if x44 < x43 then (if 0 ≤ x44 then (if x44 < (x42.length : Int) then (if 0 ≤ (wrap64 (16 - ((rd_T29 x42 x44).f1))) then (if (shr .u16 x0 (wrap64 (16 - ((rd_T29 x42 x44).f1)))) = (shr .u16 ((rd_T29 x42 x44).f0) (wrap64 (16 - ((rd_T29 x42 x44).f1)))) then (crossbucklaw03_CidrFew.l0 k x0 x7 (wrap64 (x8 + 1)) x42 x43 (wrap64 (x44 + 1)) x285000 x285001) else (if ((rd_T29 x42 x44).f1) = 0 then (crossbucklaw03_CidrFew.l0 k x0 x7 (wrap64 (x8 + 1)) x42 x43 (wrap64 (x44 + 1)) x285000 x285001) else (crossbucklaw03_CidrFew.l0 k x0 x7 x8 x42 x43 (wrap64 (x44 + 1)) x285000 x285001))) else (none)) else (none)) else (none)) else ((crossbucklaw03_awake.f k).bind fun t298 => (if t298 = true then (if (x7.length : Int) ≤ 32 then ((cidr_In.f x285000 x285001 x0).bind fun t299 => (if ((x8 == 1) == t299) = true then (some (decide (x8 ≤ 1))) else (some false))) else (some false)) else (some false)))
end
def crossbucklaw03_CidrFew.f (k : Nat) (a0 : Int) (a1_0 : Int) (a1_1 : Int) : Option (Bool) := (cidr_Blocks.f k a0 a0).bind fun t285 => ((cidr_Blocks.f k 0 65535).bind fun t288 => (if (t285.length : Int) = 1 then (if 0 < (t285.length : Int) then (if (!(((rd_T29 t285 0).f0) == a0) || (!(((rd_T29 t285 0).f1) == 16))) = true then (crossbucklaw03_CidrFew.j0 k a0 true a1_0 a1_1) else (if (t288.length : Int) = 1 then (if 0 < (t288.length : Int) then (crossbucklaw03_CidrFew.j0 k a0 (!(((rd_T29 t288 0).f0) == 0) || (!(((rd_T29 t288 0).f1) == 0))) a1_0 a1_1) else (none)) else (crossbucklaw03_CidrFew.j0 k a0 true a1_0 a1_1))) else (none)) else (crossbucklaw03_CidrFew.j0 k a0 true a1_0 a1_1)))
theorem crossbucklaw03_CidrFew.mono_l : ∀ k, (∀ y0 y1 y2 y3, LeO (crossbucklaw03_CidrFew.j0 k y0 y1 y2 y3) (crossbucklaw03_CidrFew.j0 (k + 1) y0 y1 y2 y3)) ∧ (∀ y0 y1 y2 y3 y4 y5 y6 y7, LeO (crossbucklaw03_CidrFew.l0 k y0 y1 y2 y3 y4 y5 y6 y7) (crossbucklaw03_CidrFew.l0 (k + 1) y0 y1 y2 y3 y4 y5 y6 y7))
  | 0 => ⟨fun _ _ _ _ r h => by simp [crossbucklaw03_CidrFew.j0] at h, fun _ _ _ _ _ _ _ _ r h => by simp [crossbucklaw03_CidrFew.l0] at h⟩
  | k + 1 => by
    obtain ⟨ih0, ih1⟩ := crossbucklaw03_CidrFew.mono_l k
    refine ⟨?_, ?_⟩
    · intro y0 y1 y2 y3
      unfold crossbucklaw03_CidrFew.j0
      repeat' first
      | (with_reducible exact ih0 _ _ _ _)
      | (with_reducible exact ih1 _ _ _ _ _ _ _ _)
      | (with_reducible exact cidr_Blocks.mono _ _ _)
      | (with_reducible exact crossbucklaw03_awake.mono _)
      | (with_reducible exact LeO.refl _)
      | (with_reducible exact LeO.none _)
      | (with_reducible refine LeO.ite ?_ ?_)
      | (with_reducible refine LeO.bind ?_ (fun _ => ?_))
      | exact ih0 _ _ _ _
      | exact ih1 _ _ _ _ _ _ _ _
      | exact cidr_Blocks.mono _ _ _
      | exact crossbucklaw03_awake.mono _
      | exact LeO.none _
      | refine LeO.ite ?_ ?_
      | refine LeO.bind ?_ (fun _ => ?_)
    · intro y0 y1 y2 y3 y4 y5 y6 y7
      unfold crossbucklaw03_CidrFew.l0
      repeat' first
      | (with_reducible exact ih0 _ _ _ _)
      | (with_reducible exact ih1 _ _ _ _ _ _ _ _)
      | (with_reducible exact cidr_Blocks.mono _ _ _)
      | (with_reducible exact crossbucklaw03_awake.mono _)
      | (with_reducible exact LeO.refl _)
      | (with_reducible exact LeO.none _)
      | (with_reducible refine LeO.ite ?_ ?_)
      | (with_reducible refine LeO.bind ?_ (fun _ => ?_))
      | exact ih0 _ _ _ _
      | exact ih1 _ _ _ _ _ _ _ _
      | exact cidr_Blocks.mono _ _ _
      | exact crossbucklaw03_awake.mono _
      | exact LeO.none _
      | refine LeO.ite ?_ ?_
      | refine LeO.bind ?_ (fun _ => ?_)
theorem crossbucklaw03_CidrFew.mono : ∀ a0 a1 a2 k, LeO (crossbucklaw03_CidrFew.f k a0 a1 a2) (crossbucklaw03_CidrFew.f (k + 1) a0 a1 a2) := by
  intro a0 a1 a2 k
  obtain ⟨ih0, ih1⟩ := crossbucklaw03_CidrFew.mono_l k
  unfold crossbucklaw03_CidrFew.f
  repeat' first
      | (with_reducible exact ih0 _ _ _ _)
      | (with_reducible exact ih1 _ _ _ _ _ _ _ _)
      | (with_reducible exact cidr_Blocks.mono _ _ _)
      | (with_reducible exact crossbucklaw03_awake.mono _)
      | (with_reducible exact LeO.refl _)
      | (with_reducible exact LeO.none _)
      | (with_reducible refine LeO.ite ?_ ?_)
      | (with_reducible refine LeO.bind ?_ (fun _ => ?_))
      | exact ih0 _ _ _ _
      | exact ih1 _ _ _ _ _ _ _ _
      | exact cidr_Blocks.mono _ _ _
      | exact crossbucklaw03_awake.mono _
      | exact LeO.none _
      | refine LeO.ite ?_ ?_
      | refine LeO.bind ?_ (fun _ => ?_)
set_option maxHeartbeats 8000000 in
set_option maxRecDepth 100000 in
theorem crossbucklaw03_CidrFew.calls (k : Nat) (a0 : Int) (a1_0 : Int) (a1_1 : Int) (r : Bool) (w : World) (h : crossbucklaw03_CidrFew.f k a0 a1_0 a1_1 = some r) (hT : Aside0 (r = true)) :
    Calls Try.prog 4 #[.int .u16 a0, .agg #[.int .u16 a1_0, .int .u16 a1_1]] w fun e w' => e = .returned (.bool r) ∧ Below w.heap.size w w' := by
  have hu24 := Try.underlying24
  have hu29 := Try.underlying29
  have HB := Aside0.mk (Below.refl w.heap.size w)
  have H : ((cidr_Blocks.f k a0 a0).bind fun t285 => ((cidr_Blocks.f k 0 65535).bind fun t288 => (if (t285.length : Int) = 1 then (if 0 < (t285.length : Int) then (if (!(((rd_T29 t285 0).f0) == a0) || (!(((rd_T29 t285 0).f1) == 16))) = true then (crossbucklaw03_CidrFew.j0 k a0 true a1_0 a1_1) else (if (t288.length : Int) = 1 then (if 0 < (t288.length : Int) then (crossbucklaw03_CidrFew.j0 k a0 (!(((rd_T29 t288 0).f0) == 0) || (!(((rd_T29 t288 0).f1) == 0))) a1_0 a1_1) else (none)) else (crossbucklaw03_CidrFew.j0 k a0 true a1_0 a1_1))) else (none)) else (crossbucklaw03_CidrFew.j0 k a0 true a1_0 a1_1)))) = some r := h
  clear h
  replace H := Option.bind_eq_some_iff.mp H
  obtain ⟨t285, A30, H⟩ := H
  replace H : ((cidr_Blocks.f k 0 65535).bind fun t288 => (if (t285.length : Int) = 1 then (if 0 < (t285.length : Int) then (if (!(((rd_T29 t285 0).f0) == a0) || (!(((rd_T29 t285 0).f1) == 16))) = true then (crossbucklaw03_CidrFew.j0 k a0 true a1_0 a1_1) else (if (t288.length : Int) = 1 then (if 0 < (t288.length : Int) then (crossbucklaw03_CidrFew.j0 k a0 (!(((rd_T29 t288 0).f0) == 0) || (!(((rd_T29 t288 0).f1) == 0))) a1_0 a1_1) else (none)) else (crossbucklaw03_CidrFew.j0 k a0 true a1_0 a1_1))) else (none)) else (crossbucklaw03_CidrFew.j0 k a0 true a1_0 a1_1))) = some r := H
  have A3 := Aside0.mk A30
  clear A30
  replace H := Option.bind_eq_some_iff.mp H
  obtain ⟨t288, A40, H⟩ := H
  replace H : (if (t285.length : Int) = 1 then (if 0 < (t285.length : Int) then (if (!(((rd_T29 t285 0).f0) == a0) || (!(((rd_T29 t285 0).f1) == 16))) = true then (crossbucklaw03_CidrFew.j0 k a0 true a1_0 a1_1) else (if (t288.length : Int) = 1 then (if 0 < (t288.length : Int) then (crossbucklaw03_CidrFew.j0 k a0 (!(((rd_T29 t288 0).f0) == 0) || (!(((rd_T29 t288 0).f1) == 0))) a1_0 a1_1) else (none)) else (crossbucklaw03_CidrFew.j0 k a0 true a1_0 a1_1))) else (none)) else (crossbucklaw03_CidrFew.j0 k a0 true a1_0 a1_1)) = some r := H
  have A4 := Aside0.mk A40
  clear A40
  have HC5 := Aside0.mk H
  clear H
  go_enter Try.func4, Try.ntmps4
  go_upto_region 2 with (first | ((with_reducible refine gate_dst (N := 3) rfl ?_); (try (refine gate_guard (by rfl) ?_; dsimp only)); refine box_event ?hg (N := 3) ?hd (cs := #[.int .u16 a1_0, .int .u16 a1_1]) (t := 24) ?hr ?_; (case hd => rfl); (case hg => rfl); (case hr => first | (go_simp; done) | (go_simp; rfl)); intro gb284 hg w6 hbox hb; have n0_ := Aside0.mk (below_step (by repeat (first | (with_reducible first | exact HB.out | apply below_alloc | apply pw_below_drewN | apply below_drew1) | exact HB.out)) hb); have n1_ := Aside0.mk (hbox); have n2_ := Aside0.mk ((by rw [hg]; exact (below_size (by repeat (first | (with_reducible first | exact HB.out | apply below_alloc | apply pw_below_drewN | apply below_drew1) | exact HB.out))) : w.heap.size ≤ gb284)); have n3_ := Aside0.mk ((by rw [hg]; exact (below_size (by repeat (first | (with_reducible first | exact HB.out | apply below_alloc | apply pw_below_drewN | apply below_drew1) | exact HB.out))) : w.heap.size ≤ gb284)); clear HB; have HB := n0_; have BK284 := n1_; have GW284 := n2_; have GE284 := n3_; clear n0_ n1_ n2_ n3_; clear hb hbox hg) | (go_at_call 11; (with_reducible refine (cidr_Blocks.calls k a0 a0 t285 _ A3.out).mono ?_); rintro e w7 ⟨v286, rfl, ho0, hb⟩; have n0_ := Aside0.mk (Kd.R_lower ho0 (below_size (by repeat (first | (with_reducible first | exact HB.out | apply below_alloc | apply pw_below_drewN | apply below_drew1 | refine below_set ?_ GE284.out) | exact HB.out)))); have n1_ := Aside0.mk (blk_below (g := gb284) (o := .cells #[.int .u16 a1_0, .int .u16 a1_1] 24 (0, 0)) (by (with_reducible repeat (first | refine blk_drewN ?_ _ | refine blk_drew ?_ | refine blk_alloc ?_ _)); exact BK284.out) hb); have n2_ := Aside0.mk (below_step (by repeat (first | (with_reducible first | exact HB.out | apply below_alloc | apply pw_below_drewN | apply below_drew1 | refine below_set ?_ GE284.out) | exact HB.out)) hb); clear BK284; clear HB; have HO287 := n0_; have BK284 := n1_; have HB := n2_; clear n0_ n1_ n2_; (try clear hb); (try clear hb2); (try clear hk); (try clear hi); (try clear ho0)) | (go_at_call 11; (with_reducible refine (cidr_Blocks.calls k 0 65535 t288 _ A4.out).mono ?_); rintro e w8 ⟨v289, rfl, ho0, hb⟩; have n0_ := Aside0.mk (Kd.R_elder' (by (with_reducible repeat (first | apply Kd.R_alloc | apply Kd.R_drewN | apply Kd.R_drew)); exact HO287.out) (Kd.R_base ho0) hb); have n1_ := Aside0.mk (Kd.R_lower (Kd.R_new' ho0 (Kd.R_lt (by (with_reducible repeat (first | apply Kd.R_alloc | apply Kd.R_drewN | apply Kd.R_drew)); exact HO287.out))) (below_size (by repeat (first | (with_reducible first | exact HB.out | apply below_alloc | apply pw_below_drewN | apply below_drew1 | refine below_set ?_ GE284.out) | exact HB.out)))); have n2_ := Aside0.mk (blk_below (g := gb284) (o := .cells #[.int .u16 a1_0, .int .u16 a1_1] 24 (0, 0)) (by (with_reducible repeat (first | refine blk_drewN ?_ _ | refine blk_drew ?_ | refine blk_alloc ?_ _)); exact BK284.out) hb); have n3_ := Aside0.mk (below_step (by repeat (first | (with_reducible first | exact HB.out | apply below_alloc | apply pw_below_drewN | apply below_drew1 | refine below_set ?_ GE284.out) | exact HB.out)) hb); clear HO287; clear BK284; clear HB; have HO287 := n0_; have HO290 := n1_; have BK284 := n2_; have HB := n3_; clear n0_ n1_ n2_ n3_; (try clear hb); (try clear hb2); (try clear hk); (try clear hi); (try clear ho0)))
  repeat (go_quiet (first | ((with_reducible refine gate_dst (N := 3) rfl ?_); (try (refine gate_guard (by rfl) ?_; dsimp only)); refine box_event ?hg (N := 3) ?hd (cs := #[.int .u16 a1_0, .int .u16 a1_1]) (t := 24) ?hr ?_; (case hd => rfl); (case hg => rfl); (case hr => first | (go_simp; done) | (go_simp; rfl)); intro gb284 hg w6 hbox hb; have n0_ := Aside0.mk (below_step (by repeat (first | (with_reducible first | exact HB.out | apply below_alloc | apply pw_below_drewN | apply below_drew1) | exact HB.out)) hb); have n1_ := Aside0.mk (hbox); have n2_ := Aside0.mk ((by rw [hg]; exact (below_size (by repeat (first | (with_reducible first | exact HB.out | apply below_alloc | apply pw_below_drewN | apply below_drew1) | exact HB.out))) : w.heap.size ≤ gb284)); have n3_ := Aside0.mk ((by rw [hg]; exact (below_size (by repeat (first | (with_reducible first | exact HB.out | apply below_alloc | apply pw_below_drewN | apply below_drew1) | exact HB.out))) : w.heap.size ≤ gb284)); clear HB; have HB := n0_; have BK284 := n1_; have GW284 := n2_; have GE284 := n3_; clear n0_ n1_ n2_ n3_; clear hb hbox hg) | (go_at_call 11; (with_reducible refine (cidr_Blocks.calls k a0 a0 t285 _ A3.out).mono ?_); rintro e w7 ⟨v286, rfl, ho0, hb⟩; have n0_ := Aside0.mk (Kd.R_lower ho0 (below_size (by repeat (first | (with_reducible first | exact HB.out | apply below_alloc | apply pw_below_drewN | apply below_drew1 | refine below_set ?_ GE284.out) | exact HB.out)))); have n1_ := Aside0.mk (blk_below (g := gb284) (o := .cells #[.int .u16 a1_0, .int .u16 a1_1] 24 (0, 0)) (by (with_reducible repeat (first | refine blk_drewN ?_ _ | refine blk_drew ?_ | refine blk_alloc ?_ _)); exact BK284.out) hb); have n2_ := Aside0.mk (below_step (by repeat (first | (with_reducible first | exact HB.out | apply below_alloc | apply pw_below_drewN | apply below_drew1 | refine below_set ?_ GE284.out) | exact HB.out)) hb); clear BK284; clear HB; have HO287 := n0_; have BK284 := n1_; have HB := n2_; clear n0_ n1_ n2_; (try clear hb); (try clear hb2); (try clear hk); (try clear hi); (try clear ho0)) | (go_at_call 11; (with_reducible refine (cidr_Blocks.calls k 0 65535 t288 _ A4.out).mono ?_); rintro e w8 ⟨v289, rfl, ho0, hb⟩; have n0_ := Aside0.mk (Kd.R_elder' (by (with_reducible repeat (first | apply Kd.R_alloc | apply Kd.R_drewN | apply Kd.R_drew)); exact HO287.out) (Kd.R_base ho0) hb); have n1_ := Aside0.mk (Kd.R_lower (Kd.R_new' ho0 (Kd.R_lt (by (with_reducible repeat (first | apply Kd.R_alloc | apply Kd.R_drewN | apply Kd.R_drew)); exact HO287.out))) (below_size (by repeat (first | (with_reducible first | exact HB.out | apply below_alloc | apply pw_below_drewN | apply below_drew1 | refine below_set ?_ GE284.out) | exact HB.out)))); have n2_ := Aside0.mk (blk_below (g := gb284) (o := .cells #[.int .u16 a1_0, .int .u16 a1_1] 24 (0, 0)) (by (with_reducible repeat (first | refine blk_drewN ?_ _ | refine blk_drew ?_ | refine blk_alloc ?_ _)); exact BK284.out) hb); have n3_ := Aside0.mk (below_step (by repeat (first | (with_reducible first | exact HB.out | apply below_alloc | apply pw_below_drewN | apply below_drew1 | refine below_set ?_ GE284.out) | exact HB.out)) hb); clear HO287; clear BK284; clear HB; have HO287 := n0_; have HO290 := n1_; have BK284 := n2_; have HB := n3_; clear n0_ n1_ n2_ n3_; (try clear hb); (try clear hb2); (try clear hk); (try clear hi); (try clear ho0))); go_upto_region 2 with (first | ((with_reducible refine gate_dst (N := 3) rfl ?_); (try (refine gate_guard (by rfl) ?_; dsimp only)); refine box_event ?hg (N := 3) ?hd (cs := #[.int .u16 a1_0, .int .u16 a1_1]) (t := 24) ?hr ?_; (case hd => rfl); (case hg => rfl); (case hr => first | (go_simp; done) | (go_simp; rfl)); intro gb284 hg w6 hbox hb; have n0_ := Aside0.mk (below_step (by repeat (first | (with_reducible first | exact HB.out | apply below_alloc | apply pw_below_drewN | apply below_drew1) | exact HB.out)) hb); have n1_ := Aside0.mk (hbox); have n2_ := Aside0.mk ((by rw [hg]; exact (below_size (by repeat (first | (with_reducible first | exact HB.out | apply below_alloc | apply pw_below_drewN | apply below_drew1) | exact HB.out))) : w.heap.size ≤ gb284)); have n3_ := Aside0.mk ((by rw [hg]; exact (below_size (by repeat (first | (with_reducible first | exact HB.out | apply below_alloc | apply pw_below_drewN | apply below_drew1) | exact HB.out))) : w.heap.size ≤ gb284)); clear HB; have HB := n0_; have BK284 := n1_; have GW284 := n2_; have GE284 := n3_; clear n0_ n1_ n2_ n3_; clear hb hbox hg) | (go_at_call 11; (with_reducible refine (cidr_Blocks.calls k a0 a0 t285 _ A3.out).mono ?_); rintro e w7 ⟨v286, rfl, ho0, hb⟩; have n0_ := Aside0.mk (Kd.R_lower ho0 (below_size (by repeat (first | (with_reducible first | exact HB.out | apply below_alloc | apply pw_below_drewN | apply below_drew1 | refine below_set ?_ GE284.out) | exact HB.out)))); have n1_ := Aside0.mk (blk_below (g := gb284) (o := .cells #[.int .u16 a1_0, .int .u16 a1_1] 24 (0, 0)) (by (with_reducible repeat (first | refine blk_drewN ?_ _ | refine blk_drew ?_ | refine blk_alloc ?_ _)); exact BK284.out) hb); have n2_ := Aside0.mk (below_step (by repeat (first | (with_reducible first | exact HB.out | apply below_alloc | apply pw_below_drewN | apply below_drew1 | refine below_set ?_ GE284.out) | exact HB.out)) hb); clear BK284; clear HB; have HO287 := n0_; have BK284 := n1_; have HB := n2_; clear n0_ n1_ n2_; (try clear hb); (try clear hb2); (try clear hk); (try clear hi); (try clear ho0)) | (go_at_call 11; (with_reducible refine (cidr_Blocks.calls k 0 65535 t288 _ A4.out).mono ?_); rintro e w8 ⟨v289, rfl, ho0, hb⟩; have n0_ := Aside0.mk (Kd.R_elder' (by (with_reducible repeat (first | apply Kd.R_alloc | apply Kd.R_drewN | apply Kd.R_drew)); exact HO287.out) (Kd.R_base ho0) hb); have n1_ := Aside0.mk (Kd.R_lower (Kd.R_new' ho0 (Kd.R_lt (by (with_reducible repeat (first | apply Kd.R_alloc | apply Kd.R_drewN | apply Kd.R_drew)); exact HO287.out))) (below_size (by repeat (first | (with_reducible first | exact HB.out | apply below_alloc | apply pw_below_drewN | apply below_drew1 | refine below_set ?_ GE284.out) | exact HB.out)))); have n2_ := Aside0.mk (blk_below (g := gb284) (o := .cells #[.int .u16 a1_0, .int .u16 a1_1] 24 (0, 0)) (by (with_reducible repeat (first | refine blk_drewN ?_ _ | refine blk_drew ?_ | refine blk_alloc ?_ _)); exact BK284.out) hb); have n3_ := Aside0.mk (below_step (by repeat (first | (with_reducible first | exact HB.out | apply below_alloc | apply pw_below_drewN | apply below_drew1 | refine below_set ?_ GE284.out) | exact HB.out)) hb); clear HO287; clear BK284; clear HB; have HO287 := n0_; have HO290 := n1_; have BK284 := n2_; have HB := n3_; clear n0_ n1_ n2_ n3_; (try clear hb); (try clear hb2); (try clear hk); (try clear hi); (try clear ho0))))
  (try simp only [Act.put, List.setIfInBounds_toArray, List.set_cons_zero, List.set_cons_succ])
  go_cut [39] (fun v39 wc => ∃ (kq : Nat) (x39_4 : Bool), v39 = .bool x39_4 ∧ Aside0 (crossbucklaw03_CidrFew.j0 kq a0 x39_4 a1_0 a1_1 = some r) ∧ Aside0 (kq ≤ k) ∧ Aside0 (wc.heap[gb284]? = some (.cells #[.int .u16 a1_0, .int .u16 a1_1] 24 (0, 0))) ∧ Aside0 (Below w.heap.size w wc))
  case first =>
    have H := HC5.out
    clear HC5
    by_cases c9 : (t285.length : Int) = 1
    · rw [if_pos c9] at H
      have c9b0 : ((t285.length : Int) == 1) = true := beq_iff_eq.mpr c9
      have c9b1 : ((t285.length : Int) != 1) = false := bne_eq_false_iff_eq.mpr c9
      clear c9
      (first | rw [c9b0] | (simp only [i64_w, i32_w]; rw [c9b0]) | skip)
      by_cases c10 : 0 < (t285.length : Int)
      · rw [if_pos c10] at H
        have c10b0 : decide (0 < (t285.length : Int)) = true := decide_eq_true c10
        have c10b1 : decide (0 < t285.length) = true := decide_eq_true (by omega)
        clear c10
        by_cases c11 : (!(((rd_T29 t285 0).f0) == a0) || (!(((rd_T29 t285 0).f1) == 16))) = true
        · rw [if_pos c11] at H
          have c11b0 : (!(((rd_T29 t285 0).f0) == a0) || (!(((rd_T29 t285 0).f1) == 16))) = true := c11
          clear c11
          exfalso
          unfold crossbucklaw03_CidrFew.j0 at H
          split at H
          · exact absurd H (by simp)
          · rw [if_pos rfl] at H
            exact absurd ((Option.some.inj H).trans hT.out) (by decide)
        · rw [if_neg c11] at H
          have c11b0 : (!(((rd_T29 t285 0).f0) == a0) || (!(((rd_T29 t285 0).f1) == 16))) = false := by simpa using c11
          clear c11
          by_cases c12 : (t288.length : Int) = 1
          · rw [if_pos c12] at H
            have c12b0 : ((t288.length : Int) == 1) = true := beq_iff_eq.mpr c12
            have c12b1 : ((t288.length : Int) != 1) = false := bne_eq_false_iff_eq.mpr c12
            clear c12
            by_cases c13 : 0 < (t288.length : Int)
            · rw [if_pos c13] at H
              have c13b0 : decide (0 < (t288.length : Int)) = true := decide_eq_true c13
              have c13b1 : decide (0 < t288.length) = true := decide_eq_true (by omega)
              clear c13
              have H' := Aside0.mk H
              clear H
              obtain ⟨Ao14, co14, eo14⟩ := Kd.R_slice HO287.out
              subst eo14
              have p291 : 0 ≤ (0 : Int) := (by omega)
              have q291 : 0 < (t285.length : Int) := of_decide_eq_true (by first | (with_reducible assumption) | assumption)
              obtain ⟨ad291, e291, hx291_0, hx291_1⟩ := at_T29 (Kd.R_reads' HO287.out).2.2 0 p291 q291
              cases e291
              have qi291 : (0 < t285.length) = True := eq_true (by omega)
              (try rw [show ((0 : Int)).toNat = 0 from rfl] at hx291_0)
              (try rw [show 0 * 2 = 0 from rfl] at hx291_0)
              (try rw [Addr.add_zero'] at hx291_0)
              (try rw [show ((0 : Int)).toNat = 0 from rfl] at hx291_1)
              (try rw [show 0 * 2 = 0 from rfl] at hx291_1)
              (try rw [Addr.add_zero'] at hx291_1)
              replace p291 := eq_true p291
              replace q291 := eq_true q291
              obtain ⟨Ao15, co15, eo15⟩ := Kd.R_slice HO290.out
              subst eo15
              have p292 : 0 ≤ (0 : Int) := (by omega)
              have q292 : 0 < (t288.length : Int) := of_decide_eq_true (by first | (with_reducible assumption) | assumption)
              obtain ⟨ad292, e292, hx292_0, hx292_1⟩ := at_T29 (Kd.R_reads' HO290.out).2.2 0 p292 q292
              cases e292
              have qi292 : (0 < t288.length) = True := eq_true (by omega)
              (try rw [show ((0 : Int)).toNat = 0 from rfl] at hx292_0)
              (try rw [show 0 * 2 = 0 from rfl] at hx292_0)
              (try rw [Addr.add_zero'] at hx292_0)
              (try rw [show ((0 : Int)).toNat = 0 from rfl] at hx292_1)
              (try rw [show 0 * 2 = 0 from rfl] at hx292_1)
              (try rw [Addr.add_zero'] at hx292_1)
              replace p292 := eq_true p292
              replace q292 := eq_true q292
              go_wp2
              repeat (go_quiet (fail); try go_wp2)
              go_meet
              case rel => exact ⟨_, ((!(((rd_T29 t288 0).f0) == 0) || (!(((rd_T29 t288 0).f1) == 0)))), (by first | rfl | (simp; done) | (simp [*]; done)), H', ⟨by first | omega | exact Nat.le_refl _⟩, ⟨by (with_reducible repeat (first | refine blk_drewN ?_ _ | refine blk_drew ?_ | refine blk_alloc ?_ _)); exact BK284.out⟩, ⟨by repeat (first | (with_reducible first | exact HB.out | apply below_alloc | apply pw_below_drewN | apply below_drew1 | refine below_set ?_ GE284.out) | exact HB.out)⟩⟩
            · rw [if_neg c13] at H
              exact absurd H (by simp)
          · rw [if_neg c12] at H
            have c12b0 : ((t288.length : Int) == 1) = false := beq_eq_false_iff_ne.mpr c12
            have c12b1 : ((t288.length : Int) != 1) = true := bne_iff_ne.mpr c12
            exfalso
            unfold crossbucklaw03_CidrFew.j0 at H
            split at H
            · exact absurd H (by simp)
            · rw [if_pos rfl] at H
              exact absurd ((Option.some.inj H).trans hT.out) (by decide)
      · rw [if_neg c10] at H
        exact absurd H (by simp)
    · rw [if_neg c9] at H
      have c9b0 : ((t285.length : Int) == 1) = false := beq_eq_false_iff_ne.mpr c9
      have c9b1 : ((t285.length : Int) != 1) = true := bne_iff_ne.mpr c9
      (first | rw [c9b0] | (simp only [i64_w, i32_w]; rw [c9b0]) | skip)
      exfalso
      unfold crossbucklaw03_CidrFew.j0 at H
      split at H
      · exact absurd H (by simp)
      · rw [if_pos rfl] at H
        exact absurd ((Option.some.inj H).trans hT.out) (by decide)
  case rest =>
    clear HC5
    try clear c1
    try clear p2
    try clear q2
    try clear hx2
    try clear qi2
    try clear c4
    try clear c9
    try clear c9b0
    try clear c9b1
    try clear c10
    try clear c10b0
    try clear c10b1
    try clear c11
    try clear c11b0
    try clear c12
    try clear c12b0
    try clear c12b1
    try clear c13
    try clear c13b0
    try clear c13b1
    try clear hx291_0
    try clear hx291_1
    try clear hx292_0
    try clear hx292_1
    try clear p291
    try clear p292
    try clear q291
    try clear q292
    obtain ⟨kq, x39_4, rfl, HA, HJ4, BK284, HB⟩ := hcut
    cases kq with
    | zero => exact absurd HA.out (by simp [crossbucklaw03_CidrFew.j0])
    | succ kj4 =>
      have H := HA.out
      clear HA
      simp only [crossbucklaw03_CidrFew.j0] at H
      by_cases c16 : x39_4 = true
      · subst c16
        have H1 : (some false) = some r := by rw [if_pos rfl] at H; exact H
        clear H
        have H := H1
        clear H1
        exact absurd ((Option.some.inj H).trans hT.out) (by decide)
      · replace c16 := Bool.eq_false_iff.mpr c16
        subst c16
        have H1 : ((cidr_Blocks.f kj4 a1_0 a1_1).bind fun t293 => (crossbucklaw03_CidrFew.l0 kj4 a0 t293 0 t293 (t293.length : Int) 0 a1_0 a1_1)) = some r := by rw [if_neg (show ¬ (false = true) by decide)] at H; exact H
        clear H
        have H := H1
        clear H1
        replace H := Option.bind_eq_some_iff.mp H
        obtain ⟨t293, A170, H⟩ := H
        replace H : (crossbucklaw03_CidrFew.l0 kj4 a0 t293 0 t293 (t293.length : Int) 0 a1_0 a1_1) = some r := H
        have A17 := Aside0.mk A170
        clear A170
        have H' := Aside0.mk H
        clear H
        have hcz18_0 : wc.cell? ⟨gb284, 0, none⟩ = some (.int .u16 a1_0) := (blk_cell BK284.out 0).trans rfl
        have hcz18_1 : wc.cell? ⟨gb284, 1, none⟩ = some (.int .u16 a1_1) := (blk_cell BK284.out 1).trans rfl
        have hfz18_0 := blk_frozen BK284.out 0
        have hfz18_1 := blk_frozen BK284.out 1
        go_wp2_with (first | (go_at_call 11; (with_reducible refine (cidr_Blocks.calls kj4 a1_0 a1_1 t293 _ A17.out).mono ?_); rintro e w19 ⟨v294, rfl, ho0, hb⟩; have n0_ := Aside0.mk (Kd.R_lower ho0 (below_size (by repeat (first | (with_reducible first | exact HB.out | apply below_alloc | apply pw_below_drewN | apply below_drew1 | refine below_set ?_ GE284.out) | exact HB.out)))); have n1_ := Aside0.mk (blk_below (g := gb284) (o := .cells #[.int .u16 a1_0, .int .u16 a1_1] 24 (0, 0)) (by (with_reducible repeat (first | refine blk_drewN ?_ _ | refine blk_drew ?_ | refine blk_alloc ?_ _)); exact BK284.out) hb); have n2_ := Aside0.mk (below_step (by repeat (first | (with_reducible first | exact HB.out | apply below_alloc | apply pw_below_drewN | apply below_drew1 | refine below_set ?_ GE284.out) | exact HB.out)) hb); clear BK284; clear HB; have HO295 := n0_; have BK284 := n1_; have HB := n2_; clear n0_ n1_ n2_; (try clear hb); (try clear hb2); (try clear hk); (try clear hi); (try clear ho0); obtain ⟨Ao20, co20, eo20⟩ := Kd.R_slice HO295.out; subst eo20))
        repeat (go_quiet (first | (go_at_call 11; (with_reducible refine (cidr_Blocks.calls kj4 a1_0 a1_1 t293 _ A17.out).mono ?_); rintro e w19 ⟨v294, rfl, ho0, hb⟩; have n0_ := Aside0.mk (Kd.R_lower ho0 (below_size (by repeat (first | (with_reducible first | exact HB.out | apply below_alloc | apply pw_below_drewN | apply below_drew1 | refine below_set ?_ GE284.out) | exact HB.out)))); have n1_ := Aside0.mk (blk_below (g := gb284) (o := .cells #[.int .u16 a1_0, .int .u16 a1_1] 24 (0, 0)) (by (with_reducible repeat (first | refine blk_drewN ?_ _ | refine blk_drew ?_ | refine blk_alloc ?_ _)); exact BK284.out) hb); have n2_ := Aside0.mk (below_step (by repeat (first | (with_reducible first | exact HB.out | apply below_alloc | apply pw_below_drewN | apply below_drew1 | refine below_set ?_ GE284.out) | exact HB.out)) hb); clear BK284; clear HB; have HO295 := n0_; have BK284 := n1_; have HB := n2_; clear n0_ n1_ n2_; (try clear hb); (try clear hb2); (try clear hk); (try clear hi); (try clear ho0); obtain ⟨Ao20, co20, eo20⟩ := Kd.R_slice HO295.out; subst eo20)); try go_wp2_with (first | (go_at_call 11; (with_reducible refine (cidr_Blocks.calls kj4 a1_0 a1_1 t293 _ A17.out).mono ?_); rintro e w19 ⟨v294, rfl, ho0, hb⟩; have n0_ := Aside0.mk (Kd.R_lower ho0 (below_size (by repeat (first | (with_reducible first | exact HB.out | apply below_alloc | apply pw_below_drewN | apply below_drew1 | refine below_set ?_ GE284.out) | exact HB.out)))); have n1_ := Aside0.mk (blk_below (g := gb284) (o := .cells #[.int .u16 a1_0, .int .u16 a1_1] 24 (0, 0)) (by (with_reducible repeat (first | refine blk_drewN ?_ _ | refine blk_drew ?_ | refine blk_alloc ?_ _)); exact BK284.out) hb); have n2_ := Aside0.mk (below_step (by repeat (first | (with_reducible first | exact HB.out | apply below_alloc | apply pw_below_drewN | apply below_drew1 | refine below_set ?_ GE284.out) | exact HB.out)) hb); clear BK284; clear HB; have HO295 := n0_; have BK284 := n1_; have HB := n2_; clear n0_ n1_ n2_; (try clear hb); (try clear hb2); (try clear hk); (try clear hi); (try clear ho0); obtain ⟨Ao20, co20, eo20⟩ := Kd.R_slice HO295.out; subst eo20)))
        go_loopg [8, 44] kj4 (fun kq v8 v44 w' => ∃ (x8_2 : Int) (x44_2 : Int), v8 = .int .i64 x8_2 ∧ v44 = .int .i64 x44_2 ∧ Aside0 (crossbucklaw03_CidrFew.l0 kq a0 t293 x8_2 t293 (t293.length : Int) x44_2 a1_0 a1_1 = some r) ∧ Aside0 (kq ≤ kj4) ∧ Aside0 (Kd.R k29 29 w' w.heap.size (fun _ => True) (.slice Ao20 t293.length co20) t293) ∧ Aside0 (Kd.R k29 29 w' w.heap.size (fun _ => True) (.slice Ao20 t293.length co20) t293) ∧ Aside0 (w'.heap[gb284]? = some (.cells #[.int .u16 a1_0, .int .u16 a1_1] 24 (0, 0))) ∧ Aside0 (Below w.heap.size w w'))
        case atStart => exact ⟨(0), (0), (by first | rfl | (simp; done) | (simp [*]; done)), (by first | rfl | (simp; done) | (simp [*]; done)), H', ⟨Nat.le_refl _⟩, ⟨by (with_reducible repeat (first | apply Kd.R_alloc | apply Kd.R_drewN | apply Kd.R_drew)); exact HO295.out⟩, ⟨by (with_reducible repeat (first | apply Kd.R_alloc | apply Kd.R_drewN | apply Kd.R_drew)); exact HO295.out⟩, ⟨by (with_reducible repeat (first | refine blk_drewN ?_ _ | refine blk_drew ?_ | refine blk_alloc ?_ _)); exact BK284.out⟩, ⟨by repeat (first | (with_reducible first | exact HB.out | apply below_alloc | apply pw_below_drewN | apply below_drew1 | refine below_set ?_ GE284.out) | exact HB.out)⟩⟩
        case round =>
          clear H'
          try clear c1
          try clear p2
          try clear q2
          try clear hx2
          try clear qi2
          try clear c4
          try clear c9
          try clear c9b0
          try clear c9b1
          try clear c10
          try clear c10b0
          try clear c10b1
          try clear c11
          try clear c11b0
          try clear c12
          try clear c12b0
          try clear c12b1
          try clear c13
          try clear c13b0
          try clear c13b1
          try clear c16
          try clear hcz18_0
          try clear hcz18_1
          try clear hfz18_0
          try clear hfz18_1
          try clear hx291_0
          try clear hx291_1
          try clear hx292_0
          try clear hx292_1
          try clear p2
          try clear p291
          try clear p292
          try clear q2
          try clear q291
          try clear q292
          obtain ⟨x8_2, x44_2, rfl, rfl, HA, HK2, HO_7, HO_42, BK284, HB⟩ := hrel
          cases gk with
          | zero => exact absurd HA.out (by simp [crossbucklaw03_CidrFew.l0])
          | succ k2 =>
            have H := HA.out
            clear HA
            simp only [crossbucklaw03_CidrFew.l0] at H
            by_cases c21 : x44_2 < (t293.length : Int)
            · rw [if_pos c21] at H
              have c21b0 : decide (x44_2 < (t293.length : Int)) = true := decide_eq_true c21
              clear c21
              by_cases c22 : 0 ≤ x44_2
              · rw [if_pos c22] at H
                have c22b0 : decide (0 ≤ x44_2) = true := decide_eq_true c22
                clear c22
                by_cases c23 : x44_2 < (t293.length : Int)
                · rw [if_pos c23] at H
                  have c23b0 : decide (x44_2 < (t293.length : Int)) = true := decide_eq_true c23
                  clear c23
                  obtain ⟨ji24, hji24⟩ : ∃ j_ : Int, (wrap64 (16 - ((rd_T29 t293 x44_2).f1))) = j_ := ⟨_, rfl⟩
                  replace H : (if 0 ≤ (ji24) then (if (shr .u16 a0 (ji24)) = (shr .u16 ((rd_T29 t293 x44_2).f0) (ji24)) then (crossbucklaw03_CidrFew.l0 k2 a0 t293 (wrap64 (x8_2 + 1)) t293 (t293.length : Int) (wrap64 (x44_2 + 1)) a1_0 a1_1) else (if ((rd_T29 t293 x44_2).f1) = 0 then (crossbucklaw03_CidrFew.l0 k2 a0 t293 (wrap64 (x8_2 + 1)) t293 (t293.length : Int) (wrap64 (x44_2 + 1)) a1_0 a1_1) else (crossbucklaw03_CidrFew.l0 k2 a0 t293 x8_2 t293 (t293.length : Int) (wrap64 (x44_2 + 1)) a1_0 a1_1))) else (none)) = some r := by first | (rw [hji24] at H; exact H) | (simp only [hji24] at H ⊢; exact H)
                  have hji24w : (IntKind.i64.wrap (16 - ((rd_T29 t293 x44_2).f1))) = ji24 := (i64_w _).trans hji24
                  by_cases c25 : 0 ≤ (ji24)
                  · rw [if_pos c25] at H
                    have c25b0 := eq_true c25
                    have c25b1 : decide (0 ≤ (ji24)) = true := decide_eq_true c25
                    clear c25
                    obtain ⟨ji26, hji26⟩ : ∃ j_ : Int, (shr .u16 a0 (ji24)) = j_ := ⟨_, rfl⟩
                    replace H : (if (ji26) = (shr .u16 ((rd_T29 t293 x44_2).f0) (ji24)) then (crossbucklaw03_CidrFew.l0 k2 a0 t293 (wrap64 (x8_2 + 1)) t293 (t293.length : Int) (wrap64 (x44_2 + 1)) a1_0 a1_1) else (if ((rd_T29 t293 x44_2).f1) = 0 then (crossbucklaw03_CidrFew.l0 k2 a0 t293 (wrap64 (x8_2 + 1)) t293 (t293.length : Int) (wrap64 (x44_2 + 1)) a1_0 a1_1) else (crossbucklaw03_CidrFew.l0 k2 a0 t293 x8_2 t293 (t293.length : Int) (wrap64 (x44_2 + 1)) a1_0 a1_1))) = some r := by first | (rw [hji26] at H; exact H) | (simp only [hji26] at H ⊢; exact H)
                    have hji26_ : (a0 / 2 ^ min (ji24).toNat 16) = ji26 := hji26
                    have hji26z : (ji24) ≤ 16 → (a0 / 2 ^ (ji24).toNat) = ji26 := shr_small hji26
                    have c27b0 := eq_true (of_decide_eq_true (by first | (with_reducible assumption) | assumption) : 0 ≤ (ji24))
                    obtain ⟨ji28, hji28⟩ : ∃ j_ : Int, (shr .u16 ((rd_T29 t293 x44_2).f0) (ji24)) = j_ := ⟨_, rfl⟩
                    replace H : (if (ji26) = (ji28) then (crossbucklaw03_CidrFew.l0 k2 a0 t293 (wrap64 (x8_2 + 1)) t293 (t293.length : Int) (wrap64 (x44_2 + 1)) a1_0 a1_1) else (if ((rd_T29 t293 x44_2).f1) = 0 then (crossbucklaw03_CidrFew.l0 k2 a0 t293 (wrap64 (x8_2 + 1)) t293 (t293.length : Int) (wrap64 (x44_2 + 1)) a1_0 a1_1) else (crossbucklaw03_CidrFew.l0 k2 a0 t293 x8_2 t293 (t293.length : Int) (wrap64 (x44_2 + 1)) a1_0 a1_1))) = some r := by first | (rw [hji28] at H; exact H) | (simp only [hji28] at H ⊢; exact H)
                    have hji28_ : (((rd_T29 t293 x44_2).f0) / 2 ^ min (ji24).toNat 16) = ji28 := hji28
                    have hji28z : (ji24) ≤ 16 → (((rd_T29 t293 x44_2).f0) / 2 ^ (ji24).toNat) = ji28 := shr_small hji28
                    by_cases c29 : (ji26) = (ji28)
                    · rw [if_pos c29] at H
                      have c29b0 : ((ji26) == (ji28)) = true := beq_iff_eq.mpr c29
                      have c29b1 : ((ji26) != (ji28)) = false := bne_eq_false_iff_eq.mpr c29
                      clear c29
                      have H' := Aside0.mk H
                      clear H
                      have p296 : 0 ≤ (x44_2 : Int) := of_decide_eq_true (by first | (with_reducible assumption) | assumption)
                      have q296 : x44_2 < (t293.length : Int) := of_decide_eq_true (by first | (with_reducible assumption) | assumption)
                      obtain ⟨ad296, e296, hx296_0, hx296_1⟩ := at_T29 (Kd.R_reads' HO_42.out).2.2 x44_2 p296 q296
                      cases e296
                      replace p296 := eq_true p296
                      replace q296 := eq_true q296
                      go_wp2_with (first | ((with_reducible refine gate_dst (N := 10) rfl ?_); (try (refine gate_guard (by rfl) ?_; dsimp only)); refine box_event ?hg (N := 10) ?hd (cs := #[.int .u16 0, .int .i64 0]) (t := 29) ?hr ?_; (case hd => rfl); (case hg => rfl); (case hr => first | (go_simp; done) | (go_simp; rfl)); intro gb297 hg w30 hbox hb; have n0_ := Aside0.mk (Kd.R_below (Kd.R_elderB (by (with_reducible repeat (first | apply Kd.R_alloc | apply Kd.R_drewN | apply Kd.R_drew)); exact HO_7.out) gb297 (Nat.le_of_eq hg.symm)) hb); have n1_ := Aside0.mk (Kd.R_below (Kd.R_elderB (by (with_reducible repeat (first | apply Kd.R_alloc | apply Kd.R_drewN | apply Kd.R_drew)); exact HO_42.out) gb297 (Nat.le_of_eq hg.symm)) hb); have n2_ := Aside0.mk (blk_below (g := gb284) (o := .cells #[.int .u16 a1_0, .int .u16 a1_1] 24 (0, 0)) (by (with_reducible repeat (first | refine blk_drewN ?_ _ | refine blk_drew ?_ | refine blk_alloc ?_ _)); exact BK284.out) hb); have n3_ := Aside0.mk (below_step (by repeat (first | (with_reducible first | exact HB.out | apply below_alloc | apply pw_below_drewN | apply below_drew1 | refine below_set ?_ GE284.out) | exact HB.out)) hb); have n4_ := Aside0.mk (hbox); have n5_ := Aside0.mk ((by rw [hg]; exact (below_size (by repeat (first | (with_reducible first | exact HB.out | apply below_alloc | apply pw_below_drewN | apply below_drew1 | refine below_set ?_ GE284.out) | exact HB.out))) : w.heap.size ≤ gb297)); have n6_ := Aside0.mk ((by rw [hg]; exact (below_size (by repeat (first | (with_reducible first | exact HB.out | apply below_alloc | apply pw_below_drewN | apply below_drew1 | refine below_set ?_ GE284.out) | exact HB.out))) : w.heap.size ≤ gb297)); have n7_ := Aside0.mk ((by rw [hg]; exact Nat.ne_of_lt (blk_lt (g := gb284) (o := .cells #[.int .u16 a1_0, .int .u16 a1_1] 24 (0, 0)) (by (with_reducible repeat (first | refine blk_drewN ?_ _ | refine blk_drew ?_ | refine blk_alloc ?_ _)); exact BK284.out)) : gb284 ≠ gb297)); have n8_ := Aside0.mk ((by rw [hg]; exact Nat.ne_of_gt (blk_lt (g := gb284) (o := .cells #[.int .u16 a1_0, .int .u16 a1_1] 24 (0, 0)) (by (with_reducible repeat (first | refine blk_drewN ?_ _ | refine blk_drew ?_ | refine blk_alloc ?_ _)); exact BK284.out)) : gb297 ≠ gb284)); clear HO_7; clear HO_42; clear BK284; clear HB; have HO_7 := n0_; have HO_42 := n1_; have BK284 := n2_; have HB := n3_; have BK297 := n4_; have GW297 := n5_; have GE297 := n6_; have NB284_297 := n7_; have NB297_284 := n8_; clear n0_ n1_ n2_ n3_ n4_ n5_ n6_ n7_ n8_; clear hb hbox hg; have hnb31 := NB297_284.out; have hnc31 := NB284_297.out; have hcz32_0 : w30.cell? ⟨gb297, 0, none⟩ = some (.int .u16 0) := (blk_cell BK297.out 0).trans rfl; have hcz32_1 : w30.cell? ⟨gb297, 1, none⟩ = some (.int .i64 0) := (blk_cell BK297.out 1).trans rfl; have hfz32_0 := blk_frozen BK297.out 0; have hfz32_1 := blk_frozen BK297.out 1))
                      repeat (go_quiet (first | ((with_reducible refine gate_dst (N := 10) rfl ?_); (try (refine gate_guard (by rfl) ?_; dsimp only)); refine box_event ?hg (N := 10) ?hd (cs := #[.int .u16 0, .int .i64 0]) (t := 29) ?hr ?_; (case hd => rfl); (case hg => rfl); (case hr => first | (go_simp; done) | (go_simp; rfl)); intro gb297 hg w30 hbox hb; have n0_ := Aside0.mk (Kd.R_below (Kd.R_elderB (by (with_reducible repeat (first | apply Kd.R_alloc | apply Kd.R_drewN | apply Kd.R_drew)); exact HO_7.out) gb297 (Nat.le_of_eq hg.symm)) hb); have n1_ := Aside0.mk (Kd.R_below (Kd.R_elderB (by (with_reducible repeat (first | apply Kd.R_alloc | apply Kd.R_drewN | apply Kd.R_drew)); exact HO_42.out) gb297 (Nat.le_of_eq hg.symm)) hb); have n2_ := Aside0.mk (blk_below (g := gb284) (o := .cells #[.int .u16 a1_0, .int .u16 a1_1] 24 (0, 0)) (by (with_reducible repeat (first | refine blk_drewN ?_ _ | refine blk_drew ?_ | refine blk_alloc ?_ _)); exact BK284.out) hb); have n3_ := Aside0.mk (below_step (by repeat (first | (with_reducible first | exact HB.out | apply below_alloc | apply pw_below_drewN | apply below_drew1 | refine below_set ?_ GE284.out) | exact HB.out)) hb); have n4_ := Aside0.mk (hbox); have n5_ := Aside0.mk ((by rw [hg]; exact (below_size (by repeat (first | (with_reducible first | exact HB.out | apply below_alloc | apply pw_below_drewN | apply below_drew1 | refine below_set ?_ GE284.out) | exact HB.out))) : w.heap.size ≤ gb297)); have n6_ := Aside0.mk ((by rw [hg]; exact (below_size (by repeat (first | (with_reducible first | exact HB.out | apply below_alloc | apply pw_below_drewN | apply below_drew1 | refine below_set ?_ GE284.out) | exact HB.out))) : w.heap.size ≤ gb297)); have n7_ := Aside0.mk ((by rw [hg]; exact Nat.ne_of_lt (blk_lt (g := gb284) (o := .cells #[.int .u16 a1_0, .int .u16 a1_1] 24 (0, 0)) (by (with_reducible repeat (first | refine blk_drewN ?_ _ | refine blk_drew ?_ | refine blk_alloc ?_ _)); exact BK284.out)) : gb284 ≠ gb297)); have n8_ := Aside0.mk ((by rw [hg]; exact Nat.ne_of_gt (blk_lt (g := gb284) (o := .cells #[.int .u16 a1_0, .int .u16 a1_1] 24 (0, 0)) (by (with_reducible repeat (first | refine blk_drewN ?_ _ | refine blk_drew ?_ | refine blk_alloc ?_ _)); exact BK284.out)) : gb297 ≠ gb284)); clear HO_7; clear HO_42; clear BK284; clear HB; have HO_7 := n0_; have HO_42 := n1_; have BK284 := n2_; have HB := n3_; have BK297 := n4_; have GW297 := n5_; have GE297 := n6_; have NB284_297 := n7_; have NB297_284 := n8_; clear n0_ n1_ n2_ n3_ n4_ n5_ n6_ n7_ n8_; clear hb hbox hg; have hnb31 := NB297_284.out; have hnc31 := NB284_297.out; have hcz32_0 : w30.cell? ⟨gb297, 0, none⟩ = some (.int .u16 0) := (blk_cell BK297.out 0).trans rfl; have hcz32_1 : w30.cell? ⟨gb297, 1, none⟩ = some (.int .i64 0) := (blk_cell BK297.out 1).trans rfl; have hfz32_0 := blk_frozen BK297.out 0; have hfz32_1 := blk_frozen BK297.out 1)); try go_wp2_with (first | ((with_reducible refine gate_dst (N := 10) rfl ?_); (try (refine gate_guard (by rfl) ?_; dsimp only)); refine box_event ?hg (N := 10) ?hd (cs := #[.int .u16 0, .int .i64 0]) (t := 29) ?hr ?_; (case hd => rfl); (case hg => rfl); (case hr => first | (go_simp; done) | (go_simp; rfl)); intro gb297 hg w30 hbox hb; have n0_ := Aside0.mk (Kd.R_below (Kd.R_elderB (by (with_reducible repeat (first | apply Kd.R_alloc | apply Kd.R_drewN | apply Kd.R_drew)); exact HO_7.out) gb297 (Nat.le_of_eq hg.symm)) hb); have n1_ := Aside0.mk (Kd.R_below (Kd.R_elderB (by (with_reducible repeat (first | apply Kd.R_alloc | apply Kd.R_drewN | apply Kd.R_drew)); exact HO_42.out) gb297 (Nat.le_of_eq hg.symm)) hb); have n2_ := Aside0.mk (blk_below (g := gb284) (o := .cells #[.int .u16 a1_0, .int .u16 a1_1] 24 (0, 0)) (by (with_reducible repeat (first | refine blk_drewN ?_ _ | refine blk_drew ?_ | refine blk_alloc ?_ _)); exact BK284.out) hb); have n3_ := Aside0.mk (below_step (by repeat (first | (with_reducible first | exact HB.out | apply below_alloc | apply pw_below_drewN | apply below_drew1 | refine below_set ?_ GE284.out) | exact HB.out)) hb); have n4_ := Aside0.mk (hbox); have n5_ := Aside0.mk ((by rw [hg]; exact (below_size (by repeat (first | (with_reducible first | exact HB.out | apply below_alloc | apply pw_below_drewN | apply below_drew1 | refine below_set ?_ GE284.out) | exact HB.out))) : w.heap.size ≤ gb297)); have n6_ := Aside0.mk ((by rw [hg]; exact (below_size (by repeat (first | (with_reducible first | exact HB.out | apply below_alloc | apply pw_below_drewN | apply below_drew1 | refine below_set ?_ GE284.out) | exact HB.out))) : w.heap.size ≤ gb297)); have n7_ := Aside0.mk ((by rw [hg]; exact Nat.ne_of_lt (blk_lt (g := gb284) (o := .cells #[.int .u16 a1_0, .int .u16 a1_1] 24 (0, 0)) (by (with_reducible repeat (first | refine blk_drewN ?_ _ | refine blk_drew ?_ | refine blk_alloc ?_ _)); exact BK284.out)) : gb284 ≠ gb297)); have n8_ := Aside0.mk ((by rw [hg]; exact Nat.ne_of_gt (blk_lt (g := gb284) (o := .cells #[.int .u16 a1_0, .int .u16 a1_1] 24 (0, 0)) (by (with_reducible repeat (first | refine blk_drewN ?_ _ | refine blk_drew ?_ | refine blk_alloc ?_ _)); exact BK284.out)) : gb297 ≠ gb284)); clear HO_7; clear HO_42; clear BK284; clear HB; have HO_7 := n0_; have HO_42 := n1_; have BK284 := n2_; have HB := n3_; have BK297 := n4_; have GW297 := n5_; have GE297 := n6_; have NB284_297 := n7_; have NB297_284 := n8_; clear n0_ n1_ n2_ n3_ n4_ n5_ n6_ n7_ n8_; clear hb hbox hg; have hnb31 := NB297_284.out; have hnc31 := NB284_297.out; have hcz32_0 : w30.cell? ⟨gb297, 0, none⟩ = some (.int .u16 0) := (blk_cell BK297.out 0).trans rfl; have hcz32_1 : w30.cell? ⟨gb297, 1, none⟩ = some (.int .i64 0) := (blk_cell BK297.out 1).trans rfl; have hfz32_0 := blk_frozen BK297.out 0; have hfz32_1 := blk_frozen BK297.out 1)))
                      go_roundg k2
                      case measure => have := HJ4.out; have := HK2.out; omega
                      case rel => exact ⟨(wrap64 (x8_2 + 1)), (wrap64 (x44_2 + 1)), (by first | rfl | (simp; done) | (simp [*]; done)), (by first | rfl | (simp; done) | (simp [*]; done)), H', ⟨by have := HJ4.out; have := HK2.out; omega⟩, ⟨by (with_reducible repeat (first | apply Kd.R_alloc | apply Kd.R_drewN | apply Kd.R_drew)); exact Kd.R_mono (Kd.R_far (p := ⟨gb297, 1, none⟩) (Kd.R_far (p := ⟨gb297, 0, none⟩) (Kd.R_mono HO_7.out (fun k_ hk => (⟨hk, hk.2⟩ : _ ∧ k_ ≠ gb297))) (fun _ hk => hk.2) (.int .u16 ((rd_T29 t293 x44_2).f0))) (fun _ hk => hk.2) (.int .i64 ((rd_T29 t293 x44_2).f1))) (fun _ hk => trivial)⟩, ⟨by (with_reducible repeat (first | apply Kd.R_alloc | apply Kd.R_drewN | apply Kd.R_drew)); exact Kd.R_mono (Kd.R_far (p := ⟨gb297, 1, none⟩) (Kd.R_far (p := ⟨gb297, 0, none⟩) (Kd.R_mono HO_42.out (fun k_ hk => (⟨hk, hk.2⟩ : _ ∧ k_ ≠ gb297))) (fun _ hk => hk.2) (.int .u16 ((rd_T29 t293 x44_2).f0))) (fun _ hk => hk.2) (.int .i64 ((rd_T29 t293 x44_2).f1))) (fun _ hk => trivial)⟩, ⟨by (with_reducible repeat (first | refine blk_drewN ?_ _ | refine blk_drew ?_ | refine blk_alloc ?_ _)); refine blk_far ?_ NB284_297.out _; (with_reducible repeat (first | refine blk_drewN ?_ _ | refine blk_drew ?_ | refine blk_alloc ?_ _)); refine blk_far ?_ NB284_297.out _; (with_reducible repeat (first | refine blk_drewN ?_ _ | refine blk_drew ?_ | refine blk_alloc ?_ _)); exact BK284.out⟩, ⟨by repeat (first | (with_reducible first | exact HB.out | apply below_alloc | apply pw_below_drewN | apply below_drew1 | refine below_set ?_ GE284.out | refine below_set ?_ GE297.out) | exact HB.out)⟩⟩
                    · rw [if_neg c29] at H
                      have c29b0 : ((ji26) == (ji28)) = false := beq_eq_false_iff_ne.mpr c29
                      have c29b1 : ((ji26) != (ji28)) = true := bne_iff_ne.mpr c29
                      by_cases c33 : ((rd_T29 t293 x44_2).f1) = 0
                      · rw [if_pos c33] at H
                        have c33b0 : (((rd_T29 t293 x44_2).f1) == 0) = true := beq_iff_eq.mpr c33
                        have c33b1 : (((rd_T29 t293 x44_2).f1) != 0) = false := bne_eq_false_iff_eq.mpr c33
                        clear c33
                        have H' := Aside0.mk H
                        clear H
                        have p296 : 0 ≤ (x44_2 : Int) := of_decide_eq_true (by first | (with_reducible assumption) | assumption)
                        have q296 : x44_2 < (t293.length : Int) := of_decide_eq_true (by first | (with_reducible assumption) | assumption)
                        obtain ⟨ad296, e296, hx296_0, hx296_1⟩ := at_T29 (Kd.R_reads' HO_42.out).2.2 x44_2 p296 q296
                        cases e296
                        replace p296 := eq_true p296
                        replace q296 := eq_true q296
                        go_wp2_with (first | ((with_reducible refine gate_dst (N := 10) rfl ?_); (try (refine gate_guard (by rfl) ?_; dsimp only)); refine box_event ?hg (N := 10) ?hd (cs := #[.int .u16 0, .int .i64 0]) (t := 29) ?hr ?_; (case hd => rfl); (case hg => rfl); (case hr => first | (go_simp; done) | (go_simp; rfl)); intro gb297 hg w34 hbox hb; have n0_ := Aside0.mk (Kd.R_below (Kd.R_elderB (by (with_reducible repeat (first | apply Kd.R_alloc | apply Kd.R_drewN | apply Kd.R_drew)); exact HO_7.out) gb297 (Nat.le_of_eq hg.symm)) hb); have n1_ := Aside0.mk (Kd.R_below (Kd.R_elderB (by (with_reducible repeat (first | apply Kd.R_alloc | apply Kd.R_drewN | apply Kd.R_drew)); exact HO_42.out) gb297 (Nat.le_of_eq hg.symm)) hb); have n2_ := Aside0.mk (blk_below (g := gb284) (o := .cells #[.int .u16 a1_0, .int .u16 a1_1] 24 (0, 0)) (by (with_reducible repeat (first | refine blk_drewN ?_ _ | refine blk_drew ?_ | refine blk_alloc ?_ _)); exact BK284.out) hb); have n3_ := Aside0.mk (below_step (by repeat (first | (with_reducible first | exact HB.out | apply below_alloc | apply pw_below_drewN | apply below_drew1 | refine below_set ?_ GE284.out) | exact HB.out)) hb); have n4_ := Aside0.mk (hbox); have n5_ := Aside0.mk ((by rw [hg]; exact (below_size (by repeat (first | (with_reducible first | exact HB.out | apply below_alloc | apply pw_below_drewN | apply below_drew1 | refine below_set ?_ GE284.out) | exact HB.out))) : w.heap.size ≤ gb297)); have n6_ := Aside0.mk ((by rw [hg]; exact (below_size (by repeat (first | (with_reducible first | exact HB.out | apply below_alloc | apply pw_below_drewN | apply below_drew1 | refine below_set ?_ GE284.out) | exact HB.out))) : w.heap.size ≤ gb297)); have n7_ := Aside0.mk ((by rw [hg]; exact Nat.ne_of_lt (blk_lt (g := gb284) (o := .cells #[.int .u16 a1_0, .int .u16 a1_1] 24 (0, 0)) (by (with_reducible repeat (first | refine blk_drewN ?_ _ | refine blk_drew ?_ | refine blk_alloc ?_ _)); exact BK284.out)) : gb284 ≠ gb297)); have n8_ := Aside0.mk ((by rw [hg]; exact Nat.ne_of_gt (blk_lt (g := gb284) (o := .cells #[.int .u16 a1_0, .int .u16 a1_1] 24 (0, 0)) (by (with_reducible repeat (first | refine blk_drewN ?_ _ | refine blk_drew ?_ | refine blk_alloc ?_ _)); exact BK284.out)) : gb297 ≠ gb284)); clear HO_7; clear HO_42; clear BK284; clear HB; have HO_7 := n0_; have HO_42 := n1_; have BK284 := n2_; have HB := n3_; have BK297 := n4_; have GW297 := n5_; have GE297 := n6_; have NB284_297 := n7_; have NB297_284 := n8_; clear n0_ n1_ n2_ n3_ n4_ n5_ n6_ n7_ n8_; clear hb hbox hg; have hnb35 := NB297_284.out; have hnc35 := NB284_297.out; have hcz36_0 : w34.cell? ⟨gb297, 0, none⟩ = some (.int .u16 0) := (blk_cell BK297.out 0).trans rfl; have hcz36_1 : w34.cell? ⟨gb297, 1, none⟩ = some (.int .i64 0) := (blk_cell BK297.out 1).trans rfl; have hfz36_0 := blk_frozen BK297.out 0; have hfz36_1 := blk_frozen BK297.out 1))
                        repeat (go_quiet (first | ((with_reducible refine gate_dst (N := 10) rfl ?_); (try (refine gate_guard (by rfl) ?_; dsimp only)); refine box_event ?hg (N := 10) ?hd (cs := #[.int .u16 0, .int .i64 0]) (t := 29) ?hr ?_; (case hd => rfl); (case hg => rfl); (case hr => first | (go_simp; done) | (go_simp; rfl)); intro gb297 hg w34 hbox hb; have n0_ := Aside0.mk (Kd.R_below (Kd.R_elderB (by (with_reducible repeat (first | apply Kd.R_alloc | apply Kd.R_drewN | apply Kd.R_drew)); exact HO_7.out) gb297 (Nat.le_of_eq hg.symm)) hb); have n1_ := Aside0.mk (Kd.R_below (Kd.R_elderB (by (with_reducible repeat (first | apply Kd.R_alloc | apply Kd.R_drewN | apply Kd.R_drew)); exact HO_42.out) gb297 (Nat.le_of_eq hg.symm)) hb); have n2_ := Aside0.mk (blk_below (g := gb284) (o := .cells #[.int .u16 a1_0, .int .u16 a1_1] 24 (0, 0)) (by (with_reducible repeat (first | refine blk_drewN ?_ _ | refine blk_drew ?_ | refine blk_alloc ?_ _)); exact BK284.out) hb); have n3_ := Aside0.mk (below_step (by repeat (first | (with_reducible first | exact HB.out | apply below_alloc | apply pw_below_drewN | apply below_drew1 | refine below_set ?_ GE284.out) | exact HB.out)) hb); have n4_ := Aside0.mk (hbox); have n5_ := Aside0.mk ((by rw [hg]; exact (below_size (by repeat (first | (with_reducible first | exact HB.out | apply below_alloc | apply pw_below_drewN | apply below_drew1 | refine below_set ?_ GE284.out) | exact HB.out))) : w.heap.size ≤ gb297)); have n6_ := Aside0.mk ((by rw [hg]; exact (below_size (by repeat (first | (with_reducible first | exact HB.out | apply below_alloc | apply pw_below_drewN | apply below_drew1 | refine below_set ?_ GE284.out) | exact HB.out))) : w.heap.size ≤ gb297)); have n7_ := Aside0.mk ((by rw [hg]; exact Nat.ne_of_lt (blk_lt (g := gb284) (o := .cells #[.int .u16 a1_0, .int .u16 a1_1] 24 (0, 0)) (by (with_reducible repeat (first | refine blk_drewN ?_ _ | refine blk_drew ?_ | refine blk_alloc ?_ _)); exact BK284.out)) : gb284 ≠ gb297)); have n8_ := Aside0.mk ((by rw [hg]; exact Nat.ne_of_gt (blk_lt (g := gb284) (o := .cells #[.int .u16 a1_0, .int .u16 a1_1] 24 (0, 0)) (by (with_reducible repeat (first | refine blk_drewN ?_ _ | refine blk_drew ?_ | refine blk_alloc ?_ _)); exact BK284.out)) : gb297 ≠ gb284)); clear HO_7; clear HO_42; clear BK284; clear HB; have HO_7 := n0_; have HO_42 := n1_; have BK284 := n2_; have HB := n3_; have BK297 := n4_; have GW297 := n5_; have GE297 := n6_; have NB284_297 := n7_; have NB297_284 := n8_; clear n0_ n1_ n2_ n3_ n4_ n5_ n6_ n7_ n8_; clear hb hbox hg; have hnb35 := NB297_284.out; have hnc35 := NB284_297.out; have hcz36_0 : w34.cell? ⟨gb297, 0, none⟩ = some (.int .u16 0) := (blk_cell BK297.out 0).trans rfl; have hcz36_1 : w34.cell? ⟨gb297, 1, none⟩ = some (.int .i64 0) := (blk_cell BK297.out 1).trans rfl; have hfz36_0 := blk_frozen BK297.out 0; have hfz36_1 := blk_frozen BK297.out 1)); try go_wp2_with (first | ((with_reducible refine gate_dst (N := 10) rfl ?_); (try (refine gate_guard (by rfl) ?_; dsimp only)); refine box_event ?hg (N := 10) ?hd (cs := #[.int .u16 0, .int .i64 0]) (t := 29) ?hr ?_; (case hd => rfl); (case hg => rfl); (case hr => first | (go_simp; done) | (go_simp; rfl)); intro gb297 hg w34 hbox hb; have n0_ := Aside0.mk (Kd.R_below (Kd.R_elderB (by (with_reducible repeat (first | apply Kd.R_alloc | apply Kd.R_drewN | apply Kd.R_drew)); exact HO_7.out) gb297 (Nat.le_of_eq hg.symm)) hb); have n1_ := Aside0.mk (Kd.R_below (Kd.R_elderB (by (with_reducible repeat (first | apply Kd.R_alloc | apply Kd.R_drewN | apply Kd.R_drew)); exact HO_42.out) gb297 (Nat.le_of_eq hg.symm)) hb); have n2_ := Aside0.mk (blk_below (g := gb284) (o := .cells #[.int .u16 a1_0, .int .u16 a1_1] 24 (0, 0)) (by (with_reducible repeat (first | refine blk_drewN ?_ _ | refine blk_drew ?_ | refine blk_alloc ?_ _)); exact BK284.out) hb); have n3_ := Aside0.mk (below_step (by repeat (first | (with_reducible first | exact HB.out | apply below_alloc | apply pw_below_drewN | apply below_drew1 | refine below_set ?_ GE284.out) | exact HB.out)) hb); have n4_ := Aside0.mk (hbox); have n5_ := Aside0.mk ((by rw [hg]; exact (below_size (by repeat (first | (with_reducible first | exact HB.out | apply below_alloc | apply pw_below_drewN | apply below_drew1 | refine below_set ?_ GE284.out) | exact HB.out))) : w.heap.size ≤ gb297)); have n6_ := Aside0.mk ((by rw [hg]; exact (below_size (by repeat (first | (with_reducible first | exact HB.out | apply below_alloc | apply pw_below_drewN | apply below_drew1 | refine below_set ?_ GE284.out) | exact HB.out))) : w.heap.size ≤ gb297)); have n7_ := Aside0.mk ((by rw [hg]; exact Nat.ne_of_lt (blk_lt (g := gb284) (o := .cells #[.int .u16 a1_0, .int .u16 a1_1] 24 (0, 0)) (by (with_reducible repeat (first | refine blk_drewN ?_ _ | refine blk_drew ?_ | refine blk_alloc ?_ _)); exact BK284.out)) : gb284 ≠ gb297)); have n8_ := Aside0.mk ((by rw [hg]; exact Nat.ne_of_gt (blk_lt (g := gb284) (o := .cells #[.int .u16 a1_0, .int .u16 a1_1] 24 (0, 0)) (by (with_reducible repeat (first | refine blk_drewN ?_ _ | refine blk_drew ?_ | refine blk_alloc ?_ _)); exact BK284.out)) : gb297 ≠ gb284)); clear HO_7; clear HO_42; clear BK284; clear HB; have HO_7 := n0_; have HO_42 := n1_; have BK284 := n2_; have HB := n3_; have BK297 := n4_; have GW297 := n5_; have GE297 := n6_; have NB284_297 := n7_; have NB297_284 := n8_; clear n0_ n1_ n2_ n3_ n4_ n5_ n6_ n7_ n8_; clear hb hbox hg; have hnb35 := NB297_284.out; have hnc35 := NB284_297.out; have hcz36_0 : w34.cell? ⟨gb297, 0, none⟩ = some (.int .u16 0) := (blk_cell BK297.out 0).trans rfl; have hcz36_1 : w34.cell? ⟨gb297, 1, none⟩ = some (.int .i64 0) := (blk_cell BK297.out 1).trans rfl; have hfz36_0 := blk_frozen BK297.out 0; have hfz36_1 := blk_frozen BK297.out 1)))
                        go_roundg k2
                        case measure => have := HJ4.out; have := HK2.out; omega
                        case rel => exact ⟨(wrap64 (x8_2 + 1)), (wrap64 (x44_2 + 1)), (by first | rfl | (simp; done) | (simp [*]; done)), (by first | rfl | (simp; done) | (simp [*]; done)), H', ⟨by have := HJ4.out; have := HK2.out; omega⟩, ⟨by (with_reducible repeat (first | apply Kd.R_alloc | apply Kd.R_drewN | apply Kd.R_drew)); exact Kd.R_mono (Kd.R_far (p := ⟨gb297, 1, none⟩) (Kd.R_far (p := ⟨gb297, 0, none⟩) (Kd.R_mono HO_7.out (fun k_ hk => (⟨hk, hk.2⟩ : _ ∧ k_ ≠ gb297))) (fun _ hk => hk.2) (.int .u16 ((rd_T29 t293 x44_2).f0))) (fun _ hk => hk.2) (.int .i64 ((rd_T29 t293 x44_2).f1))) (fun _ hk => trivial)⟩, ⟨by (with_reducible repeat (first | apply Kd.R_alloc | apply Kd.R_drewN | apply Kd.R_drew)); exact Kd.R_mono (Kd.R_far (p := ⟨gb297, 1, none⟩) (Kd.R_far (p := ⟨gb297, 0, none⟩) (Kd.R_mono HO_42.out (fun k_ hk => (⟨hk, hk.2⟩ : _ ∧ k_ ≠ gb297))) (fun _ hk => hk.2) (.int .u16 ((rd_T29 t293 x44_2).f0))) (fun _ hk => hk.2) (.int .i64 ((rd_T29 t293 x44_2).f1))) (fun _ hk => trivial)⟩, ⟨by (with_reducible repeat (first | refine blk_drewN ?_ _ | refine blk_drew ?_ | refine blk_alloc ?_ _)); refine blk_far ?_ NB284_297.out _; (with_reducible repeat (first | refine blk_drewN ?_ _ | refine blk_drew ?_ | refine blk_alloc ?_ _)); refine blk_far ?_ NB284_297.out _; (with_reducible repeat (first | refine blk_drewN ?_ _ | refine blk_drew ?_ | refine blk_alloc ?_ _)); exact BK284.out⟩, ⟨by repeat (first | (with_reducible first | exact HB.out | apply below_alloc | apply pw_below_drewN | apply below_drew1 | refine below_set ?_ GE284.out | refine below_set ?_ GE297.out) | exact HB.out)⟩⟩
                      · rw [if_neg c33] at H
                        have c33b0 : (((rd_T29 t293 x44_2).f1) == 0) = false := beq_eq_false_iff_ne.mpr c33
                        have c33b1 : (((rd_T29 t293 x44_2).f1) != 0) = true := bne_iff_ne.mpr c33
                        have H' := Aside0.mk H
                        clear H
                        have p296 : 0 ≤ (x44_2 : Int) := of_decide_eq_true (by first | (with_reducible assumption) | assumption)
                        have q296 : x44_2 < (t293.length : Int) := of_decide_eq_true (by first | (with_reducible assumption) | assumption)
                        obtain ⟨ad296, e296, hx296_0, hx296_1⟩ := at_T29 (Kd.R_reads' HO_42.out).2.2 x44_2 p296 q296
                        cases e296
                        replace p296 := eq_true p296
                        replace q296 := eq_true q296
                        go_wp2_with (first | ((with_reducible refine gate_dst (N := 10) rfl ?_); (try (refine gate_guard (by rfl) ?_; dsimp only)); refine box_event ?hg (N := 10) ?hd (cs := #[.int .u16 0, .int .i64 0]) (t := 29) ?hr ?_; (case hd => rfl); (case hg => rfl); (case hr => first | (go_simp; done) | (go_simp; rfl)); intro gb297 hg w37 hbox hb; have n0_ := Aside0.mk (Kd.R_below (Kd.R_elderB (by (with_reducible repeat (first | apply Kd.R_alloc | apply Kd.R_drewN | apply Kd.R_drew)); exact HO_7.out) gb297 (Nat.le_of_eq hg.symm)) hb); have n1_ := Aside0.mk (Kd.R_below (Kd.R_elderB (by (with_reducible repeat (first | apply Kd.R_alloc | apply Kd.R_drewN | apply Kd.R_drew)); exact HO_42.out) gb297 (Nat.le_of_eq hg.symm)) hb); have n2_ := Aside0.mk (blk_below (g := gb284) (o := .cells #[.int .u16 a1_0, .int .u16 a1_1] 24 (0, 0)) (by (with_reducible repeat (first | refine blk_drewN ?_ _ | refine blk_drew ?_ | refine blk_alloc ?_ _)); exact BK284.out) hb); have n3_ := Aside0.mk (below_step (by repeat (first | (with_reducible first | exact HB.out | apply below_alloc | apply pw_below_drewN | apply below_drew1 | refine below_set ?_ GE284.out) | exact HB.out)) hb); have n4_ := Aside0.mk (hbox); have n5_ := Aside0.mk ((by rw [hg]; exact (below_size (by repeat (first | (with_reducible first | exact HB.out | apply below_alloc | apply pw_below_drewN | apply below_drew1 | refine below_set ?_ GE284.out) | exact HB.out))) : w.heap.size ≤ gb297)); have n6_ := Aside0.mk ((by rw [hg]; exact (below_size (by repeat (first | (with_reducible first | exact HB.out | apply below_alloc | apply pw_below_drewN | apply below_drew1 | refine below_set ?_ GE284.out) | exact HB.out))) : w.heap.size ≤ gb297)); have n7_ := Aside0.mk ((by rw [hg]; exact Nat.ne_of_lt (blk_lt (g := gb284) (o := .cells #[.int .u16 a1_0, .int .u16 a1_1] 24 (0, 0)) (by (with_reducible repeat (first | refine blk_drewN ?_ _ | refine blk_drew ?_ | refine blk_alloc ?_ _)); exact BK284.out)) : gb284 ≠ gb297)); have n8_ := Aside0.mk ((by rw [hg]; exact Nat.ne_of_gt (blk_lt (g := gb284) (o := .cells #[.int .u16 a1_0, .int .u16 a1_1] 24 (0, 0)) (by (with_reducible repeat (first | refine blk_drewN ?_ _ | refine blk_drew ?_ | refine blk_alloc ?_ _)); exact BK284.out)) : gb297 ≠ gb284)); clear HO_7; clear HO_42; clear BK284; clear HB; have HO_7 := n0_; have HO_42 := n1_; have BK284 := n2_; have HB := n3_; have BK297 := n4_; have GW297 := n5_; have GE297 := n6_; have NB284_297 := n7_; have NB297_284 := n8_; clear n0_ n1_ n2_ n3_ n4_ n5_ n6_ n7_ n8_; clear hb hbox hg; have hnb38 := NB297_284.out; have hnc38 := NB284_297.out; have hcz39_0 : w37.cell? ⟨gb297, 0, none⟩ = some (.int .u16 0) := (blk_cell BK297.out 0).trans rfl; have hcz39_1 : w37.cell? ⟨gb297, 1, none⟩ = some (.int .i64 0) := (blk_cell BK297.out 1).trans rfl; have hfz39_0 := blk_frozen BK297.out 0; have hfz39_1 := blk_frozen BK297.out 1))
                        repeat (go_quiet (first | ((with_reducible refine gate_dst (N := 10) rfl ?_); (try (refine gate_guard (by rfl) ?_; dsimp only)); refine box_event ?hg (N := 10) ?hd (cs := #[.int .u16 0, .int .i64 0]) (t := 29) ?hr ?_; (case hd => rfl); (case hg => rfl); (case hr => first | (go_simp; done) | (go_simp; rfl)); intro gb297 hg w37 hbox hb; have n0_ := Aside0.mk (Kd.R_below (Kd.R_elderB (by (with_reducible repeat (first | apply Kd.R_alloc | apply Kd.R_drewN | apply Kd.R_drew)); exact HO_7.out) gb297 (Nat.le_of_eq hg.symm)) hb); have n1_ := Aside0.mk (Kd.R_below (Kd.R_elderB (by (with_reducible repeat (first | apply Kd.R_alloc | apply Kd.R_drewN | apply Kd.R_drew)); exact HO_42.out) gb297 (Nat.le_of_eq hg.symm)) hb); have n2_ := Aside0.mk (blk_below (g := gb284) (o := .cells #[.int .u16 a1_0, .int .u16 a1_1] 24 (0, 0)) (by (with_reducible repeat (first | refine blk_drewN ?_ _ | refine blk_drew ?_ | refine blk_alloc ?_ _)); exact BK284.out) hb); have n3_ := Aside0.mk (below_step (by repeat (first | (with_reducible first | exact HB.out | apply below_alloc | apply pw_below_drewN | apply below_drew1 | refine below_set ?_ GE284.out) | exact HB.out)) hb); have n4_ := Aside0.mk (hbox); have n5_ := Aside0.mk ((by rw [hg]; exact (below_size (by repeat (first | (with_reducible first | exact HB.out | apply below_alloc | apply pw_below_drewN | apply below_drew1 | refine below_set ?_ GE284.out) | exact HB.out))) : w.heap.size ≤ gb297)); have n6_ := Aside0.mk ((by rw [hg]; exact (below_size (by repeat (first | (with_reducible first | exact HB.out | apply below_alloc | apply pw_below_drewN | apply below_drew1 | refine below_set ?_ GE284.out) | exact HB.out))) : w.heap.size ≤ gb297)); have n7_ := Aside0.mk ((by rw [hg]; exact Nat.ne_of_lt (blk_lt (g := gb284) (o := .cells #[.int .u16 a1_0, .int .u16 a1_1] 24 (0, 0)) (by (with_reducible repeat (first | refine blk_drewN ?_ _ | refine blk_drew ?_ | refine blk_alloc ?_ _)); exact BK284.out)) : gb284 ≠ gb297)); have n8_ := Aside0.mk ((by rw [hg]; exact Nat.ne_of_gt (blk_lt (g := gb284) (o := .cells #[.int .u16 a1_0, .int .u16 a1_1] 24 (0, 0)) (by (with_reducible repeat (first | refine blk_drewN ?_ _ | refine blk_drew ?_ | refine blk_alloc ?_ _)); exact BK284.out)) : gb297 ≠ gb284)); clear HO_7; clear HO_42; clear BK284; clear HB; have HO_7 := n0_; have HO_42 := n1_; have BK284 := n2_; have HB := n3_; have BK297 := n4_; have GW297 := n5_; have GE297 := n6_; have NB284_297 := n7_; have NB297_284 := n8_; clear n0_ n1_ n2_ n3_ n4_ n5_ n6_ n7_ n8_; clear hb hbox hg; have hnb38 := NB297_284.out; have hnc38 := NB284_297.out; have hcz39_0 : w37.cell? ⟨gb297, 0, none⟩ = some (.int .u16 0) := (blk_cell BK297.out 0).trans rfl; have hcz39_1 : w37.cell? ⟨gb297, 1, none⟩ = some (.int .i64 0) := (blk_cell BK297.out 1).trans rfl; have hfz39_0 := blk_frozen BK297.out 0; have hfz39_1 := blk_frozen BK297.out 1)); try go_wp2_with (first | ((with_reducible refine gate_dst (N := 10) rfl ?_); (try (refine gate_guard (by rfl) ?_; dsimp only)); refine box_event ?hg (N := 10) ?hd (cs := #[.int .u16 0, .int .i64 0]) (t := 29) ?hr ?_; (case hd => rfl); (case hg => rfl); (case hr => first | (go_simp; done) | (go_simp; rfl)); intro gb297 hg w37 hbox hb; have n0_ := Aside0.mk (Kd.R_below (Kd.R_elderB (by (with_reducible repeat (first | apply Kd.R_alloc | apply Kd.R_drewN | apply Kd.R_drew)); exact HO_7.out) gb297 (Nat.le_of_eq hg.symm)) hb); have n1_ := Aside0.mk (Kd.R_below (Kd.R_elderB (by (with_reducible repeat (first | apply Kd.R_alloc | apply Kd.R_drewN | apply Kd.R_drew)); exact HO_42.out) gb297 (Nat.le_of_eq hg.symm)) hb); have n2_ := Aside0.mk (blk_below (g := gb284) (o := .cells #[.int .u16 a1_0, .int .u16 a1_1] 24 (0, 0)) (by (with_reducible repeat (first | refine blk_drewN ?_ _ | refine blk_drew ?_ | refine blk_alloc ?_ _)); exact BK284.out) hb); have n3_ := Aside0.mk (below_step (by repeat (first | (with_reducible first | exact HB.out | apply below_alloc | apply pw_below_drewN | apply below_drew1 | refine below_set ?_ GE284.out) | exact HB.out)) hb); have n4_ := Aside0.mk (hbox); have n5_ := Aside0.mk ((by rw [hg]; exact (below_size (by repeat (first | (with_reducible first | exact HB.out | apply below_alloc | apply pw_below_drewN | apply below_drew1 | refine below_set ?_ GE284.out) | exact HB.out))) : w.heap.size ≤ gb297)); have n6_ := Aside0.mk ((by rw [hg]; exact (below_size (by repeat (first | (with_reducible first | exact HB.out | apply below_alloc | apply pw_below_drewN | apply below_drew1 | refine below_set ?_ GE284.out) | exact HB.out))) : w.heap.size ≤ gb297)); have n7_ := Aside0.mk ((by rw [hg]; exact Nat.ne_of_lt (blk_lt (g := gb284) (o := .cells #[.int .u16 a1_0, .int .u16 a1_1] 24 (0, 0)) (by (with_reducible repeat (first | refine blk_drewN ?_ _ | refine blk_drew ?_ | refine blk_alloc ?_ _)); exact BK284.out)) : gb284 ≠ gb297)); have n8_ := Aside0.mk ((by rw [hg]; exact Nat.ne_of_gt (blk_lt (g := gb284) (o := .cells #[.int .u16 a1_0, .int .u16 a1_1] 24 (0, 0)) (by (with_reducible repeat (first | refine blk_drewN ?_ _ | refine blk_drew ?_ | refine blk_alloc ?_ _)); exact BK284.out)) : gb297 ≠ gb284)); clear HO_7; clear HO_42; clear BK284; clear HB; have HO_7 := n0_; have HO_42 := n1_; have BK284 := n2_; have HB := n3_; have BK297 := n4_; have GW297 := n5_; have GE297 := n6_; have NB284_297 := n7_; have NB297_284 := n8_; clear n0_ n1_ n2_ n3_ n4_ n5_ n6_ n7_ n8_; clear hb hbox hg; have hnb38 := NB297_284.out; have hnc38 := NB284_297.out; have hcz39_0 : w37.cell? ⟨gb297, 0, none⟩ = some (.int .u16 0) := (blk_cell BK297.out 0).trans rfl; have hcz39_1 : w37.cell? ⟨gb297, 1, none⟩ = some (.int .i64 0) := (blk_cell BK297.out 1).trans rfl; have hfz39_0 := blk_frozen BK297.out 0; have hfz39_1 := blk_frozen BK297.out 1)))
                        go_roundg k2
                        case measure => have := HJ4.out; have := HK2.out; omega
                        case rel => exact ⟨(x8_2), (wrap64 (x44_2 + 1)), (by first | rfl | (simp; done) | (simp [*]; done)), (by first | rfl | (simp; done) | (simp [*]; done)), H', ⟨by have := HJ4.out; have := HK2.out; omega⟩, ⟨by (with_reducible repeat (first | apply Kd.R_alloc | apply Kd.R_drewN | apply Kd.R_drew)); exact Kd.R_mono (Kd.R_far (p := ⟨gb297, 1, none⟩) (Kd.R_far (p := ⟨gb297, 0, none⟩) (Kd.R_mono HO_7.out (fun k_ hk => (⟨hk, hk.2⟩ : _ ∧ k_ ≠ gb297))) (fun _ hk => hk.2) (.int .u16 ((rd_T29 t293 x44_2).f0))) (fun _ hk => hk.2) (.int .i64 ((rd_T29 t293 x44_2).f1))) (fun _ hk => trivial)⟩, ⟨by (with_reducible repeat (first | apply Kd.R_alloc | apply Kd.R_drewN | apply Kd.R_drew)); exact Kd.R_mono (Kd.R_far (p := ⟨gb297, 1, none⟩) (Kd.R_far (p := ⟨gb297, 0, none⟩) (Kd.R_mono HO_42.out (fun k_ hk => (⟨hk, hk.2⟩ : _ ∧ k_ ≠ gb297))) (fun _ hk => hk.2) (.int .u16 ((rd_T29 t293 x44_2).f0))) (fun _ hk => hk.2) (.int .i64 ((rd_T29 t293 x44_2).f1))) (fun _ hk => trivial)⟩, ⟨by (with_reducible repeat (first | refine blk_drewN ?_ _ | refine blk_drew ?_ | refine blk_alloc ?_ _)); refine blk_far ?_ NB284_297.out _; (with_reducible repeat (first | refine blk_drewN ?_ _ | refine blk_drew ?_ | refine blk_alloc ?_ _)); refine blk_far ?_ NB284_297.out _; (with_reducible repeat (first | refine blk_drewN ?_ _ | refine blk_drew ?_ | refine blk_alloc ?_ _)); exact BK284.out⟩, ⟨by repeat (first | (with_reducible first | exact HB.out | apply below_alloc | apply pw_below_drewN | apply below_drew1 | refine below_set ?_ GE284.out | refine below_set ?_ GE297.out) | exact HB.out)⟩⟩
                  · rw [if_neg c25] at H
                    exact absurd H (by simp)
                · rw [if_neg c23] at H
                  exact absurd H (by simp)
              · rw [if_neg c22] at H
                exact absurd H (by simp)
            · rw [if_neg c21] at H
              have c21b0 : decide (x44_2 < (t293.length : Int)) = false := decide_eq_false c21
              clear c21
              replace H := Option.bind_eq_some_iff.mp H
              obtain ⟨t298, A400, H⟩ := H
              replace H : (if t298 = true then (if (t293.length : Int) ≤ 32 then ((cidr_In.f a1_0 a1_1 a0).bind fun t299 => (if ((x8_2 == 1) == t299) = true then (some (decide (x8_2 ≤ 1))) else (some false))) else (some false)) else (some false)) = some r := H
              have A40 := Aside0.mk A400
              clear A400
              by_cases c41 : t298 = true
              · subst c41
                have H1 : (if (t293.length : Int) ≤ 32 then ((cidr_In.f a1_0 a1_1 a0).bind fun t299 => (if ((x8_2 == 1) == t299) = true then (some (decide (x8_2 ≤ 1))) else (some false))) else (some false)) = some r := by rw [if_pos rfl] at H; exact H
                clear H
                have H := H1
                clear H1
                by_cases c42 : (t293.length : Int) ≤ 32
                · rw [if_pos c42] at H
                  have c42b0 : decide ((t293.length : Int) ≤ 32) = true := decide_eq_true c42
                  have c42b1 : decide (t293.length ≤ 32) = true := decide_eq_true (by omega)
                  clear c42
                  replace H := Option.bind_eq_some_iff.mp H
                  obtain ⟨t299, A430, H⟩ := H
                  replace H : (if ((x8_2 == 1) == t299) = true then (some (decide (x8_2 ≤ 1))) else (some false)) = some r := H
                  have A43 := Aside0.mk A430
                  clear A430
                  by_cases c44 : ((x8_2 == 1) == t299) = true
                  · rw [if_pos c44] at H
                    have c44b0 : ((x8_2 == 1) == t299) = true := c44
                    (try (have c44b1 : decide ((x8_2 == 1) = t299) = true := by simpa using c44))
                    (try (have c44b2 : ((x8_2 == 1) == t299) = true := by simpa using c44))
                    clear c44
                    obtain rfl := Option.some.inj H
                    go_wp2_with (first | (go_at_call 13; (with_reducible refine (crossbucklaw03_awake.calls k2  true _ A40.out).mono ?_); rintro e w45 ⟨rfl, hb⟩; have n0_ := Aside0.mk (Kd.R_below (by (with_reducible repeat (first | apply Kd.R_alloc | apply Kd.R_drewN | apply Kd.R_drew)); exact HO_7.out) hb); have n1_ := Aside0.mk (Kd.R_below (by (with_reducible repeat (first | apply Kd.R_alloc | apply Kd.R_drewN | apply Kd.R_drew)); exact HO_42.out) hb); have n2_ := Aside0.mk (blk_below (g := gb284) (o := .cells #[.int .u16 a1_0, .int .u16 a1_1] 24 (0, 0)) (by (with_reducible repeat (first | refine blk_drewN ?_ _ | refine blk_drew ?_ | refine blk_alloc ?_ _)); exact BK284.out) hb); have n3_ := Aside0.mk (below_step (by repeat (first | (with_reducible first | exact HB.out | apply below_alloc | apply pw_below_drewN | apply below_drew1 | refine below_set ?_ GE284.out) | exact HB.out)) hb); clear HO_7; clear HO_42; clear BK284; clear HB; have HO_7 := n0_; have HO_42 := n1_; have BK284 := n2_; have HB := n3_; clear n0_ n1_ n2_ n3_; (try clear hb); (try clear hb2); (try clear hk); (try clear hi); have hcz46_0 : w45.cell? ⟨gb284, 0, none⟩ = some (.int .u16 a1_0) := (blk_cell BK284.out 0).trans rfl; have hcz46_1 : w45.cell? ⟨gb284, 1, none⟩ = some (.int .u16 a1_1) := (blk_cell BK284.out 1).trans rfl; have hfz46_0 := blk_frozen BK284.out 0; have hfz46_1 := blk_frozen BK284.out 1) | (go_at_call 12; (with_reducible refine (cidr_In.calls a1_0 a1_1 a0 t299 _ A43.out).mono ?_); rintro e w47 ⟨rfl, hb⟩; have n0_ := Aside0.mk (Kd.R_below (by (with_reducible repeat (first | apply Kd.R_alloc | apply Kd.R_drewN | apply Kd.R_drew)); exact HO_7.out) hb); have n1_ := Aside0.mk (Kd.R_below (by (with_reducible repeat (first | apply Kd.R_alloc | apply Kd.R_drewN | apply Kd.R_drew)); exact HO_42.out) hb); have n2_ := Aside0.mk (blk_below (g := gb284) (o := .cells #[.int .u16 a1_0, .int .u16 a1_1] 24 (0, 0)) (by (with_reducible repeat (first | refine blk_drewN ?_ _ | refine blk_drew ?_ | refine blk_alloc ?_ _)); exact BK284.out) hb); have n3_ := Aside0.mk (below_step (by repeat (first | (with_reducible first | exact HB.out | apply below_alloc | apply pw_below_drewN | apply below_drew1 | refine below_set ?_ GE284.out) | exact HB.out)) hb); clear HO_7; clear HO_42; clear BK284; clear HB; have HO_7 := n0_; have HO_42 := n1_; have BK284 := n2_; have HB := n3_; clear n0_ n1_ n2_ n3_; (try clear hb); (try clear hb2); (try clear hk); (try clear hi)))
                    repeat (go_quiet (first | (go_at_call 13; (with_reducible refine (crossbucklaw03_awake.calls k2  true _ A40.out).mono ?_); rintro e w45 ⟨rfl, hb⟩; have n0_ := Aside0.mk (Kd.R_below (by (with_reducible repeat (first | apply Kd.R_alloc | apply Kd.R_drewN | apply Kd.R_drew)); exact HO_7.out) hb); have n1_ := Aside0.mk (Kd.R_below (by (with_reducible repeat (first | apply Kd.R_alloc | apply Kd.R_drewN | apply Kd.R_drew)); exact HO_42.out) hb); have n2_ := Aside0.mk (blk_below (g := gb284) (o := .cells #[.int .u16 a1_0, .int .u16 a1_1] 24 (0, 0)) (by (with_reducible repeat (first | refine blk_drewN ?_ _ | refine blk_drew ?_ | refine blk_alloc ?_ _)); exact BK284.out) hb); have n3_ := Aside0.mk (below_step (by repeat (first | (with_reducible first | exact HB.out | apply below_alloc | apply pw_below_drewN | apply below_drew1 | refine below_set ?_ GE284.out) | exact HB.out)) hb); clear HO_7; clear HO_42; clear BK284; clear HB; have HO_7 := n0_; have HO_42 := n1_; have BK284 := n2_; have HB := n3_; clear n0_ n1_ n2_ n3_; (try clear hb); (try clear hb2); (try clear hk); (try clear hi); have hcz46_0 : w45.cell? ⟨gb284, 0, none⟩ = some (.int .u16 a1_0) := (blk_cell BK284.out 0).trans rfl; have hcz46_1 : w45.cell? ⟨gb284, 1, none⟩ = some (.int .u16 a1_1) := (blk_cell BK284.out 1).trans rfl; have hfz46_0 := blk_frozen BK284.out 0; have hfz46_1 := blk_frozen BK284.out 1) | (go_at_call 12; (with_reducible refine (cidr_In.calls a1_0 a1_1 a0 t299 _ A43.out).mono ?_); rintro e w47 ⟨rfl, hb⟩; have n0_ := Aside0.mk (Kd.R_below (by (with_reducible repeat (first | apply Kd.R_alloc | apply Kd.R_drewN | apply Kd.R_drew)); exact HO_7.out) hb); have n1_ := Aside0.mk (Kd.R_below (by (with_reducible repeat (first | apply Kd.R_alloc | apply Kd.R_drewN | apply Kd.R_drew)); exact HO_42.out) hb); have n2_ := Aside0.mk (blk_below (g := gb284) (o := .cells #[.int .u16 a1_0, .int .u16 a1_1] 24 (0, 0)) (by (with_reducible repeat (first | refine blk_drewN ?_ _ | refine blk_drew ?_ | refine blk_alloc ?_ _)); exact BK284.out) hb); have n3_ := Aside0.mk (below_step (by repeat (first | (with_reducible first | exact HB.out | apply below_alloc | apply pw_below_drewN | apply below_drew1 | refine below_set ?_ GE284.out) | exact HB.out)) hb); clear HO_7; clear HO_42; clear BK284; clear HB; have HO_7 := n0_; have HO_42 := n1_; have BK284 := n2_; have HB := n3_; clear n0_ n1_ n2_ n3_; (try clear hb); (try clear hb2); (try clear hk); (try clear hi))); try go_wp2_with (first | (go_at_call 13; (with_reducible refine (crossbucklaw03_awake.calls k2  true _ A40.out).mono ?_); rintro e w45 ⟨rfl, hb⟩; have n0_ := Aside0.mk (Kd.R_below (by (with_reducible repeat (first | apply Kd.R_alloc | apply Kd.R_drewN | apply Kd.R_drew)); exact HO_7.out) hb); have n1_ := Aside0.mk (Kd.R_below (by (with_reducible repeat (first | apply Kd.R_alloc | apply Kd.R_drewN | apply Kd.R_drew)); exact HO_42.out) hb); have n2_ := Aside0.mk (blk_below (g := gb284) (o := .cells #[.int .u16 a1_0, .int .u16 a1_1] 24 (0, 0)) (by (with_reducible repeat (first | refine blk_drewN ?_ _ | refine blk_drew ?_ | refine blk_alloc ?_ _)); exact BK284.out) hb); have n3_ := Aside0.mk (below_step (by repeat (first | (with_reducible first | exact HB.out | apply below_alloc | apply pw_below_drewN | apply below_drew1 | refine below_set ?_ GE284.out) | exact HB.out)) hb); clear HO_7; clear HO_42; clear BK284; clear HB; have HO_7 := n0_; have HO_42 := n1_; have BK284 := n2_; have HB := n3_; clear n0_ n1_ n2_ n3_; (try clear hb); (try clear hb2); (try clear hk); (try clear hi); have hcz46_0 : w45.cell? ⟨gb284, 0, none⟩ = some (.int .u16 a1_0) := (blk_cell BK284.out 0).trans rfl; have hcz46_1 : w45.cell? ⟨gb284, 1, none⟩ = some (.int .u16 a1_1) := (blk_cell BK284.out 1).trans rfl; have hfz46_0 := blk_frozen BK284.out 0; have hfz46_1 := blk_frozen BK284.out 1) | (go_at_call 12; (with_reducible refine (cidr_In.calls a1_0 a1_1 a0 t299 _ A43.out).mono ?_); rintro e w47 ⟨rfl, hb⟩; have n0_ := Aside0.mk (Kd.R_below (by (with_reducible repeat (first | apply Kd.R_alloc | apply Kd.R_drewN | apply Kd.R_drew)); exact HO_7.out) hb); have n1_ := Aside0.mk (Kd.R_below (by (with_reducible repeat (first | apply Kd.R_alloc | apply Kd.R_drewN | apply Kd.R_drew)); exact HO_42.out) hb); have n2_ := Aside0.mk (blk_below (g := gb284) (o := .cells #[.int .u16 a1_0, .int .u16 a1_1] 24 (0, 0)) (by (with_reducible repeat (first | refine blk_drewN ?_ _ | refine blk_drew ?_ | refine blk_alloc ?_ _)); exact BK284.out) hb); have n3_ := Aside0.mk (below_step (by repeat (first | (with_reducible first | exact HB.out | apply below_alloc | apply pw_below_drewN | apply below_drew1 | refine below_set ?_ GE284.out) | exact HB.out)) hb); clear HO_7; clear HO_42; clear BK284; clear HB; have HO_7 := n0_; have HO_42 := n1_; have BK284 := n2_; have HB := n3_; clear n0_ n1_ n2_ n3_; (try clear hb); (try clear hb2); (try clear hk); (try clear hi))))
                    go_ret
                    exact ⟨by first | rfl | (simp [errW_none, errW_some] <;> rfl) | (simp [*, errW_none, errW_some] <;> rfl), by repeat (first | (with_reducible first | exact HB.out | apply below_alloc | apply pw_below_drewN | apply below_drew1 | refine below_set ?_ GE284.out) | exact HB.out)⟩
                  · rw [if_neg c44] at H
                    have c44b0 : ((x8_2 == 1) == t299) = false := by simpa using c44
                    (try (have c44b1 : decide ((x8_2 == 1) = t299) = false := by simpa using c44))
                    (try (have c44b2 : ((x8_2 == 1) == t299) = false := by simpa using c44))
                    (try (have c44b3 : ¬ ((x8_2 == 1) = t299) := by simpa using c44))
                    clear c44
                    exact absurd ((Option.some.inj H).trans hT.out) (by decide)
                · rw [if_neg c42] at H
                  have c42b0 : decide ((t293.length : Int) ≤ 32) = false := decide_eq_false c42
                  have c42b1 : decide (t293.length ≤ 32) = false := decide_eq_false (by omega)
                  clear c42
                  exact absurd ((Option.some.inj H).trans hT.out) (by decide)
              · replace c41 := Bool.eq_false_iff.mpr c41
                subst c41
                have H1 : (some false) = some r := by rw [if_neg (show ¬ (false = true) by decide)] at H; exact H
                clear H
                have H := H1
                clear H1
                exact absurd ((Option.some.inj H).trans hT.out) (by decide)

end Go.Proofs.Ytbnjbjjbfbbdcaa.PAll
