-- Written by wip/myprint.py (this session's own driver); Lean checks it.
import Derived.Test.YtbnjbjjbfbbdcaaPAllx0
import Derived.Test.YtbnjbjjbfbbdcaaPAllx4
import Derived.Test.YtbnjbjjbfbbdcaaPAllx16
import Derived.Test.YtbnjbjjbfbbdcaaPAllx27
import Derived.Test.YtbnjbjjbfbbdcaaPAllx28
import Derived.Test.YtbnjbjjbfbbdcaaPAllx30
import Derived.Test.YtbnjbjjbfbbdcaaPAllx31
namespace Go.Proofs.Ytbnjbjjbfbbdcaa.PAll
open Go.RowKit Go.Proofs.YtbnjbjjbfbbdcaaW.PrintWords Go.Proofs.YtbnjbjjbfbbdcaaW.PrintLast Go.Proofs.YtbnjbjjbfbbdcaaW.PrintMore
attribute [local go_sem] max2_int min2_int max_two min_two max_three min_three max_four min_four   -- for this text's walks alone
set_option linter.unusedVariables false
set_option linter.unusedSimpArgs false

/-! ### crossbucklaw16_RegionTouches: function 9 -/
mutual
def crossbucklaw16_RegionTouches.l0 : Nat → Int → List (S37) → List Bool → List (S37) → Int → Int → Option (Bool)
  | 0, _, _, _, _, _, _ => none
  | k + 1, x0, x1, x5, x21, x22, x23 => if x23 < x22 then (if 0 ≤ x23 then (if x23 < (x21.length : Int) then ((region_Touched.f k x0 ((rd_T37 x21 x23).f0) ((rd_T37 x21 x23).f1)).bind fun t255 => ((crossbuckref16_Touched.f k x0 ((rd_T37 x21 x23).f0) ((rd_T37 x21 x23).f1)).bind fun t258 => ((crossbucklaw16_same.f k t255 t258).bind fun t261 => (if t261 = true then (crossbucklaw16_RegionTouches.l1 k x0 x1 x5 x21 x22 x23 t255 (t255.length : Int) 0) else (some false))))) else (none)) else (none)) else (crossbucklaw16_RegionTouches.l2 k x0 x1 ([] : List Int) x5 (x5.length : Int) 0)
def crossbucklaw16_RegionTouches.l1 : Nat → Int → List (S37) → List Bool → List (S37) → Int → Int → List Int → Int → Int → Option (Bool)
  | 0, _, _, _, _, _, _, _, _, _ => none
  | k + 1, x0, x1, x5, x21, x22, x23, x36, x37, x38 => if x38 < x37 then (if 0 ≤ x38 then (if x38 < (x36.length : Int) then (if 0 ≤ (rd x36 x38) then (if (rd x36 x38) < (x5.length : Int) then (crossbucklaw16_RegionTouches.l1 k x0 x1 (x5.set ((rd x36 x38) : Int).toNat true) x21 x22 x23 x36 x37 (wrap64 (x38 + 1))) else (none)) else (none)) else (none)) else (none)) else (crossbucklaw16_RegionTouches.l0 k x0 x1 x5 x21 x22 (wrap64 (x23 + 1)))
def crossbucklaw16_RegionTouches.l2 : Nat → Int → List (S37) → List Int → List Bool → Int → Int → Option (Bool)
  | 0, _, _, _, _, _, _ => none
  | k + 1, x0, x1, x11, x47, x48, x49 => if x49 < x48 then (if 0 ≤ x49 then (if x49 < (x47.length : Int) then (if rdOf false x47 x49 = true then (if x11.length < 17592186044416 then (crossbucklaw16_RegionTouches.l2 k x0 x1 (x11 ++ [x49]) x47 x48 (wrap64 (x49 + 1))) else (none)) else (crossbucklaw16_RegionTouches.l2 k x0 x1 x11 x47 x48 (wrap64 (x49 + 1)))) else (none)) else (none)) else ((crossbucklaw16_awake.f).bind fun t268 => (if t268 = true then ((region_All.f k x0 x1).bind fun t269 => ((crossbucklaw16_same.f k t269 x11).bind fun t272 => (some t272))) else (some false)))
end
def crossbucklaw16_RegionTouches.f (k : Nat) (a0 : Int) (l1 : List (S37)) : Option (Bool) := if (l1.length : Int) > 20 then ((crossbucklaw16_awake.f).bind fun t248 => (some t248)) else ((crossbuckref16_Count.f a0).bind fun t249 => (if 0 ≤ t249 then (if (t249 : Int).toNat ≤ 281474976710656 then (crossbucklaw16_RegionTouches.l0 k a0 l1 (List.replicate (t249 : Int).toNat false) l1 (l1.length : Int) 0) else (none)) else (none)))
theorem crossbucklaw16_RegionTouches.mono_l : ∀ k, (∀ y0 y1 y2 y3 y4 y5, LeO (crossbucklaw16_RegionTouches.l0 k y0 y1 y2 y3 y4 y5) (crossbucklaw16_RegionTouches.l0 (k + 1) y0 y1 y2 y3 y4 y5)) ∧ (∀ y0 y1 y2 y3 y4 y5 y6 y7 y8, LeO (crossbucklaw16_RegionTouches.l1 k y0 y1 y2 y3 y4 y5 y6 y7 y8) (crossbucklaw16_RegionTouches.l1 (k + 1) y0 y1 y2 y3 y4 y5 y6 y7 y8)) ∧ (∀ y0 y1 y2 y3 y4 y5, LeO (crossbucklaw16_RegionTouches.l2 k y0 y1 y2 y3 y4 y5) (crossbucklaw16_RegionTouches.l2 (k + 1) y0 y1 y2 y3 y4 y5))
  | 0 => ⟨fun _ _ _ _ _ _ r h => by simp [crossbucklaw16_RegionTouches.l0] at h, fun _ _ _ _ _ _ _ _ _ r h => by simp [crossbucklaw16_RegionTouches.l1] at h, fun _ _ _ _ _ _ r h => by simp [crossbucklaw16_RegionTouches.l2] at h⟩
  | k + 1 => by
    obtain ⟨ih0, ih1, ih2⟩ := crossbucklaw16_RegionTouches.mono_l k
    refine ⟨?_, ?_, ?_⟩
    · intro y0 y1 y2 y3 y4 y5
      unfold crossbucklaw16_RegionTouches.l0
      repeat' first
      | (with_reducible exact ih0 _ _ _ _ _ _)
      | (with_reducible exact ih1 _ _ _ _ _ _ _ _ _)
      | (with_reducible exact ih2 _ _ _ _ _ _)
      | (with_reducible exact crossbucklaw16_same.mono _ _ _)
      | (with_reducible exact crossbuckref16_Touched.mono _ _ _ _)
      | (with_reducible exact region_All.mono _ _ _)
      | (with_reducible exact region_Touched.mono _ _ _ _)
      | (with_reducible exact LeO.refl _)
      | (with_reducible exact LeO.none _)
      | (with_reducible refine LeO.ite ?_ ?_)
      | (with_reducible refine LeO.bind ?_ (fun _ => ?_))
      | exact ih0 _ _ _ _ _ _
      | exact ih1 _ _ _ _ _ _ _ _ _
      | exact ih2 _ _ _ _ _ _
      | exact crossbucklaw16_same.mono _ _ _
      | exact crossbuckref16_Touched.mono _ _ _ _
      | exact region_All.mono _ _ _
      | exact region_Touched.mono _ _ _ _
      | exact LeO.none _
      | refine LeO.ite ?_ ?_
      | refine LeO.bind ?_ (fun _ => ?_)
    · intro y0 y1 y2 y3 y4 y5 y6 y7 y8
      unfold crossbucklaw16_RegionTouches.l1
      repeat' first
      | (with_reducible exact ih0 _ _ _ _ _ _)
      | (with_reducible exact ih1 _ _ _ _ _ _ _ _ _)
      | (with_reducible exact ih2 _ _ _ _ _ _)
      | (with_reducible exact crossbucklaw16_same.mono _ _ _)
      | (with_reducible exact crossbuckref16_Touched.mono _ _ _ _)
      | (with_reducible exact region_All.mono _ _ _)
      | (with_reducible exact region_Touched.mono _ _ _ _)
      | (with_reducible exact LeO.refl _)
      | (with_reducible exact LeO.none _)
      | (with_reducible refine LeO.ite ?_ ?_)
      | (with_reducible refine LeO.bind ?_ (fun _ => ?_))
      | exact ih0 _ _ _ _ _ _
      | exact ih1 _ _ _ _ _ _ _ _ _
      | exact ih2 _ _ _ _ _ _
      | exact crossbucklaw16_same.mono _ _ _
      | exact crossbuckref16_Touched.mono _ _ _ _
      | exact region_All.mono _ _ _
      | exact region_Touched.mono _ _ _ _
      | exact LeO.none _
      | refine LeO.ite ?_ ?_
      | refine LeO.bind ?_ (fun _ => ?_)
    · intro y0 y1 y2 y3 y4 y5
      unfold crossbucklaw16_RegionTouches.l2
      repeat' first
      | (with_reducible exact ih0 _ _ _ _ _ _)
      | (with_reducible exact ih1 _ _ _ _ _ _ _ _ _)
      | (with_reducible exact ih2 _ _ _ _ _ _)
      | (with_reducible exact crossbucklaw16_same.mono _ _ _)
      | (with_reducible exact crossbuckref16_Touched.mono _ _ _ _)
      | (with_reducible exact region_All.mono _ _ _)
      | (with_reducible exact region_Touched.mono _ _ _ _)
      | (with_reducible exact LeO.refl _)
      | (with_reducible exact LeO.none _)
      | (with_reducible refine LeO.ite ?_ ?_)
      | (with_reducible refine LeO.bind ?_ (fun _ => ?_))
      | exact ih0 _ _ _ _ _ _
      | exact ih1 _ _ _ _ _ _ _ _ _
      | exact ih2 _ _ _ _ _ _
      | exact crossbucklaw16_same.mono _ _ _
      | exact crossbuckref16_Touched.mono _ _ _ _
      | exact region_All.mono _ _ _
      | exact region_Touched.mono _ _ _ _
      | exact LeO.none _
      | refine LeO.ite ?_ ?_
      | refine LeO.bind ?_ (fun _ => ?_)
theorem crossbucklaw16_RegionTouches.mono : ∀ a0 a1 k, LeO (crossbucklaw16_RegionTouches.f k a0 a1) (crossbucklaw16_RegionTouches.f (k + 1) a0 a1) := by
  intro a0 a1 k
  obtain ⟨ih0, ih1, ih2⟩ := crossbucklaw16_RegionTouches.mono_l k
  unfold crossbucklaw16_RegionTouches.f
  repeat' first
      | (with_reducible exact ih0 _ _ _ _ _ _)
      | (with_reducible exact ih1 _ _ _ _ _ _ _ _ _)
      | (with_reducible exact ih2 _ _ _ _ _ _)
      | (with_reducible exact crossbucklaw16_same.mono _ _ _)
      | (with_reducible exact crossbuckref16_Touched.mono _ _ _ _)
      | (with_reducible exact region_All.mono _ _ _)
      | (with_reducible exact region_Touched.mono _ _ _ _)
      | (with_reducible exact LeO.refl _)
      | (with_reducible exact LeO.none _)
      | (with_reducible refine LeO.ite ?_ ?_)
      | (with_reducible refine LeO.bind ?_ (fun _ => ?_))
      | exact ih0 _ _ _ _ _ _
      | exact ih1 _ _ _ _ _ _ _ _ _
      | exact ih2 _ _ _ _ _ _
      | exact crossbucklaw16_same.mono _ _ _
      | exact crossbuckref16_Touched.mono _ _ _ _
      | exact region_All.mono _ _ _
      | exact region_Touched.mono _ _ _ _
      | exact LeO.none _
      | refine LeO.ite ?_ ?_
      | refine LeO.bind ?_ (fun _ => ?_)
set_option maxHeartbeats 8000000 in
set_option maxRecDepth 100000 in
theorem crossbucklaw16_RegionTouches.calls (k : Nat) (a0 : Int) (A1 : Option Addr) (c1 : Nat) (l1 : List (S37)) (r : Bool) (w : World) (hr1 : Kd.C k37 w A1 l1.length l1) (hc1 : l1.length ≤ c1) (h : crossbucklaw16_RegionTouches.f k a0 l1 = some r) (hT : Aside0 (r = true)) :
    Calls Try.prog 9 #[.int .i64 a0, .slice A1 l1.length c1] w fun e w' => e = .returned (.bool r) ∧ Below w.heap.size w w' := by
  have hu37 := Try.underlying37
  have HR1 := Aside0.mk hr1
  have HC1 := Aside0.mk hc1
  clear hr1 hc1
  have HB := Aside0.mk (Below.refl w.heap.size w)
  have H : (if (l1.length : Int) > 20 then ((crossbucklaw16_awake.f).bind fun t248 => (some t248)) else ((crossbuckref16_Count.f a0).bind fun t249 => (if 0 ≤ t249 then (if (t249 : Int).toNat ≤ 281474976710656 then (crossbucklaw16_RegionTouches.l0 k a0 l1 (List.replicate (t249 : Int).toNat false) l1 (l1.length : Int) 0) else (none)) else (none)))) = some r := h
  clear h
  by_cases c3 : (l1.length : Int) > 20
  · rw [if_pos c3] at H
    have c3b0 : decide (20 < (l1.length : Int)) = true := decide_eq_true c3
    have c3b1 : decide (20 < l1.length) = true := decide_eq_true (by omega)
    clear c3
    replace H := Option.bind_eq_some_iff.mp H
    obtain ⟨t248, A40, H⟩ := H
    replace H : (some t248) = some r := H
    have A4 := Aside0.mk A40
    clear A40
    obtain rfl := Option.some.inj H
    go_enter Try.func9, Try.ntmps9
    go_wp2_with (first | ((with_reducible refine gate_callee (f := 22) rfl ?_); refine goesL_ (some 17) rfl rfl Try.func22 (by kernel_rfl) rfl #[] rfl (by (try simp only [List.map_toArray, List.map_cons, List.map_nil]); first | done | rfl | (simp only [List.length_drop, List.length_take]; rfl)) ?_; (with_reducible refine (crossbucklaw16_awake.calls  t248 _ A4.out).mono ?_); rintro e w5 ⟨rfl, hb⟩; refine ⟨_, rfl, ?_⟩; have n0_ := Aside0.mk (below_step (by repeat (first | (with_reducible first | exact HB.out | apply below_alloc | apply pw_below_drewN | apply below_drew1) | exact HB.out)) hb); clear HB; have HB := n0_; clear n0_; (try clear hb); (try clear hb2); (try clear hk); (try clear hi)))
    go_ret
    exact ⟨by first | rfl | (simp [errW_none, errW_some] <;> rfl) | (simp [*, errW_none, errW_some] <;> rfl), by repeat (first | (with_reducible first | exact HB.out | apply below_alloc | apply pw_below_drewN | apply below_drew1) | exact HB.out)⟩
  · rw [if_neg c3] at H
    have c3b0 : decide (20 < (l1.length : Int)) = false := decide_eq_false c3
    have c3b1 : decide (20 < l1.length) = false := decide_eq_false (by omega)
    clear c3
    replace H := Option.bind_eq_some_iff.mp H
    obtain ⟨t249, A60, H⟩ := H
    replace H : (if 0 ≤ t249 then (if (t249 : Int).toNat ≤ 281474976710656 then (crossbucklaw16_RegionTouches.l0 k a0 l1 (List.replicate (t249 : Int).toNat false) l1 (l1.length : Int) 0) else (none)) else (none)) = some r := H
    have A6 := Aside0.mk A60
    clear A60
    by_cases c7 : 0 ≤ t249
    · rw [if_pos c7] at H
      have c7b0 := eq_true c7
      have c7b1 : decide (0 ≤ t249) = true := decide_eq_true c7
      clear c7
      by_cases c8 : (t249 : Int).toNat ≤ 281474976710656
      · rw [if_pos c8] at H
        have c8b0 := eq_true c8
        have c8b1 : decide ((t249 : Int).toNat ≤ 281474976710656) = true := decide_eq_true c8
        clear c8
        obtain ⟨y250, hy250⟩ : ∃ y_ : List Bool, y_ = (List.replicate (t249 : Int).toNat false) := ⟨_, rfl⟩
        replace H : (crossbucklaw16_RegionTouches.l0 k a0 l1 y250 l1 (l1.length : Int) 0) = some r := by first | (rw [hy250]; with_reducible exact H) | (have H2_ := (Option.bind_some _ _).symm.trans H; rw [hy250]; with_reducible exact H2_) | (have H2_ := (Option.bind_some _ _).symm.trans H; with_reducible exact H2_) | with_reducible exact H | (rw [hy250]; exact H) | exact H
        have Ny250 := Aside0.mk hy250
        clear hy250
        have H' := Aside0.mk H
        clear H
        go_enter Try.func9, Try.ntmps9
        go_wp2_with (first | ((with_reducible refine gate_callee (f := 14) rfl ?_); refine goesL_ (some 19) rfl rfl Try.func14 (by kernel_rfl) rfl #[.int .i64 a0] rfl (by (try simp only [List.map_toArray, List.map_cons, List.map_nil]); first | done | rfl | (simp only [List.length_drop, List.length_take]; rfl)) ?_; (with_reducible refine (crossbuckref16_Count.calls a0 t249 _ A6.out).mono ?_); rintro e w' ⟨rfl, ⟨nd, rfl⟩⟩; refine ⟨_, rfl, ?_⟩) | ((with_reducible refine gate_dst (N := 20) rfl ?_); refine Kd.R_make Kd.bool _ 4 rfl (N := 20) rfl 58 _ _ rfl t249 rfl rfl Try.underlying58 (.bool false) 1 info4 rfl (by decide) (by omega) false (ok := fun _ => True) (okp := fun _ => True) rfl (fun _ hk => hk) trivial (of_decide_eq_true (by first | (with_reducible assumption) | assumption)) (Nat.le_trans (Nat.mul_le_mul_right _ (of_decide_eq_true (by first | (with_reducible assumption) | assumption) : t249.toNat ≤ 281474976710656)) (by omega)) (Below.refl _ _) (Nat.le_refl _) ?_; intro v251 w9 ho10 hb hg_ hnew_; clear hg_ hnew_; (first | rw [← Ny250.out] at ho10 | (simp only [Int.reduceToNat] at ho10; rw [← Ny250.out] at ho10)); have n0_ := Aside0.mk (Kd.R_lower ho10 (below_size (by repeat (first | (with_reducible first | exact HB.out | apply below_alloc | apply pw_below_drewN | apply below_drew1) | exact HB.out)))); have n1_ := Aside0.mk (below_step (by repeat (first | (with_reducible first | exact HB.out | apply below_alloc | apply pw_below_drewN | apply below_drew1) | exact HB.out)) hb); clear HB; have HO252 := n0_; have HB := n1_; clear n0_ n1_; clear hb ho10))
        go_loopg [23] k (fun kq v23 w' => ∃ (x5_1 : List Bool) (x23_1 : Int), v23 = .int .i64 x23_1 ∧ Aside0 (crossbucklaw16_RegionTouches.l0 kq a0 l1 x5_1 l1 (l1.length : Int) x23_1 = some r) ∧ Aside0 (kq ≤ k) ∧ Aside0 (Kd.R Kd.bool 4 w' w.heap.size (fun _ => True) v251 x5_1) ∧ Aside0 (Below w.heap.size w w'))
        case atStart => exact ⟨(y250), (0), (by first | rfl | (simp; done) | (simp [*]; done)), H', ⟨Nat.le_refl _⟩, ⟨by (with_reducible repeat (first | apply Kd.R_alloc | apply Kd.R_drewN | apply Kd.R_drew)); exact HO252.out⟩, ⟨by repeat (first | (with_reducible first | exact HB.out | apply below_alloc | apply pw_below_drewN | apply below_drew1) | exact HB.out)⟩⟩
        case round =>
          clear H'
          try clear c1
          try clear c2
          try clear p2
          try clear c3
          try clear c3b0
          try clear c3b1
          try clear c7
          try clear c7b0
          try clear c7b1
          try clear c8
          try clear c8b0
          try clear c8b1
          try clear c9
          obtain ⟨x5_1, x23_1, rfl, HA, HK1, HO_5, HB⟩ := hrel
          cases gk with
          | zero => exact absurd HA.out (by simp [crossbucklaw16_RegionTouches.l0])
          | succ k1 =>
            have H := HA.out
            clear HA
            simp only [crossbucklaw16_RegionTouches.l0] at H
            by_cases c11 : x23_1 < (l1.length : Int)
            · rw [if_pos c11] at H
              have c11b0 : decide (x23_1 < (l1.length : Int)) = true := decide_eq_true c11
              clear c11
              by_cases c12 : 0 ≤ x23_1
              · rw [if_pos c12] at H
                have c12b0 : decide (0 ≤ x23_1) = true := decide_eq_true c12
                clear c12
                by_cases c13 : x23_1 < (l1.length : Int)
                · rw [if_pos c13] at H
                  have c13b0 : decide (x23_1 < (l1.length : Int)) = true := decide_eq_true c13
                  clear c13
                  replace H := Option.bind_eq_some_iff.mp H
                  obtain ⟨t255, A140, H⟩ := H
                  replace H : ((crossbuckref16_Touched.f k1 a0 ((rd_T37 l1 x23_1).f0) ((rd_T37 l1 x23_1).f1)).bind fun t258 => ((crossbucklaw16_same.f k1 t255 t258).bind fun t261 => (if t261 = true then (crossbucklaw16_RegionTouches.l1 k1 a0 l1 x5_1 l1 (l1.length : Int) x23_1 t255 (t255.length : Int) 0) else (some false)))) = some r := H
                  have A14 := Aside0.mk A140
                  clear A140
                  replace H := Option.bind_eq_some_iff.mp H
                  obtain ⟨t258, A150, H⟩ := H
                  replace H : ((crossbucklaw16_same.f k1 t255 t258).bind fun t261 => (if t261 = true then (crossbucklaw16_RegionTouches.l1 k1 a0 l1 x5_1 l1 (l1.length : Int) x23_1 t255 (t255.length : Int) 0) else (some false))) = some r := H
                  have A15 := Aside0.mk A150
                  clear A150
                  replace H := Option.bind_eq_some_iff.mp H
                  obtain ⟨t261, A160, H⟩ := H
                  replace H : (if t261 = true then (crossbucklaw16_RegionTouches.l1 k1 a0 l1 x5_1 l1 (l1.length : Int) x23_1 t255 (t255.length : Int) 0) else (some false)) = some r := H
                  have A16 := Aside0.mk A160
                  clear A160
                  by_cases c17 : t261 = true
                  · subst c17
                    have H1 : (crossbucklaw16_RegionTouches.l1 k1 a0 l1 x5_1 l1 (l1.length : Int) x23_1 t255 (t255.length : Int) 0) = some r := by rw [if_pos rfl] at H; exact H
                    clear H
                    have H := H1
                    clear H1
                    have H' := Aside0.mk H
                    clear H
                    have p253 : 0 ≤ (x23_1 : Int) := of_decide_eq_true (by first | (with_reducible assumption) | assumption)
                    have q253 : x23_1 < (l1.length : Int) := of_decide_eq_true (by first | (with_reducible assumption) | assumption)
                    obtain ⟨ad253, e253, hx253_0, hx253_1⟩ := at_T37 HR1.out x23_1 p253 q253
                    cases e253
                    replace hx253_0 := (HB.out.cell (World.block_lt_of_cell? w _ hx253_0)).trans hx253_0
                    replace hx253_1 := (HB.out.cell (World.block_lt_of_cell? w _ hx253_1)).trans hx253_1
                    replace p253 := eq_true p253
                    replace q253 := eq_true q253
                    go_wp2_with (first | ((with_reducible refine gate_dst (N := 7) rfl ?_); refine box_event ?hg (N := 7) ?hd (cs := #[.int .u32 0, .int .i64 0]) (t := 37) ?hr ?_; (case hd => rfl); (case hg => rfl); (case hr => first | (go_simp; done) | (go_simp; rfl)); intro gb254 hg w18 hbox hb; have n0_ := Aside0.mk (Kd.R_below (by (with_reducible repeat (first | apply Kd.R_alloc | apply Kd.R_drewN | apply Kd.R_drew)); exact HO_5.out) hb); have n1_ := Aside0.mk (below_step (by repeat (first | (with_reducible first | exact HB.out | apply below_alloc | apply pw_below_drewN | apply below_drew1) | exact HB.out)) hb); have n2_ := Aside0.mk (hbox); have n3_ := Aside0.mk ((by rw [hg]; exact (below_size (by repeat (first | (with_reducible first | exact HB.out | apply below_alloc | apply pw_below_drewN | apply below_drew1) | exact HB.out))) : w.heap.size ≤ gb254)); have n4_ := Aside0.mk ((by rw [hg]; exact (below_size (by repeat (first | (with_reducible first | exact HB.out | apply below_alloc | apply pw_below_drewN | apply below_drew1) | exact HB.out))) : w.heap.size ≤ gb254)); clear HO_5; clear HB; have HO_5 := n0_; have HB := n1_; have BK254 := n2_; have GW254 := n3_; have GE254 := n4_; clear n0_ n1_ n2_ n3_ n4_; clear hb hbox hg; have hcz19_0 : w18.cell? ⟨gb254, 0, none⟩ = some (.int .u32 0) := (blk_cell BK254.out 0).trans rfl; have hcz19_1 : w18.cell? ⟨gb254, 1, none⟩ = some (.int .i64 0) := (blk_cell BK254.out 1).trans rfl; have hfz19_0 := blk_frozen BK254.out 0; have hfz19_1 := blk_frozen BK254.out 1) | ((with_reducible refine gate_callee (f := 31) rfl ?_); refine goesL_ (some 29) rfl rfl Try.func31 (by kernel_rfl) rfl #[.int .i64 a0, .agg #[.int .u32 ((rd_T37 l1 x23_1).f0), .int .i64 ((rd_T37 l1 x23_1).f1)]] rfl (by (try simp only [List.map_toArray, List.map_cons, List.map_nil]); first | done | rfl | (simp only [List.length_drop, List.length_take]; rfl)) ?_; (with_reducible refine (region_Touched.calls k1 a0 ((rd_T37 l1 x23_1).f0) ((rd_T37 l1 x23_1).f1) t255 _ A14.out).mono ?_); rintro e w20 ⟨v256, rfl, ho0, hb⟩; refine ⟨_, rfl, ?_⟩; have n0_ := Aside0.mk (Kd.R_below (by (with_reducible repeat (first | apply Kd.R_alloc | apply Kd.R_drewN | apply Kd.R_drew)); exact (Kd.R_mono (Kd.R_far (p := ⟨gb254, 1, none⟩) (Kd.R_far (p := ⟨gb254, 0, none⟩) (Kd.R_types HO_5.out BK254.out (by decide)) (fun _ hk => hk.2) (.int .u32 ((rd_T37 l1 x23_1).f0))) (fun _ hk => hk.2) (.int .i64 ((rd_T37 l1 x23_1).f1))) (fun _ h_ => h_.1))) hb); have n1_ := Aside0.mk (Kd.R_lower ho0 (below_size (by repeat (first | (with_reducible first | exact HB.out | apply below_alloc | apply pw_below_drewN | apply below_drew1 | refine below_set ?_ GE254.out) | exact HB.out)))); have n2_ := Aside0.mk (blk_below (g := gb254) (o := .cells #[.int .u32 ((rd_T37 l1 x23_1).f0), .int .i64 ((rd_T37 l1 x23_1).f1)] 37 (0, 0)) (by (with_reducible repeat (first | refine blk_drewN ?_ _ | refine blk_drew ?_ | refine blk_alloc ?_ _)); refine blk_put (cs := #[.int .u32 ((rd_T37 l1 x23_1).f0), .int .i64 0]) ?_ 1 _ rfl; (with_reducible repeat (first | refine blk_drewN ?_ _ | refine blk_drew ?_ | refine blk_alloc ?_ _)); refine blk_put (cs := #[.int .u32 0, .int .i64 0]) ?_ 0 _ rfl; (with_reducible repeat (first | refine blk_drewN ?_ _ | refine blk_drew ?_ | refine blk_alloc ?_ _)); exact BK254.out) hb); have n3_ := Aside0.mk (below_step (by repeat (first | (with_reducible first | exact HB.out | apply below_alloc | apply pw_below_drewN | apply below_drew1 | refine below_set ?_ GE254.out) | exact HB.out)) hb); clear HO_5; clear BK254; clear HB; have HO_5 := n0_; have HO257 := n1_; have BK254 := n2_; have HB := n3_; clear n0_ n1_ n2_ n3_; (try clear hb); (try clear hb2); (try clear hk); (try clear hi); (try clear ho0); have hcz21_0 : w20.cell? ⟨gb254, 0, none⟩ = some (.int .u32 ((rd_T37 l1 x23_1).f0)) := (blk_cell BK254.out 0).trans rfl; have hcz21_1 : w20.cell? ⟨gb254, 1, none⟩ = some (.int .i64 ((rd_T37 l1 x23_1).f1)) := (blk_cell BK254.out 1).trans rfl; have hfz21_0 := blk_frozen BK254.out 0; have hfz21_1 := blk_frozen BK254.out 1) | ((with_reducible refine gate_callee (f := 33) rfl ?_); refine goesL_ (some 33) rfl rfl Try.func33 (by kernel_rfl) rfl #[.int .i64 a0, .agg #[.int .u32 ((rd_T37 l1 x23_1).f0), .int .i64 ((rd_T37 l1 x23_1).f1)]] rfl (by (try simp only [List.map_toArray, List.map_cons, List.map_nil]); first | done | rfl | (simp only [List.length_drop, List.length_take]; rfl)) ?_; (with_reducible refine (crossbuckref16_Touched.calls k1 a0 ((rd_T37 l1 x23_1).f0) ((rd_T37 l1 x23_1).f1) t258 _ A15.out).mono ?_); rintro e w22 ⟨v259, rfl, ho0, hb⟩; refine ⟨_, rfl, ?_⟩; have n0_ := Aside0.mk (Kd.R_below (by (with_reducible repeat (first | apply Kd.R_alloc | apply Kd.R_drewN | apply Kd.R_drew)); exact HO_5.out) hb); have n1_ := Aside0.mk (Kd.R_elder' (by (with_reducible repeat (first | apply Kd.R_alloc | apply Kd.R_drewN | apply Kd.R_drew)); exact HO257.out) (Kd.R_base ho0) hb); have n2_ := Aside0.mk (Kd.R_lower (Kd.R_new' ho0 (Kd.R_lt (by (with_reducible repeat (first | apply Kd.R_alloc | apply Kd.R_drewN | apply Kd.R_drew)); exact HO257.out))) (below_size (by repeat (first | (with_reducible first | exact HB.out | apply below_alloc | apply pw_below_drewN | apply below_drew1 | refine below_set ?_ GE254.out) | exact HB.out)))); have n3_ := Aside0.mk (blk_below (g := gb254) (o := .cells #[.int .u32 ((rd_T37 l1 x23_1).f0), .int .i64 ((rd_T37 l1 x23_1).f1)] 37 (0, 0)) (by (with_reducible repeat (first | refine blk_drewN ?_ _ | refine blk_drew ?_ | refine blk_alloc ?_ _)); exact BK254.out) hb); have n4_ := Aside0.mk (below_step (by repeat (first | (with_reducible first | exact HB.out | apply below_alloc | apply pw_below_drewN | apply below_drew1 | refine below_set ?_ GE254.out) | exact HB.out)) hb); clear HO_5; clear HO257; clear BK254; clear HB; have HO_5 := n0_; have HO257 := n1_; have HO260 := n2_; have BK254 := n3_; have HB := n4_; clear n0_ n1_ n2_ n3_ n4_; (try clear hb); (try clear hb2); (try clear hk); (try clear hi); (try clear ho0); obtain ⟨Ao23, co23, eo23⟩ := Kd.R_slice HO257.out; subst eo23; obtain ⟨Ao24, co24, eo24⟩ := Kd.R_slice HO260.out; subst eo24) | ((with_reducible refine gate_callee (f := 32) rfl ?_); refine goesL_ (some 34) rfl rfl Try.func32 (by kernel_rfl) rfl #[.slice Ao23 t255.length co23, .slice Ao24 t258.length co24] rfl (by (try simp only [List.map_toArray, List.map_cons, List.map_nil]); first | done | rfl | (simp only [List.length_drop, List.length_take]; rfl)) ?_; (with_reducible refine (crossbucklaw16_same.calls k1 _ _ t255 _ _ t258 true _ ?side1 ?side2 ?side3 ?side4 A16.out).mono ?_); (case side1 => repeat (first | exact (Kd.R_reads' HO257.out).2.2 | (with_reducible refine Kd.C_alloc ?_ _) | (with_reducible refine Kd.C_drewN ?_ _) | (with_reducible refine Kd.C_drew ?_))); (case side2 => exact (Kd.R_reads' HO257.out).2.1); (case side3 => repeat (first | exact (Kd.R_reads' HO260.out).2.2 | (with_reducible refine Kd.C_alloc ?_ _) | (with_reducible refine Kd.C_drewN ?_ _) | (with_reducible refine Kd.C_drew ?_))); (case side4 => exact (Kd.R_reads' HO260.out).2.1); rintro e w' ⟨rfl, ⟨nd, rfl⟩⟩; refine ⟨_, rfl, ?_⟩))
                    go_loopg [38] k1 (fun kq v38 w' => ∃ (x5_2 : List Bool) (x38_2 : Int), v38 = .int .i64 x38_2 ∧ Aside0 (crossbucklaw16_RegionTouches.l1 kq a0 l1 x5_2 l1 (l1.length : Int) x23_1 t255 (t255.length : Int) x38_2 = some r) ∧ Aside0 (kq ≤ k1) ∧ Aside0 (Kd.R Kd.bool 4 w' w.heap.size (fun _ => True) v251 x5_2) ∧ Aside0 (Kd.R (Kd.int .i64) 3 w' w.heap.size (fun _ => True) (.slice Ao23 t255.length co23) t255) ∧ Aside0 (w'.heap[gb254]? = some (.cells #[.int .u32 ((rd_T37 l1 x23_1).f0), .int .i64 ((rd_T37 l1 x23_1).f1)] 37 (0, 0))) ∧ Aside0 (Below w.heap.size w w'))
                    case atStart => exact ⟨(x5_1), (0), (by first | rfl | (simp; done) | (simp [*]; done)), H', ⟨Nat.le_refl _⟩, ⟨by (with_reducible repeat (first | apply Kd.R_alloc | apply Kd.R_drewN | apply Kd.R_drew)); exact HO_5.out⟩, ⟨by (with_reducible repeat (first | apply Kd.R_alloc | apply Kd.R_drewN | apply Kd.R_drew)); exact Kd.R_mono HO257.out (fun _ hk => trivial)⟩, ⟨by (with_reducible repeat (first | refine blk_drewN ?_ _ | refine blk_drew ?_ | refine blk_alloc ?_ _)); exact BK254.out⟩, ⟨by repeat (first | (with_reducible first | exact HB.out | apply below_alloc | apply pw_below_drewN | apply below_drew1 | refine below_set ?_ GE254.out) | exact HB.out)⟩⟩
                    case round =>
                      clear H'
                      try clear c1
                      try clear c2
                      try clear p2
                      try clear q2
                      try clear hx2
                      try clear c3
                      try clear c3b0
                      try clear c3b1
                      try clear c7
                      try clear c7b0
                      try clear c7b1
                      try clear c8
                      try clear c8b0
                      try clear c8b1
                      try clear c9
                      try clear c11
                      try clear c11b0
                      try clear c12
                      try clear c12b0
                      try clear c13
                      try clear c13b0
                      try clear c14
                      try clear c17
                      try clear c22
                      try clear hcz19_0
                      try clear hcz19_1
                      try clear hcz21_0
                      try clear hcz21_1
                      try clear hfz19_0
                      try clear hfz19_1
                      try clear hfz21_0
                      try clear hfz21_1
                      try clear hx253_0
                      try clear hx253_1
                      try clear p2
                      try clear p253
                      try clear q253
                      obtain ⟨x5_2, x38_2, rfl, HA, HK2, HO_5, HO_36, BK254, HB⟩ := hrel
                      cases gk with
                      | zero => exact absurd HA.out (by simp [crossbucklaw16_RegionTouches.l1])
                      | succ k2 =>
                        have H := HA.out
                        clear HA
                        simp only [crossbucklaw16_RegionTouches.l1] at H
                        by_cases c25 : x38_2 < (t255.length : Int)
                        · rw [if_pos c25] at H
                          have c25b0 : decide (x38_2 < (t255.length : Int)) = true := decide_eq_true c25
                          clear c25
                          by_cases c26 : 0 ≤ x38_2
                          · rw [if_pos c26] at H
                            have c26b0 : decide (0 ≤ x38_2) = true := decide_eq_true c26
                            clear c26
                            by_cases c27 : x38_2 < (t255.length : Int)
                            · rw [if_pos c27] at H
                              have c27b0 : decide (x38_2 < (t255.length : Int)) = true := decide_eq_true c27
                              clear c27
                              by_cases c28 : 0 ≤ (rd t255 x38_2)
                              · rw [if_pos c28] at H
                                have c28b0 : decide (0 ≤ (rd t255 x38_2)) = true := decide_eq_true c28
                                clear c28
                                by_cases c29 : (rd t255 x38_2) < (x5_2.length : Int)
                                · rw [if_pos c29] at H
                                  have c29b0 : decide ((rd t255 x38_2) < (x5_2.length : Int)) = true := decide_eq_true c29
                                  clear c29
                                  obtain ⟨y263, hy263⟩ : ∃ y_ : List Bool, y_ = (x5_2.set ((rd t255 x38_2) : Int).toNat true) := ⟨_, rfl⟩
                                  replace H : (crossbucklaw16_RegionTouches.l1 k2 a0 l1 y263 l1 (l1.length : Int) x23_1 t255 (t255.length : Int) (wrap64 (x38_2 + 1))) = some r := by first | (rw [hy263]; with_reducible exact H) | (have H2_ := (Option.bind_some _ _).symm.trans H; rw [hy263]; with_reducible exact H2_) | (have H2_ := (Option.bind_some _ _).symm.trans H; with_reducible exact H2_) | with_reducible exact H | (rw [hy263]; exact H) | exact H
                                  have Ny263 := Aside0.mk hy263
                                  clear hy263
                                  have H' := Aside0.mk H
                                  clear H
                                  have p262 : 0 ≤ (x38_2 : Int) := of_decide_eq_true (by first | (with_reducible assumption) | assumption)
                                  have q262 : x38_2 < (t255.length : Int) := of_decide_eq_true (by first | (with_reducible assumption) | assumption)
                                  obtain ⟨ad262, e262, hx262_0⟩ := Kd.at_int (Kd.R_reads' HO_36.out).2.2 x38_2 p262 q262
                                  cases e262
                                  replace p262 := eq_true p262
                                  replace q262 := eq_true q262
                                  have p30 : 0 ≤ ((rd t255 x38_2) : Int) := of_decide_eq_true (by first | (with_reducible assumption) | assumption)
                                  have q30 : ((rd t255 x38_2) : Int) < ((x5_2.length : Int) : Int) := of_decide_eq_true (by first | (with_reducible assumption) | assumption)
                                  obtain ⟨go30, co30, eo30, gb30, gl30, cl30, HG30⟩ := Kd.R_form HO_5.out (by omega)
                                  (first | cases eo30 | (injection eo30 with ea_ en_ ec_; (first | subst ea_ | (injection ea_ with ea_; subst ea_)); subst ec_; clear en_))
                                  have GB30 := Aside0.mk gb30
                                  have GG30 := Aside0.mk HG30
                                  clear gb30 gl30 HG30
                                  obtain ⟨hx30_0, hf30_0⟩ := Kd.R_celln false HO_5.out ((rd t255 x38_2) : Int) p30 q30
                                  replace p30 := eq_true p30
                                  replace q30 := eq_true q30
                                  have HP31 := Kd.R_putg HO_5.out ((rd t255 x38_2) : Int) true
                                  go_wp2_with (first | ((with_reducible refine gate_store (t := 4) (p := 44) rfl ?_); refine store_event (t := 4) (p := 44) (v := ?vo_w32) (w1 := (wr.setCell ⟨go30, ((rd t255 x38_2) : Int).toNat, none⟩ (.bool true))) ?hg ?ho ?hn ?hr ?_; (case ho => rfl); (case hg => rfl); (case hn => rfl); (case hr => first | (go_simp; done) | (go_simp; rfl)); intro w32 hw; have hg : wr.grownBy w32 (some go30) := (by rw [hw]; exact HP31.2); have hp_ : Kd.R Kd.bool 4 w32 w.heap.size (fun _ => True) (.slice (some ⟨go30, 0, none⟩) x5_2.length co30) y263 := (by rw [hw, Ny263.out]; exact HP31.1); clear HP31; have n0_ := Aside0.mk (hp_); have n1_ := Aside0.mk (Kd.R_over' (v := (.slice (some ⟨go30, 0, none⟩) x5_2.length co30)) (by (with_reducible repeat (first | apply Kd.R_alloc | apply Kd.R_drewN | apply Kd.R_drew)); exact HO_36.out) (Kd.R_typed HO_5.out) (by decide) hg); have n2_ := Aside0.mk (blk_grown (g := gb254) (o := .cells #[.int .u32 ((rd_T37 l1 x23_1).f0), .int .i64 ((rd_T37 l1 x23_1).f1)] 37 (0, 0)) (by (with_reducible repeat (first | refine blk_drewN ?_ _ | refine blk_drew ?_ | refine blk_alloc ?_ _)); exact BK254.out) hg (Kd.R_ne HO_5.out BK254.out (by decide))); have n3_ := Aside0.mk ((by rw [hw]; exact below_set (HB.out) GB30.out : Below w.heap.size w w32)); clear HO_5; clear HO_36; clear BK254; clear HB; have HO_5 := n0_; have HO_36 := n1_; have BK254 := n2_; have HB := n3_; clear n0_ n1_ n2_ n3_; clear hg hw hp_))
                                  go_roundg k2
                                  case measure => have := HK1.out; have := HK2.out; omega
                                  case rel => exact ⟨(y263), (wrap64 (x38_2 + 1)), (by first | rfl | (simp; done) | (simp [*]; done)), H', ⟨by have := HK1.out; have := HK2.out; omega⟩, ⟨by (with_reducible repeat (first | apply Kd.R_alloc | apply Kd.R_drewN | apply Kd.R_drew)); exact HO_5.out⟩, ⟨by (with_reducible repeat (first | apply Kd.R_alloc | apply Kd.R_drewN | apply Kd.R_drew)); exact HO_36.out⟩, ⟨by (with_reducible repeat (first | refine blk_drewN ?_ _ | refine blk_drew ?_ | refine blk_alloc ?_ _)); exact BK254.out⟩, ⟨by repeat (first | (with_reducible first | exact HB.out | apply below_alloc | apply pw_below_drewN | apply below_drew1 | refine below_set ?_ GE254.out) | exact HB.out)⟩⟩
                                · rw [if_neg c29] at H
                                  exact absurd H (by simp)
                              · rw [if_neg c28] at H
                                exact absurd H (by simp)
                            · rw [if_neg c27] at H
                              exact absurd H (by simp)
                          · rw [if_neg c26] at H
                            exact absurd H (by simp)
                        · rw [if_neg c25] at H
                          have c25b0 : decide (x38_2 < (t255.length : Int)) = false := decide_eq_false c25
                          clear c25
                          have H' := Aside0.mk H
                          clear H
                          go_wp2
                          go_roundg k2
                          case measure => have := HK1.out; have := HK2.out; omega
                          case rel => exact ⟨(x5_2), (wrap64 (x23_1 + 1)), (by first | rfl | (simp; done) | (simp [*]; done)), H', ⟨by have := HK1.out; have := HK2.out; omega⟩, ⟨by (with_reducible repeat (first | apply Kd.R_alloc | apply Kd.R_drewN | apply Kd.R_drew)); exact HO_5.out⟩, ⟨by repeat (first | (with_reducible first | exact HB.out | apply below_alloc | apply pw_below_drewN | apply below_drew1 | refine below_set ?_ GE254.out) | exact HB.out)⟩⟩
                  · replace c17 := Bool.eq_false_iff.mpr c17
                    subst c17
                    have H1 : (some false) = some r := by rw [if_neg (show ¬ (false = true) by decide)] at H; exact H
                    clear H
                    have H := H1
                    clear H1
                    exact absurd ((Option.some.inj H).trans hT.out) (by decide)
                · rw [if_neg c13] at H
                  exact absurd H (by simp)
              · rw [if_neg c12] at H
                exact absurd H (by simp)
            · rw [if_neg c11] at H
              have c11b0 : decide (x23_1 < (l1.length : Int)) = false := decide_eq_false c11
              clear c11
              have H' := Aside0.mk H
              clear H
              obtain ⟨Ao33, co33, eo33⟩ := Kd.R_slice HO_5.out
              subst eo33
              go_wp2
              go_loopg [11, 49] k1 (fun kq v11 v49 w' => ∃ (x11_2 : List Int) (x49_2 : Int), v49 = .int .i64 x49_2 ∧ Aside0 (crossbucklaw16_RegionTouches.l2 kq a0 l1 x11_2 x5_1 (x5_1.length : Int) x49_2 = some r) ∧ Aside0 (kq ≤ k1) ∧ Aside0 (Kd.R (Kd.int .i64) 3 w' w.heap.size (fun _ => True) v11 x11_2) ∧ Aside0 (Kd.R Kd.bool 4 w' w.heap.size (fun _ => True) (.slice Ao33 x5_1.length co33) x5_1) ∧ Aside0 (Below w.heap.size w w'))
              case atStart => exact ⟨(([] : List Int)), (0), (by first | rfl | (simp; done) | (simp [*]; done)), H', ⟨Nat.le_refl _⟩, ⟨by first | exact Kd.R_nil _ _ _ _ _ | exact Kd.N_nil _ _ _ _ _ | exact Kd.V_nil _ _ _ _ _ | exact Kd.Q_nil _ _ _ _ _ | exact Kd.S_nil _ _ _ _ _⟩, ⟨by (with_reducible repeat (first | apply Kd.R_alloc | apply Kd.R_drewN | apply Kd.R_drew)); exact HO_5.out⟩, ⟨by repeat (first | (with_reducible first | exact HB.out | apply below_alloc | apply pw_below_drewN | apply below_drew1) | exact HB.out)⟩⟩
              case round =>
                clear H'
                try clear c1
                try clear c2
                try clear p2
                try clear q2
                try clear hx2
                try clear c3
                try clear c3b0
                try clear c3b1
                try clear p3
                try clear q3
                try clear hx3
                try clear hf3
                try clear p6
                try clear c7
                try clear c7b0
                try clear c7b1
                try clear c8
                try clear c8b0
                try clear c8b1
                try clear c9
                try clear c11
                try clear c11b0
                try clear c12
                try clear c12b0
                try clear c13
                try clear c13b0
                try clear c14
                try clear c17
                try clear c22
                try clear c25
                try clear c25b0
                try clear p25
                try clear q25
                try clear hx25
                try clear c26
                try clear c26b0
                try clear p26
                try clear q26
                try clear hx26
                try clear c27
                try clear c27b0
                try clear c28
                try clear c28b0
                try clear c29
                try clear c29b0
                try clear p30
                try clear q30
                try clear hx30
                try clear hf30
                try clear c31
                try clear c32
                try clear c33
                try clear hcz19_0
                try clear hcz19_1
                try clear hcz21_0
                try clear hcz21_1
                try clear hfz19_0
                try clear hfz19_1
                try clear hfz21_0
                try clear hfz21_1
                try clear hx253_0
                try clear hx253_1
                try clear hx262_0
                try clear hx30_0
                try clear p2
                try clear p253
                try clear p262
                try clear p30
                try clear q2
                try clear q253
                try clear q262
                try clear q30
                obtain ⟨x11_2, x49_2, rfl, HA, HK2, HO_11, HO_47, HB⟩ := hrel
                cases gk with
                | zero => exact absurd HA.out (by simp [crossbucklaw16_RegionTouches.l2])
                | succ k2 =>
                  have H := HA.out
                  clear HA
                  simp only [crossbucklaw16_RegionTouches.l2] at H
                  by_cases c34 : x49_2 < (x5_1.length : Int)
                  · rw [if_pos c34] at H
                    have c34b0 : decide (x49_2 < (x5_1.length : Int)) = true := decide_eq_true c34
                    clear c34
                    by_cases c35 : 0 ≤ x49_2
                    · rw [if_pos c35] at H
                      have c35b0 : decide (0 ≤ x49_2) = true := decide_eq_true c35
                      clear c35
                      by_cases c36 : x49_2 < (x5_1.length : Int)
                      · rw [if_pos c36] at H
                        have c36b0 : decide (x49_2 < (x5_1.length : Int)) = true := decide_eq_true c36
                        clear c36
                        obtain ⟨bq37, hbq37⟩ : ∃ b_ : Bool, b_ = (rdOf false x5_1 x49_2) := ⟨_, rfl⟩
                        replace H : (if bq37 = true then (if x11_2.length < 17592186044416 then (crossbucklaw16_RegionTouches.l2 k2 a0 l1 (x11_2 ++ [x49_2]) x5_1 (x5_1.length : Int) (wrap64 (x49_2 + 1))) else (none)) else (crossbucklaw16_RegionTouches.l2 k2 a0 l1 x11_2 x5_1 (x5_1.length : Int) (wrap64 (x49_2 + 1)))) = some r := by rw [← hbq37] at H; exact H
                        have Nbq37 := Aside0.mk hbq37
                        clear hbq37
                        by_cases c38 : bq37 = true
                        · subst c38
                          have H1 : (if x11_2.length < 17592186044416 then (crossbucklaw16_RegionTouches.l2 k2 a0 l1 (x11_2 ++ [x49_2]) x5_1 (x5_1.length : Int) (wrap64 (x49_2 + 1))) else (none)) = some r := by rw [if_pos rfl] at H; exact H
                          clear H
                          have H := H1
                          clear H1
                          by_cases c39 : x11_2.length < 17592186044416
                          · rw [if_pos c39] at H
                            have LMc39 := Aside0.mk c39
                            clear c39
                            obtain ⟨y265, hy265⟩ : ∃ y_ : List Int, y_ = (x11_2 ++ [x49_2]) := ⟨_, rfl⟩
                            replace H : (crossbucklaw16_RegionTouches.l2 k2 a0 l1 y265 x5_1 (x5_1.length : Int) (wrap64 (x49_2 + 1))) = some r := by first | (rw [hy265]; with_reducible exact H) | (have H2_ := (Option.bind_some _ _).symm.trans H; rw [hy265]; with_reducible exact H2_) | (have H2_ := (Option.bind_some _ _).symm.trans H; with_reducible exact H2_) | with_reducible exact H | (rw [hy265]; exact H) | exact H
                            have Ny265 := Aside0.mk hy265
                            clear hy265
                            have H' := Aside0.mk H
                            clear H
                            have p264 : 0 ≤ (x49_2 : Int) := of_decide_eq_true (by first | (with_reducible assumption) | assumption)
                            have q264 : x49_2 < (x5_1.length : Int) := of_decide_eq_true (by first | (with_reducible assumption) | assumption)
                            obtain ⟨ad264, e264, hx264_0⟩ := Kd.at_bool (Kd.R_reads' HO_47.out).2.2 x49_2 p264 q264
                            (try rw [← Nbq37.out] at hx264_0)
                            cases e264
                            replace p264 := eq_true p264
                            replace q264 := eq_true q264
                            go_wp2_with (first | ((with_reducible refine gate_builtin (b := .append) (xs := #[.tmp 55, .tmp 57]) rfl ?_); at_builtin; refine Kd.R_append (Kd.int .i64) (w0 := w) w.heap.size rfl (.tmp 55) (.tmp 57) 59 3 (.int .i64 0) 8 rfl Try.underlying59 info3 rfl (by decide) (by omega) u11 x11_2 x49_2 [.int .i64 x49_2] (fun _ => True) (fun _ => False) rfl rfl ?aP (fun _ hk => hk.elim) ?aF ?aO ?aB ?aS ?aL ?_; (case aP => exact rfl); (case aB => exact (by repeat (first | (with_reducible first | exact HB.out | apply below_alloc | apply pw_below_drewN | apply below_drew1) | exact HB.out))); (case aF => exact (fun _ _ => trivial)); (case aO => exact (by (with_reducible repeat (first | apply Kd.R_alloc | apply Kd.R_drewN | apply Kd.R_drew)); exact HO_11.out)); (case aS => exact (below_size (by repeat (first | (with_reducible first | exact HB.out | apply below_alloc | apply pw_below_drewN | apply below_drew1) | exact HB.out)))); (case aL => have := LMc39.out; omega); intro v266 w40 ho hb hg hat; rw [← Ny265.out] at ho; have n0_ := Aside0.mk (Kd.R_over' (by (with_reducible repeat (first | apply Kd.R_alloc | apply Kd.R_drewN | apply Kd.R_drew)); exact HO_47.out) (Kd.R_typed (by (with_reducible repeat (first | apply Kd.R_alloc | apply Kd.R_drewN | apply Kd.R_drew)); exact HO_11.out)) (by decide) hg); have n1_ := Aside0.mk (hb); have n2_ := Aside0.mk (ho); clear HO_47; clear HB; clear HO_11; have HO_47 := n0_; have HB := n1_; have HO267 := n2_; clear n0_ n1_ n2_; clear ho hb hg hat))
                            go_roundg k2
                            case measure => have := HK1.out; have := HK2.out; omega
                            case rel => exact ⟨(y265), (wrap64 (x49_2 + 1)), (by first | rfl | (simp; done) | (simp [*]; done)), H', ⟨by have := HK1.out; have := HK2.out; omega⟩, ⟨by (with_reducible repeat (first | apply Kd.R_alloc | apply Kd.R_drewN | apply Kd.R_drew)); exact HO267.out⟩, ⟨by (with_reducible repeat (first | apply Kd.R_alloc | apply Kd.R_drewN | apply Kd.R_drew)); exact HO_47.out⟩, ⟨by repeat (first | (with_reducible first | exact HB.out | apply below_alloc | apply pw_below_drewN | apply below_drew1) | exact HB.out)⟩⟩
                          · rw [if_neg c39] at H
                            exact absurd H (by simp)
                        · replace c38 := Bool.eq_false_iff.mpr c38
                          subst c38
                          have H1 : (crossbucklaw16_RegionTouches.l2 k2 a0 l1 x11_2 x5_1 (x5_1.length : Int) (wrap64 (x49_2 + 1))) = some r := by rw [if_neg (show ¬ (false = true) by decide)] at H; exact H
                          clear H
                          have H := H1
                          clear H1
                          have H' := Aside0.mk H
                          clear H
                          have p264 : 0 ≤ (x49_2 : Int) := of_decide_eq_true (by first | (with_reducible assumption) | assumption)
                          have q264 : x49_2 < (x5_1.length : Int) := of_decide_eq_true (by first | (with_reducible assumption) | assumption)
                          obtain ⟨ad264, e264, hx264_0⟩ := Kd.at_bool (Kd.R_reads' HO_47.out).2.2 x49_2 p264 q264
                          (try rw [← Nbq37.out] at hx264_0)
                          cases e264
                          replace p264 := eq_true p264
                          replace q264 := eq_true q264
                          go_wp2
                          go_roundg k2
                          case measure => have := HK1.out; have := HK2.out; omega
                          case rel => exact ⟨(x11_2), (wrap64 (x49_2 + 1)), (by first | rfl | (simp; done) | (simp [*]; done)), H', ⟨by have := HK1.out; have := HK2.out; omega⟩, ⟨by (with_reducible repeat (first | apply Kd.R_alloc | apply Kd.R_drewN | apply Kd.R_drew)); exact HO_11.out⟩, ⟨by (with_reducible repeat (first | apply Kd.R_alloc | apply Kd.R_drewN | apply Kd.R_drew)); exact HO_47.out⟩, ⟨by repeat (first | (with_reducible first | exact HB.out | apply below_alloc | apply pw_below_drewN | apply below_drew1) | exact HB.out)⟩⟩
                      · rw [if_neg c36] at H
                        exact absurd H (by simp)
                    · rw [if_neg c35] at H
                      exact absurd H (by simp)
                  · rw [if_neg c34] at H
                    have c34b0 : decide (x49_2 < (x5_1.length : Int)) = false := decide_eq_false c34
                    clear c34
                    replace H := Option.bind_eq_some_iff.mp H
                    obtain ⟨t268, A410, H⟩ := H
                    replace H : (if t268 = true then ((region_All.f k2 a0 l1).bind fun t269 => ((crossbucklaw16_same.f k2 t269 x11_2).bind fun t272 => (some t272))) else (some false)) = some r := H
                    have A41 := Aside0.mk A410
                    clear A410
                    by_cases c42 : t268 = true
                    · subst c42
                      have H1 : ((region_All.f k2 a0 l1).bind fun t269 => ((crossbucklaw16_same.f k2 t269 x11_2).bind fun t272 => (some t272))) = some r := by rw [if_pos rfl] at H; exact H
                      clear H
                      have H := H1
                      clear H1
                      replace H := Option.bind_eq_some_iff.mp H
                      obtain ⟨t269, A430, H⟩ := H
                      replace H : ((crossbucklaw16_same.f k2 t269 x11_2).bind fun t272 => (some t272)) = some r := H
                      have A43 := Aside0.mk A430
                      clear A430
                      replace H := Option.bind_eq_some_iff.mp H
                      obtain ⟨t272, A440, H⟩ := H
                      replace H : (some t272) = some r := H
                      have A44 := Aside0.mk A440
                      clear A440
                      obtain rfl := Option.some.inj H
                      go_wp2_with (first | ((with_reducible refine gate_callee (f := 22) rfl ?_); refine goesL_ (some 60) rfl rfl Try.func22 (by kernel_rfl) rfl #[] rfl (by (try simp only [List.map_toArray, List.map_cons, List.map_nil]); first | done | rfl | (simp only [List.length_drop, List.length_take]; rfl)) ?_; (with_reducible refine (crossbucklaw16_awake.calls  true _ A41.out).mono ?_); rintro e w45 ⟨rfl, hb⟩; refine ⟨_, rfl, ?_⟩; have n0_ := Aside0.mk (Kd.R_below (by (with_reducible repeat (first | apply Kd.R_alloc | apply Kd.R_drewN | apply Kd.R_drew)); exact HO_11.out) hb); have n1_ := Aside0.mk (Kd.R_below (by (with_reducible repeat (first | apply Kd.R_alloc | apply Kd.R_drewN | apply Kd.R_drew)); exact HO_47.out) hb); have n2_ := Aside0.mk (below_step (by repeat (first | (with_reducible first | exact HB.out | apply below_alloc | apply pw_below_drewN | apply below_drew1) | exact HB.out)) hb); clear HO_11; clear HO_47; clear HB; have HO_11 := n0_; have HO_47 := n1_; have HB := n2_; clear n0_ n1_ n2_; (try clear hb); (try clear hb2); (try clear hk); (try clear hi)) | (go_at_call 34; (with_reducible refine (region_All.calls k2 a0 _ _ l1 t269 _ ?side1 ?side2 A43.out).mono ?_); (case side1 => repeat (first | exact (Kd.C_below HR1.out HB.out) | (with_reducible refine Kd.C_alloc ?_ _) | (with_reducible refine Kd.C_drewN ?_ _) | (with_reducible refine Kd.C_drew ?_))); (case side2 => exact HC1.out); rintro e w46 ⟨v270, rfl, ho0, hb⟩; have n0_ := Aside0.mk (Kd.R_elder' (by (with_reducible repeat (first | apply Kd.R_alloc | apply Kd.R_drewN | apply Kd.R_drew)); exact HO_11.out) (Kd.R_base ho0) hb); have n1_ := Aside0.mk (Kd.R_below (by (with_reducible repeat (first | apply Kd.R_alloc | apply Kd.R_drewN | apply Kd.R_drew)); exact HO_47.out) hb); have n2_ := Aside0.mk (Kd.R_lower (Kd.R_new' ho0 (Kd.R_lt (by (with_reducible repeat (first | apply Kd.R_alloc | apply Kd.R_drewN | apply Kd.R_drew)); exact HO_11.out))) (below_size (by repeat (first | (with_reducible first | exact HB.out | apply below_alloc | apply pw_below_drewN | apply below_drew1) | exact HB.out)))); have n3_ := Aside0.mk (below_step (by repeat (first | (with_reducible first | exact HB.out | apply below_alloc | apply pw_below_drewN | apply below_drew1) | exact HB.out)) hb); clear HO_11; clear HO_47; clear HB; have HO_11 := n0_; have HO_47 := n1_; have HO271 := n2_; have HB := n3_; clear n0_ n1_ n2_ n3_; (try clear hb); (try clear hb2); (try clear hk); (try clear hi); (try clear ho0); obtain ⟨Ao47, co47, eo47⟩ := Kd.R_slice HO271.out; subst eo47; obtain ⟨Ao48, co48, eo48⟩ := Kd.R_slice HO_11.out; subst eo48) | (go_at_call 32; (with_reducible refine (crossbucklaw16_same.calls k2 _ _ t269 _ _ x11_2 t272 _ ?side1 ?side2 ?side3 ?side4 A44.out).mono ?_); (case side1 => repeat (first | exact (Kd.R_reads' HO271.out).2.2 | (with_reducible refine Kd.C_alloc ?_ _) | (with_reducible refine Kd.C_drewN ?_ _) | (with_reducible refine Kd.C_drew ?_))); (case side2 => exact (Kd.R_reads' HO271.out).2.1); (case side3 => repeat (first | exact (Kd.R_reads' HO_11.out).2.2 | (with_reducible refine Kd.C_alloc ?_ _) | (with_reducible refine Kd.C_drewN ?_ _) | (with_reducible refine Kd.C_drew ?_))); (case side4 => exact (Kd.R_reads' HO_11.out).2.1); rintro e w' ⟨rfl, ⟨nd, rfl⟩⟩))
                      go_ret
                      exact ⟨by first | rfl | (simp [errW_none, errW_some] <;> rfl) | (simp [*, errW_none, errW_some] <;> rfl), by repeat (first | (with_reducible first | exact HB.out | apply below_alloc | apply pw_below_drewN | apply below_drew1) | exact HB.out)⟩
                    · replace c42 := Bool.eq_false_iff.mpr c42
                      subst c42
                      have H1 : (some false) = some r := by rw [if_neg (show ¬ (false = true) by decide)] at H; exact H
                      clear H
                      have H := H1
                      clear H1
                      exact absurd ((Option.some.inj H).trans hT.out) (by decide)
      · rw [if_neg c8] at H
        exact absurd H (by simp)
    · rw [if_neg c7] at H
      exact absurd H (by simp)

end Go.Proofs.Ytbnjbjjbfbbdcaa.PAll
