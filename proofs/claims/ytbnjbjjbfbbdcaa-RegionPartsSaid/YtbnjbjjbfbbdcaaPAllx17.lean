-- Written by wip/myprint.py (this session's own driver); Lean checks it.
import Derived.Test.YtbnjbjjbfbbdcaaPAllx0
import Derived.Test.YtbnjbjjbfbbdcaaPAllx2
import Derived.Test.YtbnjbjjbfbbdcaaPAllx4
import Derived.Test.YtbnjbjjbfbbdcaaPAllx5
import Derived.Test.YtbnjbjjbfbbdcaaPAllx6
import Derived.Test.YtbnjbjjbfbbdcaaPAllx7
import Derived.Test.YtbnjbjjbfbbdcaaPAllx9
import Derived.Test.YtbnjbjjbfbbdcaaPAllx12
import Derived.Test.YtbnjbjjbfbbdcaaPAllx14
import Derived.Test.YtbnjbjjbfbbdcaaPAllx15
import Derived.Test.YtbnjbjjbfbbdcaaPAllx16
namespace Go.Proofs.Ytbnjbjjbfbbdcaa.PAll
open Go.RowKit Go.Proofs.YtbnjbjjbfbbdcaaW.PrintWords Go.Proofs.YtbnjbjjbfbbdcaaW.PrintLast Go.Proofs.YtbnjbjjbfbbdcaaW.PrintMore
attribute [local go_sem] max2_int min2_int max_two min_two max_three min_three max_four min_four   -- for this text's walks alone
set_option linter.unusedVariables false
set_option linter.unusedSimpArgs false

attribute [local go_sem high] eqA37
/-! ### crossbucklaw16_RegionParts: function 5 -/
mutual
def crossbucklaw16_RegionParts.j0 : Nat → Int → Int → Int → Int → Bool → Option (Bool)
  | 0, _, _, _, _, _ => none
  | k + 1, x0, x1, x2, x7, x31 => if x31 = true then (some false) else (crossbucklaw16_RegionParts.l0 k x0 x1 x2 x7 x7 0)
def crossbucklaw16_RegionParts.l0 : Nat → Int → Int → Int → Int → Int → Int → Option (Bool)
  | 0, _, _, _, _, _, _ => none
  | k + 1, x0, x1, x2, x7, x32, x33 => if x33 < x32 then ((region_Prefix.f x0 x33).bind fun bt132 => ((crossbuckref03_Right.f k bt132.1 bt132.2).bind fun t135 => (if t135 = true then ((crossbuckref03_Has.f k bt132.1 bt132.2 x1).bind fun t136 => ((region_Index.f x0 x1).bind fun t137 => (if (t136 != (x33 == t137)) = true then (some false) else (crossbucklaw16_RegionParts.l0 k x0 x1 x2 x7 x32 (wrap64 (x33 + 1)))))) else (some false)))) else ((crossbucklaw16_awake.f).bind fun t127 => (if t127 = true then (if x2 ≥ 0 then (if x2 < x7 then (some true) else ((region_Prefix.f x0 x2).bind fun bt128 => (some (bt128.1 == 0 && (bt128.2 == 0))))) else ((region_Prefix.f x0 x2).bind fun bt130 => (some (bt130.1 == 0 && (bt130.2 == 0))))) else (some false)))
end
def crossbucklaw16_RegionParts.f (k : Nat) (a0 : Int) (a1 : Int) (a2 : Int) : Option (Bool) := (crossbuckref16_Count.f a0).bind fun t122 => ((region_Count.f a0).bind fun t123 => (if t123 = t122 then ((region_Right.f a0).bind fun t124 => (if (t124 != (decide (t122 > 0))) = true then (crossbucklaw16_RegionParts.j0 k a0 a1 a2 t122 true) else ((region_Index.f a0 a1).bind fun t125 => ((crossbuckref16_Index.f a0 a1).bind fun t126 => (crossbucklaw16_RegionParts.j0 k a0 a1 a2 t122 (t125 != t126)))))) else (crossbucklaw16_RegionParts.j0 k a0 a1 a2 t122 true)))
theorem crossbucklaw16_RegionParts.mono_l : ∀ k, (∀ y0 y1 y2 y3 y4, LeO (crossbucklaw16_RegionParts.j0 k y0 y1 y2 y3 y4) (crossbucklaw16_RegionParts.j0 (k + 1) y0 y1 y2 y3 y4)) ∧ (∀ y0 y1 y2 y3 y4 y5, LeO (crossbucklaw16_RegionParts.l0 k y0 y1 y2 y3 y4 y5) (crossbucklaw16_RegionParts.l0 (k + 1) y0 y1 y2 y3 y4 y5))
  | 0 => ⟨fun _ _ _ _ _ r h => by simp [crossbucklaw16_RegionParts.j0] at h, fun _ _ _ _ _ _ r h => by simp [crossbucklaw16_RegionParts.l0] at h⟩
  | k + 1 => by
    obtain ⟨ih0, ih1⟩ := crossbucklaw16_RegionParts.mono_l k
    refine ⟨?_, ?_⟩
    · intro y0 y1 y2 y3 y4
      unfold crossbucklaw16_RegionParts.j0
      repeat' first
      | (with_reducible exact ih0 _ _ _ _ _)
      | (with_reducible exact ih1 _ _ _ _ _ _)
      | (with_reducible exact crossbuckref03_Has.mono _ _ _ _)
      | (with_reducible exact crossbuckref03_Right.mono _ _ _)
      | (with_reducible exact LeO.refl _)
      | (with_reducible exact LeO.none _)
      | (with_reducible refine LeO.ite ?_ ?_)
      | (with_reducible refine LeO.bind ?_ (fun _ => ?_))
      | exact ih0 _ _ _ _ _
      | exact ih1 _ _ _ _ _ _
      | exact crossbuckref03_Has.mono _ _ _ _
      | exact crossbuckref03_Right.mono _ _ _
      | exact LeO.none _
      | refine LeO.ite ?_ ?_
      | refine LeO.bind ?_ (fun _ => ?_)
    · intro y0 y1 y2 y3 y4 y5
      unfold crossbucklaw16_RegionParts.l0
      repeat' first
      | (with_reducible exact ih0 _ _ _ _ _)
      | (with_reducible exact ih1 _ _ _ _ _ _)
      | (with_reducible exact crossbuckref03_Has.mono _ _ _ _)
      | (with_reducible exact crossbuckref03_Right.mono _ _ _)
      | (with_reducible exact LeO.refl _)
      | (with_reducible exact LeO.none _)
      | (with_reducible refine LeO.ite ?_ ?_)
      | (with_reducible refine LeO.bind ?_ (fun _ => ?_))
      | exact ih0 _ _ _ _ _
      | exact ih1 _ _ _ _ _ _
      | exact crossbuckref03_Has.mono _ _ _ _
      | exact crossbuckref03_Right.mono _ _ _
      | exact LeO.none _
      | refine LeO.ite ?_ ?_
      | refine LeO.bind ?_ (fun _ => ?_)
theorem crossbucklaw16_RegionParts.mono : ∀ a0 a1 a2 k, LeO (crossbucklaw16_RegionParts.f k a0 a1 a2) (crossbucklaw16_RegionParts.f (k + 1) a0 a1 a2) := by
  intro a0 a1 a2 k
  obtain ⟨ih0, ih1⟩ := crossbucklaw16_RegionParts.mono_l k
  unfold crossbucklaw16_RegionParts.f
  repeat' first
      | (with_reducible exact ih0 _ _ _ _ _)
      | (with_reducible exact ih1 _ _ _ _ _ _)
      | (with_reducible exact crossbuckref03_Has.mono _ _ _ _)
      | (with_reducible exact crossbuckref03_Right.mono _ _ _)
      | (with_reducible exact LeO.refl _)
      | (with_reducible exact LeO.none _)
      | (with_reducible refine LeO.ite ?_ ?_)
      | (with_reducible refine LeO.bind ?_ (fun _ => ?_))
      | exact ih0 _ _ _ _ _
      | exact ih1 _ _ _ _ _ _
      | exact crossbuckref03_Has.mono _ _ _ _
      | exact crossbuckref03_Right.mono _ _ _
      | exact LeO.none _
      | refine LeO.ite ?_ ?_
      | refine LeO.bind ?_ (fun _ => ?_)
set_option maxHeartbeats 8000000 in
set_option maxRecDepth 100000 in
theorem crossbucklaw16_RegionParts.calls (k : Nat) (a0 : Int) (a1 : Int) (a2 : Int) (r : Bool) (w : World) (h : crossbucklaw16_RegionParts.f k a0 a1 a2 = some r) (hT : Aside0 (r = true)) :
    Calls Try.prog 5 #[.int .i64 a0, .int .u32 a1, .int .i64 a2] w fun e w' => e = .returned (.bool r) ∧ Below w.heap.size w w' := by
  have hu37 := Try.underlying37
  have HB := Aside0.mk (Below.refl w.heap.size w)
  have H : ((crossbuckref16_Count.f a0).bind fun t122 => ((region_Count.f a0).bind fun t123 => (if t123 = t122 then ((region_Right.f a0).bind fun t124 => (if (t124 != (decide (t122 > 0))) = true then (crossbucklaw16_RegionParts.j0 k a0 a1 a2 t122 true) else ((region_Index.f a0 a1).bind fun t125 => ((crossbuckref16_Index.f a0 a1).bind fun t126 => (crossbucklaw16_RegionParts.j0 k a0 a1 a2 t122 (t125 != t126)))))) else (crossbucklaw16_RegionParts.j0 k a0 a1 a2 t122 true)))) = some r := h
  clear h
  replace H := Option.bind_eq_some_iff.mp H
  obtain ⟨t122, A40, H⟩ := H
  replace H : ((region_Count.f a0).bind fun t123 => (if t123 = t122 then ((region_Right.f a0).bind fun t124 => (if (t124 != (decide (t122 > 0))) = true then (crossbucklaw16_RegionParts.j0 k a0 a1 a2 t122 true) else ((region_Index.f a0 a1).bind fun t125 => ((crossbuckref16_Index.f a0 a1).bind fun t126 => (crossbucklaw16_RegionParts.j0 k a0 a1 a2 t122 (t125 != t126)))))) else (crossbucklaw16_RegionParts.j0 k a0 a1 a2 t122 true))) = some r := H
  have A4 := Aside0.mk A40
  clear A40
  have HC5 := Aside0.mk H
  clear H
  go_enter Try.func5, Try.ntmps5
  go_upto_region 2 with (first | ((with_reducible refine gate_callee (f := 14) rfl ?_); refine goesL_ (some 11) rfl rfl Try.func14 (by kernel_rfl) rfl #[.int .i64 a0] rfl (by (try simp only [List.map_toArray, List.map_cons, List.map_nil]); first | done | rfl | (simp only [List.length_drop, List.length_take]; rfl)) ?_; (with_reducible refine (crossbuckref16_Count.calls a0 t122 _ A4.out).mono ?_); rintro e w' ⟨rfl, ⟨nd, rfl⟩⟩; refine ⟨_, rfl, ?_⟩))
  (try simp only [Act.put, List.setIfInBounds_toArray, List.set_cons_zero, List.set_cons_succ])
  go_cut [31] (fun v31 wc => ∃ (kq : Nat) (x31_4 : Bool), v31 = .bool x31_4 ∧ Aside0 (crossbucklaw16_RegionParts.j0 kq a0 a1 a2 t122 x31_4 = some r) ∧ Aside0 (kq ≤ k) ∧ Aside0 (Below w.heap.size w wc))
  case first =>
    have H := HC5.out
    clear HC5
    replace H := Option.bind_eq_some_iff.mp H
    obtain ⟨t123, A60, H⟩ := H
    replace H : (if t123 = t122 then ((region_Right.f a0).bind fun t124 => (if (t124 != (decide (t122 > 0))) = true then (crossbucklaw16_RegionParts.j0 k a0 a1 a2 t122 true) else ((region_Index.f a0 a1).bind fun t125 => ((crossbuckref16_Index.f a0 a1).bind fun t126 => (crossbucklaw16_RegionParts.j0 k a0 a1 a2 t122 (t125 != t126)))))) else (crossbucklaw16_RegionParts.j0 k a0 a1 a2 t122 true)) = some r := H
    have A6 := Aside0.mk A60
    clear A60
    by_cases c7 : t123 = t122
    · rw [if_pos c7] at H
      have c7b0 : (t123 == t122) = true := beq_iff_eq.mpr c7
      have c7b1 : (t123 != t122) = false := bne_eq_false_iff_eq.mpr c7
      clear c7
      (first | rw [c7b0] | (simp only [i64_w, i32_w]; rw [c7b0]) | skip)
      replace H := Option.bind_eq_some_iff.mp H
      obtain ⟨t124, A80, H⟩ := H
      replace H : (if (t124 != (decide (t122 > 0))) = true then (crossbucklaw16_RegionParts.j0 k a0 a1 a2 t122 true) else ((region_Index.f a0 a1).bind fun t125 => ((crossbuckref16_Index.f a0 a1).bind fun t126 => (crossbucklaw16_RegionParts.j0 k a0 a1 a2 t122 (t125 != t126))))) = some r := H
      have A8 := Aside0.mk A80
      clear A80
      by_cases c9 : (t124 != (decide (t122 > 0))) = true
      · rw [if_pos c9] at H
        have c9b0 : (t124 != (decide (t122 > 0))) = true := c9
        (try (have c9b1 : decide (t124 = (decide (t122 > 0))) = false := by simpa using c9))
        (try (have c9b2 : (t124 == (decide (t122 > 0))) = false := by simpa using c9))
        (try (have c9b3 : ¬ (t124 = (decide (t122 > 0))) := by simpa using c9))
        clear c9
        exfalso
        unfold crossbucklaw16_RegionParts.j0 at H
        split at H
        · exact absurd H (by simp)
        · rw [if_pos rfl] at H
          exact absurd ((Option.some.inj H).trans hT.out) (by decide)
      · rw [if_neg c9] at H
        have c9b0 : (t124 != (decide (t122 > 0))) = false := by simpa using c9
        (try (have c9b1 : decide (t124 = (decide (t122 > 0))) = true := by simpa using c9))
        (try (have c9b2 : (t124 == (decide (t122 > 0))) = true := by simpa using c9))
        clear c9
        replace H := Option.bind_eq_some_iff.mp H
        obtain ⟨t125, A100, H⟩ := H
        replace H : ((crossbuckref16_Index.f a0 a1).bind fun t126 => (crossbucklaw16_RegionParts.j0 k a0 a1 a2 t122 (t125 != t126))) = some r := H
        have A10 := Aside0.mk A100
        clear A100
        replace H := Option.bind_eq_some_iff.mp H
        obtain ⟨t126, A110, H⟩ := H
        replace H : (crossbucklaw16_RegionParts.j0 k a0 a1 a2 t122 (t125 != t126)) = some r := H
        have A11 := Aside0.mk A110
        clear A110
        have H' := Aside0.mk H
        clear H
        go_wp2_with (first | ((with_reducible refine gate_callee (f := 15) rfl ?_); refine goesL_ (some 13) rfl rfl Try.func15 (by kernel_rfl) rfl #[.int .i64 a0] rfl (by (try simp only [List.map_toArray, List.map_cons, List.map_nil]); first | done | rfl | (simp only [List.length_drop, List.length_take]; rfl)) ?_; (with_reducible refine (region_Count.calls a0 t123 _ A6.out).mono ?_); rintro e w' ⟨rfl, ⟨nd, rfl⟩⟩; refine ⟨_, rfl, ?_⟩) | (go_at_call 16; (with_reducible refine (region_Right.calls a0 t124 _ A8.out).mono ?_); rintro e w' ⟨rfl, ⟨nd, rfl⟩⟩) | (go_at_call 17; (with_reducible refine (region_Index.calls a0 a1 t125 _ A10.out).mono ?_); rintro e w' ⟨rfl, ⟨nd, rfl⟩⟩) | (go_at_call 18; (with_reducible refine (crossbuckref16_Index.calls a0 a1 t126 _ A11.out).mono ?_); rintro e w' ⟨rfl, ⟨nd, rfl⟩⟩))
        go_meet
        case rel => exact ⟨_, ((t125 != t126)), (by first | rfl | (simp; done) | (simp [*]; done)), H', ⟨by first | omega | exact Nat.le_refl _⟩, ⟨by repeat (first | (with_reducible first | exact HB.out | apply below_alloc | apply pw_below_drewN | apply below_drew1) | exact HB.out)⟩⟩
    · rw [if_neg c7] at H
      have c7b0 : (t123 == t122) = false := beq_eq_false_iff_ne.mpr c7
      have c7b1 : (t123 != t122) = true := bne_iff_ne.mpr c7
      (first | rw [c7b0] | (simp only [i64_w, i32_w]; rw [c7b0]) | skip)
      exfalso
      unfold crossbucklaw16_RegionParts.j0 at H
      split at H
      · exact absurd H (by simp)
      · rw [if_pos rfl] at H
        exact absurd ((Option.some.inj H).trans hT.out) (by decide)
  case rest =>
    clear HC5
    try clear c1
    try clear p2
    try clear c5
    try clear c7
    try clear c7b0
    try clear c7b1
    try clear c9
    try clear c9b0
    try clear c9b1
    try clear c9b2
    obtain ⟨kq, x31_4, rfl, HA, HJ4, HB⟩ := hcut
    cases kq with
    | zero => exact absurd HA.out (by simp [crossbucklaw16_RegionParts.j0])
    | succ kj4 =>
      have H := HA.out
      clear HA
      simp only [crossbucklaw16_RegionParts.j0] at H
      by_cases c12 : x31_4 = true
      · subst c12
        have H1 : (some false) = some r := by rw [if_pos rfl] at H; exact H
        clear H
        have H := H1
        clear H1
        exact absurd ((Option.some.inj H).trans hT.out) (by decide)
      · replace c12 := Bool.eq_false_iff.mpr c12
        subst c12
        have H1 : (crossbucklaw16_RegionParts.l0 kj4 a0 a1 a2 t122 t122 0) = some r := by rw [if_neg (show ¬ (false = true) by decide)] at H; exact H
        clear H
        have H := H1
        clear H1
        have H' := Aside0.mk H
        clear H
        go_wp2
        go_loopg [33] kj4 (fun kq v33 w' => ∃ (x33_2 : Int), v33 = .int .i64 x33_2 ∧ Aside0 (crossbucklaw16_RegionParts.l0 kq a0 a1 a2 t122 t122 x33_2 = some r) ∧ Aside0 (kq ≤ kj4) ∧ Aside0 (Below w.heap.size w w'))
        case atStart => exact ⟨(0), (by first | rfl | (simp; done) | (simp [*]; done)), H', ⟨Nat.le_refl _⟩, ⟨by repeat (first | (with_reducible first | exact HB.out | apply below_alloc | apply pw_below_drewN | apply below_drew1) | exact HB.out)⟩⟩
        case round =>
          clear H'
          try clear c1
          try clear p2
          try clear c5
          try clear c7
          try clear c7b0
          try clear c7b1
          try clear c9
          try clear c9b0
          try clear c9b1
          try clear c9b2
          try clear c12
          try clear p2
          obtain ⟨x33_2, rfl, HA, HK2, HB⟩ := hrel
          cases gk with
          | zero => exact absurd HA.out (by simp [crossbucklaw16_RegionParts.l0])
          | succ k2 =>
            have H := HA.out
            clear HA
            simp only [crossbucklaw16_RegionParts.l0] at H
            by_cases c13 : x33_2 < t122
            · rw [if_pos c13] at H
              have c13b0 : decide (x33_2 < t122) = true := decide_eq_true c13
              clear c13
              replace H := Option.bind_eq_some_iff.mp H
              obtain ⟨⟨t132, t133⟩, A140, H⟩ := H
              replace H : ((crossbuckref03_Right.f k2 t132 t133).bind fun t135 => (if t135 = true then ((crossbuckref03_Has.f k2 t132 t133 a1).bind fun t136 => ((region_Index.f a0 a1).bind fun t137 => (if (t136 != (x33_2 == t137)) = true then (some false) else (crossbucklaw16_RegionParts.l0 k2 a0 a1 a2 t122 t122 (wrap64 (x33_2 + 1)))))) else (some false))) = some r := H
              have A14 := Aside0.mk A140
              clear A140
              replace H := Option.bind_eq_some_iff.mp H
              obtain ⟨t135, A150, H⟩ := H
              replace H : (if t135 = true then ((crossbuckref03_Has.f k2 t132 t133 a1).bind fun t136 => ((region_Index.f a0 a1).bind fun t137 => (if (t136 != (x33_2 == t137)) = true then (some false) else (crossbucklaw16_RegionParts.l0 k2 a0 a1 a2 t122 t122 (wrap64 (x33_2 + 1)))))) else (some false)) = some r := H
              have A15 := Aside0.mk A150
              clear A150
              by_cases c16 : t135 = true
              · subst c16
                have H1 : ((crossbuckref03_Has.f k2 t132 t133 a1).bind fun t136 => ((region_Index.f a0 a1).bind fun t137 => (if (t136 != (x33_2 == t137)) = true then (some false) else (crossbucklaw16_RegionParts.l0 k2 a0 a1 a2 t122 t122 (wrap64 (x33_2 + 1)))))) = some r := by rw [if_pos rfl] at H; exact H
                clear H
                have H := H1
                clear H1
                replace H := Option.bind_eq_some_iff.mp H
                obtain ⟨t136, A170, H⟩ := H
                replace H : ((region_Index.f a0 a1).bind fun t137 => (if (t136 != (x33_2 == t137)) = true then (some false) else (crossbucklaw16_RegionParts.l0 k2 a0 a1 a2 t122 t122 (wrap64 (x33_2 + 1))))) = some r := H
                have A17 := Aside0.mk A170
                clear A170
                replace H := Option.bind_eq_some_iff.mp H
                obtain ⟨t137, A180, H⟩ := H
                replace H : (if (t136 != (x33_2 == t137)) = true then (some false) else (crossbucklaw16_RegionParts.l0 k2 a0 a1 a2 t122 t122 (wrap64 (x33_2 + 1)))) = some r := H
                have A18 := Aside0.mk A180
                clear A180
                by_cases c19 : (t136 != (x33_2 == t137)) = true
                · rw [if_pos c19] at H
                  have c19b0 : (t136 != (x33_2 == t137)) = true := c19
                  (try (have c19b1 : decide (t136 = (x33_2 == t137)) = false := by simpa using c19))
                  (try (have c19b2 : (t136 == (x33_2 == t137)) = false := by simpa using c19))
                  (try (have c19b3 : ¬ (t136 = (x33_2 == t137)) := by simpa using c19))
                  clear c19
                  exact absurd ((Option.some.inj H).trans hT.out) (by decide)
                · rw [if_neg c19] at H
                  have c19b0 : (t136 != (x33_2 == t137)) = false := by simpa using c19
                  (try (have c19b1 : decide (t136 = (x33_2 == t137)) = true := by simpa using c19))
                  (try (have c19b2 : (t136 == (x33_2 == t137)) = true := by simpa using c19))
                  clear c19
                  have H' := Aside0.mk H
                  clear H
                  go_wp2_with (first | ((with_reducible refine gate_callee (f := 19) rfl ?_); refine goesL_ (some 38) rfl rfl Try.func19 (by kernel_rfl) rfl #[.int .i64 a0, .int .i64 x33_2] rfl (by (try simp only [List.map_toArray, List.map_cons, List.map_nil]); first | done | rfl | (simp only [List.length_drop, List.length_take]; rfl)) ?_; (with_reducible refine (region_Prefix.calls a0 x33_2 t132 t133 _ A14.out).mono ?_); rintro e w20 ⟨rfl, hb⟩; refine ⟨_, rfl, ?_⟩; have n0_ := Aside0.mk (below_step (by repeat (first | (with_reducible first | exact HB.out | apply below_alloc | apply pw_below_drewN | apply below_drew1) | exact HB.out)) hb); clear HB; have HB := n0_; clear n0_; (try clear hb); (try clear hb2); (try clear hk); (try clear hi)) | ((with_reducible refine gate_dst (N := 9) rfl ?_); refine box_event ?hg (N := 9) ?hd (cs := #[.int .u32 0, .int .i64 0]) (t := 37) ?hr ?_; (case hd => rfl); (case hg => rfl); (case hr => first | (go_simp; done) | (go_simp; rfl)); intro gb134 hg w21 hbox hb; have n0_ := Aside0.mk (below_step (by repeat (first | (with_reducible first | exact HB.out | apply below_alloc | apply pw_below_drewN | apply below_drew1) | exact HB.out)) hb); have n1_ := Aside0.mk (hbox); have n2_ := Aside0.mk ((by rw [hg]; exact (below_size (by repeat (first | (with_reducible first | exact HB.out | apply below_alloc | apply pw_below_drewN | apply below_drew1) | exact HB.out))) : w.heap.size ≤ gb134)); have n3_ := Aside0.mk ((by rw [hg]; exact (below_size (by repeat (first | (with_reducible first | exact HB.out | apply below_alloc | apply pw_below_drewN | apply below_drew1) | exact HB.out))) : w.heap.size ≤ gb134)); clear HB; have HB := n0_; have BK134 := n1_; have GW134 := n2_; have GE134 := n3_; clear n0_ n1_ n2_ n3_; clear hb hbox hg; have hcz22_0 : w21.cell? ⟨gb134, 0, none⟩ = some (.int .u32 0) := (blk_cell BK134.out 0).trans rfl; have hcz22_1 : w21.cell? ⟨gb134, 1, none⟩ = some (.int .i64 0) := (blk_cell BK134.out 1).trans rfl; have hfz22_0 := blk_frozen BK134.out 0; have hfz22_1 := blk_frozen BK134.out 1) | ((with_reducible refine gate_callee (f := 20) rfl ?_); refine goesL_ (some 40) rfl rfl Try.func20 (by kernel_rfl) rfl #[.agg #[.int .u32 t132, .int .i64 t133]] rfl (by (try simp only [List.map_toArray, List.map_cons, List.map_nil]); first | done | rfl | (simp only [List.length_drop, List.length_take]; rfl)) ?_; (with_reducible refine (crossbuckref03_Right.calls k2 t132 t133 true _ A15.out).mono ?_); rintro e w23 ⟨rfl, hb⟩; refine ⟨_, rfl, ?_⟩; have n0_ := Aside0.mk (blk_below (g := gb134) (o := .cells #[.int .u32 t132, .int .i64 t133] 37 (0, 0)) (by (with_reducible repeat (first | refine blk_drewN ?_ _ | refine blk_drew ?_ | refine blk_alloc ?_ _)); refine blk_put (cs := #[.int .u32 t132, .int .i64 0]) ?_ 1 _ rfl; (with_reducible repeat (first | refine blk_drewN ?_ _ | refine blk_drew ?_ | refine blk_alloc ?_ _)); refine blk_put (cs := #[.int .u32 0, .int .i64 0]) ?_ 0 _ rfl; (with_reducible repeat (first | refine blk_drewN ?_ _ | refine blk_drew ?_ | refine blk_alloc ?_ _)); exact BK134.out) hb); have n1_ := Aside0.mk (below_step (by repeat (first | (with_reducible first | exact HB.out | apply below_alloc | apply pw_below_drewN | apply below_drew1 | refine below_set ?_ GE134.out) | exact HB.out)) hb); clear BK134; clear HB; have BK134 := n0_; have HB := n1_; clear n0_ n1_; (try clear hb); (try clear hb2); (try clear hk); (try clear hi); have hcz24_0 : w23.cell? ⟨gb134, 0, none⟩ = some (.int .u32 t132) := (blk_cell BK134.out 0).trans rfl; have hcz24_1 : w23.cell? ⟨gb134, 1, none⟩ = some (.int .i64 t133) := (blk_cell BK134.out 1).trans rfl; have hfz24_0 := blk_frozen BK134.out 0; have hfz24_1 := blk_frozen BK134.out 1) | (go_at_call 21; (with_reducible refine (crossbuckref03_Has.calls k2 t132 t133 a1 t136 _ A17.out).mono ?_); rintro e w25 ⟨rfl, hb⟩; have n0_ := Aside0.mk (blk_below (g := gb134) (o := .cells #[.int .u32 t132, .int .i64 t133] 37 (0, 0)) (by (with_reducible repeat (first | refine blk_drewN ?_ _ | refine blk_drew ?_ | refine blk_alloc ?_ _)); exact BK134.out) hb); have n1_ := Aside0.mk (below_step (by repeat (first | (with_reducible first | exact HB.out | apply below_alloc | apply pw_below_drewN | apply below_drew1 | refine below_set ?_ GE134.out) | exact HB.out)) hb); clear BK134; clear HB; have BK134 := n0_; have HB := n1_; clear n0_ n1_; (try clear hb); (try clear hb2); (try clear hk); (try clear hi)) | (go_at_call 17; (with_reducible refine (region_Index.calls a0 a1 t137 _ A18.out).mono ?_); rintro e w' ⟨rfl, ⟨nd, rfl⟩⟩))
                  go_roundg k2
                  case measure => have := HJ4.out; have := HK2.out; omega
                  case rel => exact ⟨(wrap64 (x33_2 + 1)), (by first | rfl | (simp; done) | (simp [*]; done)), H', ⟨by have := HJ4.out; have := HK2.out; omega⟩, ⟨by repeat (first | (with_reducible first | exact HB.out | apply below_alloc | apply pw_below_drewN | apply below_drew1 | refine below_set ?_ GE134.out) | exact HB.out)⟩⟩
              · replace c16 := Bool.eq_false_iff.mpr c16
                subst c16
                have H1 : (some false) = some r := by rw [if_neg (show ¬ (false = true) by decide)] at H; exact H
                clear H
                have H := H1
                clear H1
                exact absurd ((Option.some.inj H).trans hT.out) (by decide)
            · rw [if_neg c13] at H
              have c13b0 : decide (x33_2 < t122) = false := decide_eq_false c13
              clear c13
              replace H := Option.bind_eq_some_iff.mp H
              obtain ⟨t127, A260, H⟩ := H
              replace H : (if t127 = true then (if a2 ≥ 0 then (if a2 < t122 then (some true) else ((region_Prefix.f a0 a2).bind fun bt128 => (some (bt128.1 == 0 && (bt128.2 == 0))))) else ((region_Prefix.f a0 a2).bind fun bt130 => (some (bt130.1 == 0 && (bt130.2 == 0))))) else (some false)) = some r := H
              have A26 := Aside0.mk A260
              clear A260
              by_cases c27 : t127 = true
              · subst c27
                have H1 : (if a2 ≥ 0 then (if a2 < t122 then (some true) else ((region_Prefix.f a0 a2).bind fun bt128 => (some (bt128.1 == 0 && (bt128.2 == 0))))) else ((region_Prefix.f a0 a2).bind fun bt130 => (some (bt130.1 == 0 && (bt130.2 == 0))))) = some r := by rw [if_pos rfl] at H; exact H
                clear H
                have H := H1
                clear H1
                by_cases c28 : a2 ≥ 0
                · rw [if_pos c28] at H
                  have c28b0 : decide (0 ≤ a2) = true := decide_eq_true c28
                  clear c28
                  by_cases c29 : a2 < t122
                  · rw [if_pos c29] at H
                    have c29b0 : decide (a2 < t122) = true := decide_eq_true c29
                    clear c29
                    obtain rfl := Option.some.inj H
                    go_wp2_with (first | ((with_reducible refine gate_callee (f := 22) rfl ?_); refine goesL_ (some 54) rfl rfl Try.func22 (by kernel_rfl) rfl #[] rfl (by (try simp only [List.map_toArray, List.map_cons, List.map_nil]); first | done | rfl | (simp only [List.length_drop, List.length_take]; rfl)) ?_; (with_reducible refine (crossbucklaw16_awake.calls  true _ A26.out).mono ?_); rintro e w30 ⟨rfl, hb⟩; refine ⟨_, rfl, ?_⟩; have n0_ := Aside0.mk (below_step (by repeat (first | (with_reducible first | exact HB.out | apply below_alloc | apply pw_below_drewN | apply below_drew1) | exact HB.out)) hb); clear HB; have HB := n0_; clear n0_; (try clear hb); (try clear hb2); (try clear hk); (try clear hi)))
                    go_ret
                    exact ⟨by first | rfl | (simp [errW_none, errW_some] <;> rfl) | (simp [*, errW_none, errW_some] <;> rfl), by repeat (first | (with_reducible first | exact HB.out | apply below_alloc | apply pw_below_drewN | apply below_drew1) | exact HB.out)⟩
                  · rw [if_neg c29] at H
                    have c29b0 : decide (a2 < t122) = false := decide_eq_false c29
                    clear c29
                    replace H := Option.bind_eq_some_iff.mp H
                    obtain ⟨⟨t128, t129⟩, A310, H⟩ := H
                    replace H : (some (t128 == 0 && (t129 == 0))) = some r := H
                    have A31 := Aside0.mk A310
                    clear A310
                    obtain rfl := Option.some.inj H
                    go_wp2_with (first | ((with_reducible refine gate_callee (f := 22) rfl ?_); refine goesL_ (some 54) rfl rfl Try.func22 (by kernel_rfl) rfl #[] rfl (by (try simp only [List.map_toArray, List.map_cons, List.map_nil]); first | done | rfl | (simp only [List.length_drop, List.length_take]; rfl)) ?_; (with_reducible refine (crossbucklaw16_awake.calls  true _ A26.out).mono ?_); rintro e w32 ⟨rfl, hb⟩; refine ⟨_, rfl, ?_⟩; have n0_ := Aside0.mk (below_step (by repeat (first | (with_reducible first | exact HB.out | apply below_alloc | apply pw_below_drewN | apply below_drew1) | exact HB.out)) hb); clear HB; have HB := n0_; clear n0_; (try clear hb); (try clear hb2); (try clear hk); (try clear hi)) | (go_at_call 19; (with_reducible refine (region_Prefix.calls a0 a2 t128 t129 _ A31.out).mono ?_); rintro e w33 ⟨rfl, hb⟩; have n0_ := Aside0.mk (below_step (by repeat (first | (with_reducible first | exact HB.out | apply below_alloc | apply pw_below_drewN | apply below_drew1) | exact HB.out)) hb); clear HB; have HB := n0_; clear n0_; (try clear hb); (try clear hb2); (try clear hk); (try clear hi)))
                    go_ret
                    exact ⟨by first | rfl | (simp [errW_none, errW_some] <;> rfl) | (simp [*, errW_none, errW_some] <;> rfl), by repeat (first | (with_reducible first | exact HB.out | apply below_alloc | apply pw_below_drewN | apply below_drew1) | exact HB.out)⟩
                · rw [if_neg c28] at H
                  have c28b0 : decide (0 ≤ a2) = false := decide_eq_false c28
                  clear c28
                  replace H := Option.bind_eq_some_iff.mp H
                  obtain ⟨⟨t130, t131⟩, A340, H⟩ := H
                  replace H : (some (t130 == 0 && (t131 == 0))) = some r := H
                  have A34 := Aside0.mk A340
                  clear A340
                  obtain rfl := Option.some.inj H
                  go_wp2_with (first | ((with_reducible refine gate_callee (f := 22) rfl ?_); refine goesL_ (some 54) rfl rfl Try.func22 (by kernel_rfl) rfl #[] rfl (by (try simp only [List.map_toArray, List.map_cons, List.map_nil]); first | done | rfl | (simp only [List.length_drop, List.length_take]; rfl)) ?_; (with_reducible refine (crossbucklaw16_awake.calls  true _ A26.out).mono ?_); rintro e w35 ⟨rfl, hb⟩; refine ⟨_, rfl, ?_⟩; have n0_ := Aside0.mk (below_step (by repeat (first | (with_reducible first | exact HB.out | apply below_alloc | apply pw_below_drewN | apply below_drew1) | exact HB.out)) hb); clear HB; have HB := n0_; clear n0_; (try clear hb); (try clear hb2); (try clear hk); (try clear hi)) | (go_at_call 19; (with_reducible refine (region_Prefix.calls a0 a2 t130 t131 _ A34.out).mono ?_); rintro e w36 ⟨rfl, hb⟩; have n0_ := Aside0.mk (below_step (by repeat (first | (with_reducible first | exact HB.out | apply below_alloc | apply pw_below_drewN | apply below_drew1) | exact HB.out)) hb); clear HB; have HB := n0_; clear n0_; (try clear hb); (try clear hb2); (try clear hk); (try clear hi)))
                  go_ret
                  exact ⟨by first | rfl | (simp [errW_none, errW_some] <;> rfl) | (simp [*, errW_none, errW_some] <;> rfl), by repeat (first | (with_reducible first | exact HB.out | apply below_alloc | apply pw_below_drewN | apply below_drew1) | exact HB.out)⟩
              · replace c27 := Bool.eq_false_iff.mpr c27
                subst c27
                have H1 : (some false) = some r := by rw [if_neg (show ¬ (false = true) by decide)] at H; exact H
                clear H
                have H := H1
                clear H1
                exact absurd ((Option.some.inj H).trans hT.out) (by decide)

/-- THE ONE PURE STATEMENT of crossbucklaw16_RegionParts: yours. -/
def crossbucklaw16_RegionParts.Pure : Prop := ∀ (a0 : Int) (a1 : Int) (a2 : Int), (Lit.int .i64 a0).wf = true → (Lit.int .u32 a1).wf = true → (Lit.int .i64 a2).wf = true → ∃ k, crossbucklaw16_RegionParts.f k a0 a1 a2 = some true
theorem crossbucklaw16_RegionParts.walk (P : crossbucklaw16_RegionParts.Pure) (a0 : Int) (a1 : Int) (a2 : Int) (w : World) (w0 : (Lit.int .i64 a0).wf = true) (w1 : (Lit.int .u32 a1).wf = true) (w2 : (Lit.int .i64 a2).wf = true) :
    Calls Try.prog 5 #[.int .i64 a0, .int .u32 a1, .int .i64 a2] w fun e w' => e = .returned (.bool true) ∧ Below w.heap.size w w' := by
  obtain ⟨k, h⟩ := P a0 a1 a2 w0 w1 w2
  refine (crossbucklaw16_RegionParts.calls k a0 a1 a2 true w h (Aside0.mk rfl)).mono ?_
  rintro e w' ⟨rfl, hd⟩
  exact ⟨rfl, hd⟩

end Go.Proofs.Ytbnjbjjbfbbdcaa.PAll
