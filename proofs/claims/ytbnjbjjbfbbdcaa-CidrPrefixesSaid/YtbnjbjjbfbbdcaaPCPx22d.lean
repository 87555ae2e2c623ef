-- Written by wip/myprint.py (this session's own driver); Lean checks it.
import Derived.Test.YtbnjbjjbfbbdcaaPCPx0
import Derived.Test.YtbnjbjjbfbbdcaaPCPx2
import Derived.Test.YtbnjbjjbfbbdcaaPCPx4
import Derived.Test.YtbnjbjjbfbbdcaaPCPx6
import Derived.Test.YtbnjbjjbfbbdcaaPCPx7
import Derived.Test.YtbnjbjjbfbbdcaaPCPx9
import Derived.Test.YtbnjbjjbfbbdcaaPCPx10
import Derived.Test.YtbnjbjjbfbbdcaaPCPx11
import Derived.Test.YtbnjbjjbfbbdcaaPCPx12
import Derived.Test.YtbnjbjjbfbbdcaaPCPx13
import Derived.Test.YtbnjbjjbfbbdcaaPCPx14
import Derived.Test.YtbnjbjjbfbbdcaaPCPx15
import Derived.Test.YtbnjbjjbfbbdcaaPCPx21
namespace Go.Proofs.Ytbnjbjjbfbbdcaa.PCP
open Go.RowKit Go.Proofs.YtbnjbjjbfbbdcaaW.PrintWords Go.Proofs.YtbnjbjjbfbbdcaaW.PrintLast Go.Proofs.YtbnjbjjbfbbdcaaW.PrintMore
attribute [local go_sem] max2_int min2_int max_two min_two max_three min_three max_four min_four   -- for this text's walks alone
set_option linter.unusedVariables false
set_option linter.unusedSimpArgs false

attribute [local go_sem high] eqA37
/-! ### crossbucklaw03_CidrPrefixes: function 10 -/
mutual
def crossbucklaw03_CidrPrefixes.j0 : Nat → Int → Bool → Int → Int → Int → Int → Option (Bool)
  | 0, _, _, _, _, _, _ => none
  | k + 1, x2, x61, x147000, x147001, x148000, x148001 => if x61 = true then (some false) else ((crossbuckref03_Right.f k x147000 x147001).bind fun t155 => (if t155 = true then ((crossbuckref03_Right.f k x148000 x148001).bind fun t156 => (crossbucklaw03_CidrPrefixes.j1 k x2 (!t156) x147000 x147001 x148000 x148001)) else (crossbucklaw03_CidrPrefixes.j1 k x2 true x147000 x147001 x148000 x148001)))
def crossbucklaw03_CidrPrefixes.j1 : Nat → Int → Bool → Int → Int → Int → Int → Option (Bool)
  | 0, _, _, _, _, _, _ => none
  | k + 1, x2, x69, x147000, x147001, x148000, x148001 => if x69 = true then ((crossbucklaw03_awake.f k).bind fun t157 => (some t157)) else (if x147001 ≥ x148001 then ((crossbuckref03_Has.f k x148000 x148001 x147000).bind fun t158 => (crossbucklaw03_CidrPrefixes.j2 k x2 t158 x147000 x147001 x148000 x148001)) else (crossbucklaw03_CidrPrefixes.j2 k x2 false x147000 x147001 x148000 x148001))
def crossbucklaw03_CidrPrefixes.j2 : Nat → Int → Bool → Int → Int → Int → Int → Option (Bool)
  | 0, _, _, _, _, _, _ => none
  | k + 1, x2, x10, x147000, x147001, x148000, x148001 => if x148001 ≥ x147001 then ((crossbuckref03_Has.f k x147000 x147001 x148000).bind fun t159 => (crossbucklaw03_CidrPrefixes.j3 k x2 x10 t159 x147000 x147001 x148000 x148001)) else (crossbucklaw03_CidrPrefixes.j3 k x2 x10 false x147000 x147001 x148000 x148001)
def crossbucklaw03_CidrPrefixes.j3 : Nat → Int → Bool → Bool → Int → Int → Int → Int → Option (Bool)
  | 0, _, _, _, _, _, _, _ => none
  | k + 1, x2, x10, x11, x147000, x147001, x148000, x148001 => if x147000 < x148000 then (crossbucklaw03_CidrPrefixes.j4 k x2 x10 x11 0 true x147000 x147001 x148000 x148001) else (if x147000 = x148000 then (crossbucklaw03_CidrPrefixes.j4 k x2 x10 x11 0 (decide (x147001 < x148001)) x147000 x147001 x148000 x148001) else (crossbucklaw03_CidrPrefixes.j4 k x2 x10 x11 0 false x147000 x147001 x148000 x148001))
def crossbucklaw03_CidrPrefixes.j4 : Nat → Int → Bool → Bool → Int → Bool → Int → Int → Int → Int → Option (Bool)
  | 0, _, _, _, _, _, _, _, _, _ => none
  | k + 1, x2, x10, x11, x12, x111, x147000, x147001, x148000, x148001 => if x111 = true then (crossbucklaw03_CidrPrefixes.j5 k x2 x10 x11 (-1) x147000 x147001 x148000 x148001) else (if (!(x147000 == x148000) || (!(x147001 == x148001))) = true then (crossbucklaw03_CidrPrefixes.j5 k x2 x10 x11 1 x147000 x147001 x148000 x148001) else (crossbucklaw03_CidrPrefixes.j5 k x2 x10 x11 x12 x147000 x147001 x148000 x148001))
def crossbucklaw03_CidrPrefixes.j5 : Nat → Int → Bool → Bool → Int → Int → Int → Int → Int → Option (Bool)
  | 0, _, _, _, _, _, _, _, _ => none
  | k + 1, x2, x10, x11, x12, x147000, x147001, x148000, x148001 => (crossbucklaw03_awake.f k).bind fun t160 => (if t160 = true then ((cidr_Has.f x147000 x147001 x2).bind fun t161 => ((crossbuckref03_Has.f k x147000 x147001 x2).bind fun t162 => (if (t161 == t162) = true then ((cidr_Last.f x147000 x147001).bind fun t163 => ((crossbuckref03_Last.f k x147000 x147001).bind fun t164 => (if t163 = t164 then ((cidr_Within.f x147000 x147001 x148000 x148001).bind fun t165 => (if (t165 == x10) = true then ((cidr_Meet.f x147000 x147001 x148000 x148001).bind fun t166 => (if x10 = true then (if (t166 == true) = true then ((cidr_Compare.f k x147000 x147001 x148000 x148001).bind fun t167 => (some (t167 == x12))) else (some false)) else (if (t166 == x11) = true then ((cidr_Compare.f k x147000 x147001 x148000 x148001).bind fun t168 => (some (t168 == x12))) else (some false)))) else (some false))) else (some false)))) else (some false)))) else (some false))
end
def crossbucklaw03_CidrPrefixes.f (k : Nat) (a0_0 : Int) (a0_1 : Int) (a1_0 : Int) (a1_1 : Int) (a2 : Int) (a3 : Int) : Option (Bool) := (cidr_Right.f a0_0 a0_1).bind fun t148 => ((crossbuckref03_Right.f k a0_0 a0_1).bind fun t149 => (if (t148 != t149) = true then (some false) else ((cidr_Of.f a2 a3).bind fun bt150 => ((crossbuckref03_Right.f k bt150.1 bt150.2).bind fun t153 => (if t153 = true then ((crossbuckref03_Has.f k bt150.1 bt150.2 a2).bind fun t154 => (if t154 = true then (if a3 ≥ 0 then (if a3 ≤ 32 then (if bt150.2 = a3 then (if a3 < 0 then (if bt150.2 = 0 then (if a3 > 32 then (crossbucklaw03_CidrPrefixes.j0 k a2 (bt150.2 != 32) a0_0 a0_1 a1_0 a1_1) else (crossbucklaw03_CidrPrefixes.j0 k a2 false a0_0 a0_1 a1_0 a1_1)) else (crossbucklaw03_CidrPrefixes.j0 k a2 true a0_0 a0_1 a1_0 a1_1)) else (if a3 > 32 then (crossbucklaw03_CidrPrefixes.j0 k a2 (bt150.2 != 32) a0_0 a0_1 a1_0 a1_1) else (crossbucklaw03_CidrPrefixes.j0 k a2 false a0_0 a0_1 a1_0 a1_1))) else (crossbucklaw03_CidrPrefixes.j0 k a2 true a0_0 a0_1 a1_0 a1_1)) else (if a3 < 0 then (if bt150.2 = 0 then (if a3 > 32 then (crossbucklaw03_CidrPrefixes.j0 k a2 (bt150.2 != 32) a0_0 a0_1 a1_0 a1_1) else (crossbucklaw03_CidrPrefixes.j0 k a2 false a0_0 a0_1 a1_0 a1_1)) else (crossbucklaw03_CidrPrefixes.j0 k a2 true a0_0 a0_1 a1_0 a1_1)) else (if a3 > 32 then (crossbucklaw03_CidrPrefixes.j0 k a2 (bt150.2 != 32) a0_0 a0_1 a1_0 a1_1) else (crossbucklaw03_CidrPrefixes.j0 k a2 false a0_0 a0_1 a1_0 a1_1)))) else (if a3 < 0 then (if bt150.2 = 0 then (if a3 > 32 then (crossbucklaw03_CidrPrefixes.j0 k a2 (bt150.2 != 32) a0_0 a0_1 a1_0 a1_1) else (crossbucklaw03_CidrPrefixes.j0 k a2 false a0_0 a0_1 a1_0 a1_1)) else (crossbucklaw03_CidrPrefixes.j0 k a2 true a0_0 a0_1 a1_0 a1_1)) else (if a3 > 32 then (crossbucklaw03_CidrPrefixes.j0 k a2 (bt150.2 != 32) a0_0 a0_1 a1_0 a1_1) else (crossbucklaw03_CidrPrefixes.j0 k a2 false a0_0 a0_1 a1_0 a1_1)))) else (crossbucklaw03_CidrPrefixes.j0 k a2 true a0_0 a0_1 a1_0 a1_1))) else (crossbucklaw03_CidrPrefixes.j0 k a2 true a0_0 a0_1 a1_0 a1_1))))))
theorem crossbucklaw03_CidrPrefixes.mono_l : ∀ k, (∀ y0 y1 y2 y3 y4 y5, LeO (crossbucklaw03_CidrPrefixes.j0 k y0 y1 y2 y3 y4 y5) (crossbucklaw03_CidrPrefixes.j0 (k + 1) y0 y1 y2 y3 y4 y5)) ∧ (∀ y0 y1 y2 y3 y4 y5, LeO (crossbucklaw03_CidrPrefixes.j1 k y0 y1 y2 y3 y4 y5) (crossbucklaw03_CidrPrefixes.j1 (k + 1) y0 y1 y2 y3 y4 y5)) ∧ (∀ y0 y1 y2 y3 y4 y5, LeO (crossbucklaw03_CidrPrefixes.j2 k y0 y1 y2 y3 y4 y5) (crossbucklaw03_CidrPrefixes.j2 (k + 1) y0 y1 y2 y3 y4 y5)) ∧ (∀ y0 y1 y2 y3 y4 y5 y6, LeO (crossbucklaw03_CidrPrefixes.j3 k y0 y1 y2 y3 y4 y5 y6) (crossbucklaw03_CidrPrefixes.j3 (k + 1) y0 y1 y2 y3 y4 y5 y6)) ∧ (∀ y0 y1 y2 y3 y4 y5 y6 y7 y8, LeO (crossbucklaw03_CidrPrefixes.j4 k y0 y1 y2 y3 y4 y5 y6 y7 y8) (crossbucklaw03_CidrPrefixes.j4 (k + 1) y0 y1 y2 y3 y4 y5 y6 y7 y8)) ∧ (∀ y0 y1 y2 y3 y4 y5 y6 y7, LeO (crossbucklaw03_CidrPrefixes.j5 k y0 y1 y2 y3 y4 y5 y6 y7) (crossbucklaw03_CidrPrefixes.j5 (k + 1) y0 y1 y2 y3 y4 y5 y6 y7))
  | 0 => ⟨fun _ _ _ _ _ _ r h => by simp [crossbucklaw03_CidrPrefixes.j0] at h, fun _ _ _ _ _ _ r h => by simp [crossbucklaw03_CidrPrefixes.j1] at h, fun _ _ _ _ _ _ r h => by simp [crossbucklaw03_CidrPrefixes.j2] at h, fun _ _ _ _ _ _ _ r h => by simp [crossbucklaw03_CidrPrefixes.j3] at h, fun _ _ _ _ _ _ _ _ _ r h => by simp [crossbucklaw03_CidrPrefixes.j4] at h, fun _ _ _ _ _ _ _ _ r h => by simp [crossbucklaw03_CidrPrefixes.j5] at h⟩
  | k + 1 => by
    obtain ⟨ih0, ih1, ih2, ih3, ih4, ih5⟩ := crossbucklaw03_CidrPrefixes.mono_l k
    refine ⟨?_, ?_, ?_, ?_, ?_, ?_⟩
    · intro y0 y1 y2 y3 y4 y5
      unfold crossbucklaw03_CidrPrefixes.j0
      repeat' first
      | (with_reducible exact ih0 _ _ _ _ _ _)
      | (with_reducible exact ih1 _ _ _ _ _ _)
      | (with_reducible exact ih2 _ _ _ _ _ _)
      | (with_reducible exact ih3 _ _ _ _ _ _ _)
      | (with_reducible exact ih4 _ _ _ _ _ _ _ _ _)
      | (with_reducible exact ih5 _ _ _ _ _ _ _ _)
      | (with_reducible exact cidr_Compare.mono _ _ _ _ _)
      | (with_reducible exact crossbucklaw03_awake.mono _)
      | (with_reducible exact crossbuckref03_Has.mono _ _ _ _)
      | (with_reducible exact crossbuckref03_Last.mono _ _ _)
      | (with_reducible exact crossbuckref03_Right.mono _ _ _)
      | (with_reducible exact LeO.refl _)
      | (with_reducible exact LeO.none _)
      | (with_reducible refine LeO.ite ?_ ?_)
      | (with_reducible refine LeO.bind ?_ (fun _ => ?_))
      | exact ih0 _ _ _ _ _ _
      | exact ih1 _ _ _ _ _ _
      | exact ih2 _ _ _ _ _ _
      | exact ih3 _ _ _ _ _ _ _
      | exact ih4 _ _ _ _ _ _ _ _ _
      | exact ih5 _ _ _ _ _ _ _ _
      | exact cidr_Compare.mono _ _ _ _ _
      | exact crossbucklaw03_awake.mono _
      | exact crossbuckref03_Has.mono _ _ _ _
      | exact crossbuckref03_Last.mono _ _ _
      | exact crossbuckref03_Right.mono _ _ _
      | exact LeO.none _
      | refine LeO.ite ?_ ?_
      | refine LeO.bind ?_ (fun _ => ?_)
    · intro y0 y1 y2 y3 y4 y5
      unfold crossbucklaw03_CidrPrefixes.j1
      repeat' first
      | (with_reducible exact ih0 _ _ _ _ _ _)
      | (with_reducible exact ih1 _ _ _ _ _ _)
      | (with_reducible exact ih2 _ _ _ _ _ _)
      | (with_reducible exact ih3 _ _ _ _ _ _ _)
      | (with_reducible exact ih4 _ _ _ _ _ _ _ _ _)
      | (with_reducible exact ih5 _ _ _ _ _ _ _ _)
      | (with_reducible exact cidr_Compare.mono _ _ _ _ _)
      | (with_reducible exact crossbucklaw03_awake.mono _)
      | (with_reducible exact crossbuckref03_Has.mono _ _ _ _)
      | (with_reducible exact crossbuckref03_Last.mono _ _ _)
      | (with_reducible exact crossbuckref03_Right.mono _ _ _)
      | (with_reducible exact LeO.refl _)
      | (with_reducible exact LeO.none _)
      | (with_reducible refine LeO.ite ?_ ?_)
      | (with_reducible refine LeO.bind ?_ (fun _ => ?_))
      | exact ih0 _ _ _ _ _ _
      | exact ih1 _ _ _ _ _ _
      | exact ih2 _ _ _ _ _ _
      | exact ih3 _ _ _ _ _ _ _
      | exact ih4 _ _ _ _ _ _ _ _ _
      | exact ih5 _ _ _ _ _ _ _ _
      | exact cidr_Compare.mono _ _ _ _ _
      | exact crossbucklaw03_awake.mono _
      | exact crossbuckref03_Has.mono _ _ _ _
      | exact crossbuckref03_Last.mono _ _ _
      | exact crossbuckref03_Right.mono _ _ _
      | exact LeO.none _
      | refine LeO.ite ?_ ?_
      | refine LeO.bind ?_ (fun _ => ?_)
    · intro y0 y1 y2 y3 y4 y5
      unfold crossbucklaw03_CidrPrefixes.j2
      repeat' first
      | (with_reducible exact ih0 _ _ _ _ _ _)
      | (with_reducible exact ih1 _ _ _ _ _ _)
      | (with_reducible exact ih2 _ _ _ _ _ _)
      | (with_reducible exact ih3 _ _ _ _ _ _ _)
      | (with_reducible exact ih4 _ _ _ _ _ _ _ _ _)
      | (with_reducible exact ih5 _ _ _ _ _ _ _ _)
      | (with_reducible exact cidr_Compare.mono _ _ _ _ _)
      | (with_reducible exact crossbucklaw03_awake.mono _)
      | (with_reducible exact crossbuckref03_Has.mono _ _ _ _)
      | (with_reducible exact crossbuckref03_Last.mono _ _ _)
      | (with_reducible exact crossbuckref03_Right.mono _ _ _)
      | (with_reducible exact LeO.refl _)
      | (with_reducible exact LeO.none _)
      | (with_reducible refine LeO.ite ?_ ?_)
      | (with_reducible refine LeO.bind ?_ (fun _ => ?_))
      | exact ih0 _ _ _ _ _ _
      | exact ih1 _ _ _ _ _ _
      | exact ih2 _ _ _ _ _ _
      | exact ih3 _ _ _ _ _ _ _
      | exact ih4 _ _ _ _ _ _ _ _ _
      | exact ih5 _ _ _ _ _ _ _ _
      | exact cidr_Compare.mono _ _ _ _ _
      | exact crossbucklaw03_awake.mono _
      | exact crossbuckref03_Has.mono _ _ _ _
      | exact crossbuckref03_Last.mono _ _ _
      | exact crossbuckref03_Right.mono _ _ _
      | exact LeO.none _
      | refine LeO.ite ?_ ?_
      | refine LeO.bind ?_ (fun _ => ?_)
    · intro y0 y1 y2 y3 y4 y5 y6
      unfold crossbucklaw03_CidrPrefixes.j3
      repeat' first
      | (with_reducible exact ih0 _ _ _ _ _ _)
      | (with_reducible exact ih1 _ _ _ _ _ _)
      | (with_reducible exact ih2 _ _ _ _ _ _)
      | (with_reducible exact ih3 _ _ _ _ _ _ _)
      | (with_reducible exact ih4 _ _ _ _ _ _ _ _ _)
      | (with_reducible exact ih5 _ _ _ _ _ _ _ _)
      | (with_reducible exact cidr_Compare.mono _ _ _ _ _)
      | (with_reducible exact crossbucklaw03_awake.mono _)
      | (with_reducible exact crossbuckref03_Has.mono _ _ _ _)
      | (with_reducible exact crossbuckref03_Last.mono _ _ _)
      | (with_reducible exact crossbuckref03_Right.mono _ _ _)
      | (with_reducible exact LeO.refl _)
      | (with_reducible exact LeO.none _)
      | (with_reducible refine LeO.ite ?_ ?_)
      | (with_reducible refine LeO.bind ?_ (fun _ => ?_))
      | exact ih0 _ _ _ _ _ _
      | exact ih1 _ _ _ _ _ _
      | exact ih2 _ _ _ _ _ _
      | exact ih3 _ _ _ _ _ _ _
      | exact ih4 _ _ _ _ _ _ _ _ _
      | exact ih5 _ _ _ _ _ _ _ _
      | exact cidr_Compare.mono _ _ _ _ _
      | exact crossbucklaw03_awake.mono _
      | exact crossbuckref03_Has.mono _ _ _ _
      | exact crossbuckref03_Last.mono _ _ _
      | exact crossbuckref03_Right.mono _ _ _
      | exact LeO.none _
      | refine LeO.ite ?_ ?_
      | refine LeO.bind ?_ (fun _ => ?_)
    · intro y0 y1 y2 y3 y4 y5 y6 y7 y8
      unfold crossbucklaw03_CidrPrefixes.j4
      repeat' first
      | (with_reducible exact ih0 _ _ _ _ _ _)
      | (with_reducible exact ih1 _ _ _ _ _ _)
      | (with_reducible exact ih2 _ _ _ _ _ _)
      | (with_reducible exact ih3 _ _ _ _ _ _ _)
      | (with_reducible exact ih4 _ _ _ _ _ _ _ _ _)
      | (with_reducible exact ih5 _ _ _ _ _ _ _ _)
      | (with_reducible exact cidr_Compare.mono _ _ _ _ _)
      | (with_reducible exact crossbucklaw03_awake.mono _)
      | (with_reducible exact crossbuckref03_Has.mono _ _ _ _)
      | (with_reducible exact crossbuckref03_Last.mono _ _ _)
      | (with_reducible exact crossbuckref03_Right.mono _ _ _)
      | (with_reducible exact LeO.refl _)
      | (with_reducible exact LeO.none _)
      | (with_reducible refine LeO.ite ?_ ?_)
      | (with_reducible refine LeO.bind ?_ (fun _ => ?_))
      | exact ih0 _ _ _ _ _ _
      | exact ih1 _ _ _ _ _ _
      | exact ih2 _ _ _ _ _ _
      | exact ih3 _ _ _ _ _ _ _
      | exact ih4 _ _ _ _ _ _ _ _ _
      | exact ih5 _ _ _ _ _ _ _ _
      | exact cidr_Compare.mono _ _ _ _ _
      | exact crossbucklaw03_awake.mono _
      | exact crossbuckref03_Has.mono _ _ _ _
      | exact crossbuckref03_Last.mono _ _ _
      | exact crossbuckref03_Right.mono _ _ _
      | exact LeO.none _
      | refine LeO.ite ?_ ?_
      | refine LeO.bind ?_ (fun _ => ?_)
    · intro y0 y1 y2 y3 y4 y5 y6 y7
      unfold crossbucklaw03_CidrPrefixes.j5
      repeat' first
      | (with_reducible exact ih0 _ _ _ _ _ _)
      | (with_reducible exact ih1 _ _ _ _ _ _)
      | (with_reducible exact ih2 _ _ _ _ _ _)
      | (with_reducible exact ih3 _ _ _ _ _ _ _)
      | (with_reducible exact ih4 _ _ _ _ _ _ _ _ _)
      | (with_reducible exact ih5 _ _ _ _ _ _ _ _)
      | (with_reducible exact cidr_Compare.mono _ _ _ _ _)
      | (with_reducible exact crossbucklaw03_awake.mono _)
      | (with_reducible exact crossbuckref03_Has.mono _ _ _ _)
      | (with_reducible exact crossbuckref03_Last.mono _ _ _)
      | (with_reducible exact crossbuckref03_Right.mono _ _ _)
      | (with_reducible exact LeO.refl _)
      | (with_reducible exact LeO.none _)
      | (with_reducible refine LeO.ite ?_ ?_)
      | (with_reducible refine LeO.bind ?_ (fun _ => ?_))
      | exact ih0 _ _ _ _ _ _
      | exact ih1 _ _ _ _ _ _
      | exact ih2 _ _ _ _ _ _
      | exact ih3 _ _ _ _ _ _ _
      | exact ih4 _ _ _ _ _ _ _ _ _
      | exact ih5 _ _ _ _ _ _ _ _
      | exact cidr_Compare.mono _ _ _ _ _
      | exact crossbucklaw03_awake.mono _
      | exact crossbuckref03_Has.mono _ _ _ _
      | exact crossbuckref03_Last.mono _ _ _
      | exact crossbuckref03_Right.mono _ _ _
      | exact LeO.none _
      | refine LeO.ite ?_ ?_
      | refine LeO.bind ?_ (fun _ => ?_)
theorem crossbucklaw03_CidrPrefixes.mono : ∀ a0 a1 a2 a3 a4 a5 k, LeO (crossbucklaw03_CidrPrefixes.f k a0 a1 a2 a3 a4 a5) (crossbucklaw03_CidrPrefixes.f (k + 1) a0 a1 a2 a3 a4 a5) := by
  intro a0 a1 a2 a3 a4 a5 k
  obtain ⟨ih0, ih1, ih2, ih3, ih4, ih5⟩ := crossbucklaw03_CidrPrefixes.mono_l k
  unfold crossbucklaw03_CidrPrefixes.f
  repeat' first
      | (with_reducible exact ih0 _ _ _ _ _ _)
      | (with_reducible exact ih1 _ _ _ _ _ _)
      | (with_reducible exact ih2 _ _ _ _ _ _)
      | (with_reducible exact ih3 _ _ _ _ _ _ _)
      | (with_reducible exact ih4 _ _ _ _ _ _ _ _ _)
      | (with_reducible exact ih5 _ _ _ _ _ _ _ _)
      | (with_reducible exact cidr_Compare.mono _ _ _ _ _)
      | (with_reducible exact crossbucklaw03_awake.mono _)
      | (with_reducible exact crossbuckref03_Has.mono _ _ _ _)
      | (with_reducible exact crossbuckref03_Last.mono _ _ _)
      | (with_reducible exact crossbuckref03_Right.mono _ _ _)
      | (with_reducible exact LeO.refl _)
      | (with_reducible exact LeO.none _)
      | (with_reducible refine LeO.ite ?_ ?_)
      | (with_reducible refine LeO.bind ?_ (fun _ => ?_))
      | exact ih0 _ _ _ _ _ _
      | exact ih1 _ _ _ _ _ _
      | exact ih2 _ _ _ _ _ _
      | exact ih3 _ _ _ _ _ _ _
      | exact ih4 _ _ _ _ _ _ _ _ _
      | exact ih5 _ _ _ _ _ _ _ _
      | exact cidr_Compare.mono _ _ _ _ _
      | exact crossbucklaw03_awake.mono _
      | exact crossbuckref03_Has.mono _ _ _ _
      | exact crossbuckref03_Last.mono _ _ _
      | exact crossbuckref03_Right.mono _ _ _
      | exact LeO.none _
      | refine LeO.ite ?_ ?_
      | refine LeO.bind ?_ (fun _ => ?_)
def crossbucklaw03_CidrPrefixes.T15 : Bool × List (List Nat × List Nat) := (true, [([], []), ([0, 0], [0]), ([1], [1]), ([1], [1]), ([2, 3, 1, 1], [1, 2, 3]), ([1], [1]), ([1], [1]), ([5, 6, 4, 1], [1, 5, 6]), ([4, 7, 1], [1, 4, 7]), ([1, 8], [1, 8]), ([9, 7], [9]), ([10], [10]), ([11, 10, 10], [10, 11]), ([10], [10]), ([13, 12, 10], [10, 13]), ([12, 14, 10], [10, 12, 14]), ([10, 15], [10, 15]), ([16, 14], [16]), ([17], [17]), ([17], [17]), ([18, 19, 17, 17], [17, 18, 19]), ([17], [17]), ([20, 21, 17], [17, 20, 21]), ([17, 22], [17, 22]), ([23, 20], [23]), ([24], [24]), ([24], [24]), ([25, 26, 24, 24], [24, 25, 26]), ([24], [24]), ([28, 27, 24], [24, 28]), ([29], [29]), ([29, 30, 24], [24, 29, 30]), ([27, 31, 24], [24, 27, 31]), ([24, 32], [24, 32]), ([33, 29], [33]), ([34], [34]), ([34], [34]), ([35, 36, 34, 34], [34, 35, 36]), ([34], [34]), ([37, 38, 34], [34, 37, 38]), ([34, 39], [34, 39]), ([40, 37, 0, 1, 2, 3, 4, 5, 6, 7, 8, 9, 10, 11, 12, 13, 14, 15, 16, 17, 18, 19, 20, 21, 22, 23, 24, 25, 26, 27, 28, 29, 30, 31, 32, 33, 34, 35, 36, 37, 38, 39, 40], [40])])
def crossbucklaw03_CidrPrefixes.B15 : List Nat := [0, 1, 3, 3, 15, 3, 3, 127, 255, 511, 1023, 2047, 4095, 2047, 16383, 32767, 65535, 131071, 262143, 262143, 1048575, 262143, 4194303, 8388607, 16777215, 33554431, 33554431, 134217727, 33554431, 536870911, 1073741823, 2147483647, 4294967295, 8589934591, 17179869183, 34359738367, 34359738367, 137438953471, 34359738367, 549755813887, 1099511627775, 2199023255551]
theorem crossbucklaw03_CidrPrefixes.tab15 : rtab .any (opsOf Try.f10 15) = crossbucklaw03_CidrPrefixes.T15 := by kernel_rfl
theorem crossbucklaw03_CidrPrefixes.bits15 : waitsOk crossbucklaw03_CidrPrefixes.T15.2 crossbucklaw03_CidrPrefixes.B15 = true := by kernel_rfl
end Go.Proofs.Ytbnjbjjbfbbdcaa.PCP
