-- Written by wip/myprint.py (this session's own driver); Lean checks it.
import Derived.Test.YtloclimoffhbhaaDoorPAllx0
import Derived.Test.YtloclimoffhbhaaDoorPAllx4
import Derived.Test.YtloclimoffhbhaaDoorPAllx89
import Derived.Test.YtloclimoffhbhaaDoorPAllx90
import Derived.Test.YtloclimoffhbhaaDoorPAllx102
import Derived.Test.YtloclimoffhbhaaDoorPAllx110
import Derived.Test.YtloclimoffhbhaaDoorPAllx112
import Derived.Test.YtloclimoffhbhaaDoorPAllx113
namespace Go.Proofs.YtloclimoffhbhaaDoor.PAll
open Go.RowKit Go.Proofs.YtloclimoffhbhaaDoorW.PrintWords Go.Proofs.YtloclimoffhbhaaDoorW.PrintLast Go.Proofs.YtloclimoffhbhaaDoorW.PrintMore
attribute [local go_sem] max2_int min2_int max_two min_two max_three min_three max_four min_four   -- for this text's walks alone
set_option linter.unusedVariables false
set_option linter.unusedSimpArgs false

attribute [local go_sem high] eqA67
/-! ### crossbucklaw02_HdrBits: function 7 -/
mutual
def crossbucklaw02_HdrBits.l0 : Nat → Int → List Bool → List Bool → Int → Int → Int → Int → Int → Int → Int → Int → Int → Int → Int → Int → Int → Option (Bool)
  | 0, _, _, _, _, _, _, _, _, _, _, _, _, _, _, _, _ => none
  | k + 1, x2, x7, x8, x9, x18, x19, x512000, x512001, x512002, x512003, x512004, x513000, x513001, x513002, x513003, x513004 => if x19 < x18 then ((hdr_Bit.f k x512000 x512001 x512002 x512003 x512004 x19).bind fun t519 => (if 0 ≤ x19 then (if x19 < (x7.length : Int) then (if (t519 != (rdOf false x7 x19)) = true then (some false) else (if x9 = 0 then (if x19 < (x8.length : Int) then (crossbucklaw02_HdrBits.j1 k x2 x7 x8 x9 x19 x18 x19 ((rdOf false x7 x19) != (rdOf false x8 x19)) x512000 x512001 x512002 x512003 x512004 x513000 x513001 x513002 x513003 x513004) else (none)) else (crossbucklaw02_HdrBits.j1 k x2 x7 x8 x9 x19 x18 x19 false x512000 x512001 x512002 x512003 x512004 x513000 x513001 x513002 x513003 x513004))) else (none)) else (none))) else ((hdr_Compare.f k x512000 x512001 x512002 x512003 x512004 x513000 x513001 x513002 x513003 x513004).bind fun t524 => (if t524 = x9 then ((crossbuckref02_Back.f k x7).bind fun bt525 => (crossbucklaw02_HdrBits.j2 k x2 x7 (!(bt525.1 == x512000) || (!(bt525.2.1 == x512001) || (!(bt525.2.2.1 == x512002) || (!(bt525.2.2.2.1 == x512003) || (!(bt525.2.2.2.2 == x512004)))))) x512000 x512001 x512002 x512003 x512004)) else (crossbucklaw02_HdrBits.j2 k x2 x7 true x512000 x512001 x512002 x512003 x512004)))
def crossbucklaw02_HdrBits.j1 : Nat → Int → List Bool → List Bool → Int → Int → Int → Int → Bool → Int → Int → Int → Int → Int → Int → Int → Int → Int → Int → Option (Bool)
  | 0, _, _, _, _, _, _, _, _, _, _, _, _, _, _, _, _, _, _ => none
  | k + 1, x2, x7, x8, x9, x10, x18, x19, x42, x512000, x512001, x512002, x512003, x512004, x513000, x513001, x513002, x513003, x513004 => if x42 = true then (if 0 ≤ x10 then (if x10 < (x8.length : Int) then (if rdOf false x8 x10 = true then (crossbucklaw02_HdrBits.l0 k x2 x7 x8 (-1) x18 (wrap64 (x19 + 1)) x512000 x512001 x512002 x512003 x512004 x513000 x513001 x513002 x513003 x513004) else (crossbucklaw02_HdrBits.l0 k x2 x7 x8 1 x18 (wrap64 (x19 + 1)) x512000 x512001 x512002 x512003 x512004 x513000 x513001 x513002 x513003 x513004)) else (none)) else (none)) else (crossbucklaw02_HdrBits.l0 k x2 x7 x8 x9 x18 (wrap64 (x19 + 1)) x512000 x512001 x512002 x512003 x512004 x513000 x513001 x513002 x513003 x513004)
def crossbucklaw02_HdrBits.j2 : Nat → Int → List Bool → Bool → Int → Int → Int → Int → Int → Option (Bool)
  | 0, _, _, _, _, _, _, _, _ => none
  | k + 1, x2, x7, x58, x512000, x512001, x512002, x512003, x512004 => if x58 = true then (some false) else (if x2 < 0 then (crossbucklaw02_HdrBits.j3 k x2 x7 true x512000 x512001 x512002 x512003 x512004) else (crossbucklaw02_HdrBits.j3 k x2 x7 (decide (x2 ≥ 104)) x512000 x512001 x512002 x512003 x512004))
def crossbucklaw02_HdrBits.j3 : Nat → Int → List Bool → Bool → Int → Int → Int → Int → Int → Option (Bool)
  | 0, _, _, _, _, _, _, _, _ => none
  | k + 1, x2, x7, x64, x512000, x512001, x512002, x512003, x512004 => if x64 = true then ((crossbucklaw02_awake.f k).bind fun t530 => (if t530 = true then ((hdr_Bit.f k x512000 x512001 x512002 x512003 x512004 x2).bind fun t531 => (if t531 = true then (some false) else ((hdr_With.f k x512000 x512001 x512002 x512003 x512004 x2 true).bind fun bt532 => (if (bt532.1 == x512000 && (bt532.2.1 == x512001 && (bt532.2.2.1 == x512002 && (bt532.2.2.2.1 == x512003 && (bt532.2.2.2.2 == x512004))))) = true then ((hdr_With.f k x512000 x512001 x512002 x512003 x512004 x2 false).bind fun bt537 => (some (bt537.1 == x512000 && (bt537.2.1 == x512001 && (bt537.2.2.1 == x512002 && (bt537.2.2.2.1 == x512003 && (bt537.2.2.2.2 == x512004))))))) else (some false))))) else (some false))) else (if 0 ≤ x2 then (if x2 < (x7.length : Int) then ((some (x7.set (x2 : Int).toNat true : List Bool)).bind fun y543 => ((crossbuckref02_Back.f k y543).bind fun bt544 => ((crossbucklaw02_awake.f k).bind fun t551 => (if t551 = true then ((hdr_With.f k x512000 x512001 x512002 x512003 x512004 x2 true).bind fun bt552 => (if (bt552.1 == bt544.1 && (bt552.2.1 == bt544.2.1 && (bt552.2.2.1 == bt544.2.2.1 && (bt552.2.2.2.1 == bt544.2.2.2.1 && (bt552.2.2.2.2 == bt544.2.2.2.2))))) = true then ((hdr_With.f k x512000 x512001 x512002 x512003 x512004 x2 false).bind fun bt557 => ((crossbuckref02_Back.f k (y543.set (x2 : Int).toNat false)).bind fun bt562 => (if (bt557.1 == bt562.1 && (bt557.2.1 == bt562.2.1 && (bt557.2.2.1 == bt562.2.2.1 && (bt557.2.2.2.1 == bt562.2.2.2.1 && (bt557.2.2.2.2 == bt562.2.2.2.2))))) = true then ((hdr_With.f k x512000 x512001 x512002 x512003 x512004 x2 (rdOf false x7 x2)).bind fun bt567 => (some (bt567.1 == x512000 && (bt567.2.1 == x512001 && (bt567.2.2.1 == x512002 && (bt567.2.2.2.1 == x512003 && (bt567.2.2.2.2 == x512004))))))) else (some false)))) else (some false))) else (some false))))) else (none)) else (none))
end
def crossbucklaw02_HdrBits.f (k : Nat) (a0_0 : Int) (a0_1 : Int) (a0_2 : Int) (a0_3 : Int) (a0_4 : Int) (a1_0 : Int) (a1_1 : Int) (a1_2 : Int) (a1_3 : Int) (a1_4 : Int) (a2 : Int) : Option (Bool) := (crossbuckref02_Bits.f k a0_0 a0_1 a0_2 a0_3 a0_4).bind fun t513 => ((crossbuckref02_Bits.f k a1_0 a1_1 a1_2 a1_3 a1_4).bind fun t516 => (crossbucklaw02_HdrBits.l0 k a2 t513 t516 0 (t513.length : Int) 0 a0_0 a0_1 a0_2 a0_3 a0_4 a1_0 a1_1 a1_2 a1_3 a1_4))
theorem crossbucklaw02_HdrBits.mono_l : ∀ k, (∀ y0 y1 y2 y3 y4 y5 y6 y7 y8 y9 y10 y11 y12 y13 y14 y15, LeO (crossbucklaw02_HdrBits.l0 k y0 y1 y2 y3 y4 y5 y6 y7 y8 y9 y10 y11 y12 y13 y14 y15) (crossbucklaw02_HdrBits.l0 (k + 1) y0 y1 y2 y3 y4 y5 y6 y7 y8 y9 y10 y11 y12 y13 y14 y15)) ∧ (∀ y0 y1 y2 y3 y4 y5 y6 y7 y8 y9 y10 y11 y12 y13 y14 y15 y16 y17, LeO (crossbucklaw02_HdrBits.j1 k y0 y1 y2 y3 y4 y5 y6 y7 y8 y9 y10 y11 y12 y13 y14 y15 y16 y17) (crossbucklaw02_HdrBits.j1 (k + 1) y0 y1 y2 y3 y4 y5 y6 y7 y8 y9 y10 y11 y12 y13 y14 y15 y16 y17)) ∧ (∀ y0 y1 y2 y3 y4 y5 y6 y7, LeO (crossbucklaw02_HdrBits.j2 k y0 y1 y2 y3 y4 y5 y6 y7) (crossbucklaw02_HdrBits.j2 (k + 1) y0 y1 y2 y3 y4 y5 y6 y7)) ∧ (∀ y0 y1 y2 y3 y4 y5 y6 y7, LeO (crossbucklaw02_HdrBits.j3 k y0 y1 y2 y3 y4 y5 y6 y7) (crossbucklaw02_HdrBits.j3 (k + 1) y0 y1 y2 y3 y4 y5 y6 y7))
  | 0 => ⟨fun _ _ _ _ _ _ _ _ _ _ _ _ _ _ _ _ r h => by simp [crossbucklaw02_HdrBits.l0] at h, fun _ _ _ _ _ _ _ _ _ _ _ _ _ _ _ _ _ _ r h => by simp [crossbucklaw02_HdrBits.j1] at h, fun _ _ _ _ _ _ _ _ r h => by simp [crossbucklaw02_HdrBits.j2] at h, fun _ _ _ _ _ _ _ _ r h => by simp [crossbucklaw02_HdrBits.j3] at h⟩
  | k + 1 => by
    obtain ⟨ih0, ih1, ih2, ih3⟩ := crossbucklaw02_HdrBits.mono_l k
    refine ⟨?_, ?_, ?_, ?_⟩
    · intro y0 y1 y2 y3 y4 y5 y6 y7 y8 y9 y10 y11 y12 y13 y14 y15
      unfold crossbucklaw02_HdrBits.l0
      repeat' first
      | (with_reducible exact ih0 _ _ _ _ _ _ _ _ _ _ _ _ _ _ _ _)
      | (with_reducible exact ih1 _ _ _ _ _ _ _ _ _ _ _ _ _ _ _ _ _ _)
      | (with_reducible exact ih2 _ _ _ _ _ _ _ _)
      | (with_reducible exact ih3 _ _ _ _ _ _ _ _)
      | (with_reducible exact crossbucklaw02_awake.mono _)
      | (with_reducible exact crossbuckref02_Back.mono _ _)
      | (with_reducible exact crossbuckref02_Bits.mono _ _ _ _ _ _)
      | (with_reducible exact hdr_Bit.mono _ _ _ _ _ _ _)
      | (with_reducible exact hdr_Compare.mono _ _ _ _ _ _ _ _ _ _ _)
      | (with_reducible exact hdr_With.mono _ _ _ _ _ _ _ _)
      | (with_reducible exact LeO.refl _)
      | (with_reducible exact LeO.none _)
      | (with_reducible refine LeO.ite ?_ ?_)
      | (with_reducible refine LeO.bind ?_ (fun _ => ?_))
      | exact ih0 _ _ _ _ _ _ _ _ _ _ _ _ _ _ _ _
      | exact ih1 _ _ _ _ _ _ _ _ _ _ _ _ _ _ _ _ _ _
      | exact ih2 _ _ _ _ _ _ _ _
      | exact ih3 _ _ _ _ _ _ _ _
      | exact crossbucklaw02_awake.mono _
      | exact crossbuckref02_Back.mono _ _
      | exact crossbuckref02_Bits.mono _ _ _ _ _ _
      | exact hdr_Bit.mono _ _ _ _ _ _ _
      | exact hdr_Compare.mono _ _ _ _ _ _ _ _ _ _ _
      | exact hdr_With.mono _ _ _ _ _ _ _ _
      | exact LeO.none _
      | refine LeO.ite ?_ ?_
      | refine LeO.bind ?_ (fun _ => ?_)
    · intro y0 y1 y2 y3 y4 y5 y6 y7 y8 y9 y10 y11 y12 y13 y14 y15 y16 y17
      unfold crossbucklaw02_HdrBits.j1
      repeat' first
      | (with_reducible exact ih0 _ _ _ _ _ _ _ _ _ _ _ _ _ _ _ _)
      | (with_reducible exact ih1 _ _ _ _ _ _ _ _ _ _ _ _ _ _ _ _ _ _)
      | (with_reducible exact ih2 _ _ _ _ _ _ _ _)
      | (with_reducible exact ih3 _ _ _ _ _ _ _ _)
      | (with_reducible exact crossbucklaw02_awake.mono _)
      | (with_reducible exact crossbuckref02_Back.mono _ _)
      | (with_reducible exact crossbuckref02_Bits.mono _ _ _ _ _ _)
      | (with_reducible exact hdr_Bit.mono _ _ _ _ _ _ _)
      | (with_reducible exact hdr_Compare.mono _ _ _ _ _ _ _ _ _ _ _)
      | (with_reducible exact hdr_With.mono _ _ _ _ _ _ _ _)
      | (with_reducible exact LeO.refl _)
      | (with_reducible exact LeO.none _)
      | (with_reducible refine LeO.ite ?_ ?_)
      | (with_reducible refine LeO.bind ?_ (fun _ => ?_))
      | exact ih0 _ _ _ _ _ _ _ _ _ _ _ _ _ _ _ _
      | exact ih1 _ _ _ _ _ _ _ _ _ _ _ _ _ _ _ _ _ _
      | exact ih2 _ _ _ _ _ _ _ _
      | exact ih3 _ _ _ _ _ _ _ _
      | exact crossbucklaw02_awake.mono _
      | exact crossbuckref02_Back.mono _ _
      | exact crossbuckref02_Bits.mono _ _ _ _ _ _
      | exact hdr_Bit.mono _ _ _ _ _ _ _
      | exact hdr_Compare.mono _ _ _ _ _ _ _ _ _ _ _
      | exact hdr_With.mono _ _ _ _ _ _ _ _
      | exact LeO.none _
      | refine LeO.ite ?_ ?_
      | refine LeO.bind ?_ (fun _ => ?_)
    · intro y0 y1 y2 y3 y4 y5 y6 y7
      unfold crossbucklaw02_HdrBits.j2
      repeat' first
      | (with_reducible exact ih0 _ _ _ _ _ _ _ _ _ _ _ _ _ _ _ _)
      | (with_reducible exact ih1 _ _ _ _ _ _ _ _ _ _ _ _ _ _ _ _ _ _)
      | (with_reducible exact ih2 _ _ _ _ _ _ _ _)
      | (with_reducible exact ih3 _ _ _ _ _ _ _ _)
      | (with_reducible exact crossbucklaw02_awake.mono _)
      | (with_reducible exact crossbuckref02_Back.mono _ _)
      | (with_reducible exact crossbuckref02_Bits.mono _ _ _ _ _ _)
      | (with_reducible exact hdr_Bit.mono _ _ _ _ _ _ _)
      | (with_reducible exact hdr_Compare.mono _ _ _ _ _ _ _ _ _ _ _)
      | (with_reducible exact hdr_With.mono _ _ _ _ _ _ _ _)
      | (with_reducible exact LeO.refl _)
      | (with_reducible exact LeO.none _)
      | (with_reducible refine LeO.ite ?_ ?_)
      | (with_reducible refine LeO.bind ?_ (fun _ => ?_))
      | exact ih0 _ _ _ _ _ _ _ _ _ _ _ _ _ _ _ _
      | exact ih1 _ _ _ _ _ _ _ _ _ _ _ _ _ _ _ _ _ _
      | exact ih2 _ _ _ _ _ _ _ _
      | exact ih3 _ _ _ _ _ _ _ _
      | exact crossbucklaw02_awake.mono _
      | exact crossbuckref02_Back.mono _ _
      | exact crossbuckref02_Bits.mono _ _ _ _ _ _
      | exact hdr_Bit.mono _ _ _ _ _ _ _
      | exact hdr_Compare.mono _ _ _ _ _ _ _ _ _ _ _
      | exact hdr_With.mono _ _ _ _ _ _ _ _
      | exact LeO.none _
      | refine LeO.ite ?_ ?_
      | refine LeO.bind ?_ (fun _ => ?_)
    · intro y0 y1 y2 y3 y4 y5 y6 y7
      unfold crossbucklaw02_HdrBits.j3
      repeat' first
      | (with_reducible exact ih0 _ _ _ _ _ _ _ _ _ _ _ _ _ _ _ _)
      | (with_reducible exact ih1 _ _ _ _ _ _ _ _ _ _ _ _ _ _ _ _ _ _)
      | (with_reducible exact ih2 _ _ _ _ _ _ _ _)
      | (with_reducible exact ih3 _ _ _ _ _ _ _ _)
      | (with_reducible exact crossbucklaw02_awake.mono _)
      | (with_reducible exact crossbuckref02_Back.mono _ _)
      | (with_reducible exact crossbuckref02_Bits.mono _ _ _ _ _ _)
      | (with_reducible exact hdr_Bit.mono _ _ _ _ _ _ _)
      | (with_reducible exact hdr_Compare.mono _ _ _ _ _ _ _ _ _ _ _)
      | (with_reducible exact hdr_With.mono _ _ _ _ _ _ _ _)
      | (with_reducible exact LeO.refl _)
      | (with_reducible exact LeO.none _)
      | (with_reducible refine LeO.ite ?_ ?_)
      | (with_reducible refine LeO.bind ?_ (fun _ => ?_))
      | exact ih0 _ _ _ _ _ _ _ _ _ _ _ _ _ _ _ _
      | exact ih1 _ _ _ _ _ _ _ _ _ _ _ _ _ _ _ _ _ _
      | exact ih2 _ _ _ _ _ _ _ _
      | exact ih3 _ _ _ _ _ _ _ _
      | exact crossbucklaw02_awake.mono _
      | exact crossbuckref02_Back.mono _ _
      | exact crossbuckref02_Bits.mono _ _ _ _ _ _
      | exact hdr_Bit.mono _ _ _ _ _ _ _
      | exact hdr_Compare.mono _ _ _ _ _ _ _ _ _ _ _
      | exact hdr_With.mono _ _ _ _ _ _ _ _
      | exact LeO.none _
      | refine LeO.ite ?_ ?_
      | refine LeO.bind ?_ (fun _ => ?_)
theorem crossbucklaw02_HdrBits.mono : ∀ a0 a1 a2 a3 a4 a5 a6 a7 a8 a9 a10 k, LeO (crossbucklaw02_HdrBits.f k a0 a1 a2 a3 a4 a5 a6 a7 a8 a9 a10) (crossbucklaw02_HdrBits.f (k + 1) a0 a1 a2 a3 a4 a5 a6 a7 a8 a9 a10) := by
  intro a0 a1 a2 a3 a4 a5 a6 a7 a8 a9 a10 k
  obtain ⟨ih0, ih1, ih2, ih3⟩ := crossbucklaw02_HdrBits.mono_l k
  unfold crossbucklaw02_HdrBits.f
  repeat' first
      | (with_reducible exact ih0 _ _ _ _ _ _ _ _ _ _ _ _ _ _ _ _)
      | (with_reducible exact ih1 _ _ _ _ _ _ _ _ _ _ _ _ _ _ _ _ _ _)
      | (with_reducible exact ih2 _ _ _ _ _ _ _ _)
      | (with_reducible exact ih3 _ _ _ _ _ _ _ _)
      | (with_reducible exact crossbucklaw02_awake.mono _)
      | (with_reducible exact crossbuckref02_Back.mono _ _)
      | (with_reducible exact crossbuckref02_Bits.mono _ _ _ _ _ _)
      | (with_reducible exact hdr_Bit.mono _ _ _ _ _ _ _)
      | (with_reducible exact hdr_Compare.mono _ _ _ _ _ _ _ _ _ _ _)
      | (with_reducible exact hdr_With.mono _ _ _ _ _ _ _ _)
      | (with_reducible exact LeO.refl _)
      | (with_reducible exact LeO.none _)
      | (with_reducible refine LeO.ite ?_ ?_)
      | (with_reducible refine LeO.bind ?_ (fun _ => ?_))
      | exact ih0 _ _ _ _ _ _ _ _ _ _ _ _ _ _ _ _
      | exact ih1 _ _ _ _ _ _ _ _ _ _ _ _ _ _ _ _ _ _
      | exact ih2 _ _ _ _ _ _ _ _
      | exact ih3 _ _ _ _ _ _ _ _
      | exact crossbucklaw02_awake.mono _
      | exact crossbuckref02_Back.mono _ _
      | exact crossbuckref02_Bits.mono _ _ _ _ _ _
      | exact hdr_Bit.mono _ _ _ _ _ _ _
      | exact hdr_Compare.mono _ _ _ _ _ _ _ _ _ _ _
      | exact hdr_With.mono _ _ _ _ _ _ _ _
      | exact LeO.none _
      | refine LeO.ite ?_ ?_
      | refine LeO.bind ?_ (fun _ => ?_)
def crossbucklaw02_HdrBits.T6 : Bool × List (List Nat × List Nat) := (true, [([], []), ([], []), ([0, 1], [0, 1]), ([], []), ([], []), ([3, 4], [3, 4]), ([5], [5]), ([2, 6], [2, 6])])
def crossbucklaw02_HdrBits.B6 : List Nat := [0, 0, 3, 0, 0, 24, 56, 127]
theorem crossbucklaw02_HdrBits.tab6 : rtab .any (opsOf Tryd.f7 6) = crossbucklaw02_HdrBits.T6 := by kernel_rfl
theorem crossbucklaw02_HdrBits.bits6 : waitsOk crossbucklaw02_HdrBits.T6.2 crossbucklaw02_HdrBits.B6 = true := by kernel_rfl
def crossbucklaw02_HdrBits.T8 : Bool × List (List Nat × List Nat) := (true, [([], []), ([0], [0]), ([1], [1]), ([2], [2]), ([2], [2]), ([3, 4, 2], [2, 3, 4]), ([5, 2], [2, 5]), ([2], [2]), ([2], [2]), ([7, 8, 2], [2, 7, 8]), ([9, 2], [2, 9]), ([6, 10, 2], [2, 6, 10]), ([2, 11], [2, 11])])
def crossbucklaw02_HdrBits.B8 : List Nat := [0, 1, 3, 7, 7, 31, 63, 7, 7, 391, 903, 2047, 4095]
theorem crossbucklaw02_HdrBits.tab8 : rtab .any (opsOf Tryd.f7 8) = crossbucklaw02_HdrBits.T8 := by kernel_rfl
theorem crossbucklaw02_HdrBits.bits8 : waitsOk crossbucklaw02_HdrBits.T8.2 crossbucklaw02_HdrBits.B8 = true := by kernel_rfl
def crossbucklaw02_HdrBits.T13 : Bool × List (List Nat × List Nat) := (true, [([], []), ([], []), ([0, 1], [0, 1]), ([], []), ([2, 3], [2, 3]), ([4, 2], [4]), ([5], [5]), ([6, 5, 5], [5, 6]), ([5], [5]), ([7, 8, 5], [5, 7, 8]), ([5, 9], [5, 9])])
def crossbucklaw02_HdrBits.B13 : List Nat := [0, 0, 3, 0, 15, 31, 63, 127, 63, 511, 1023]
theorem crossbucklaw02_HdrBits.tab13 : rtab .any (opsOf Tryd.f7 13) = crossbucklaw02_HdrBits.T13 := by kernel_rfl
theorem crossbucklaw02_HdrBits.bits13 : waitsOk crossbucklaw02_HdrBits.T13.2 crossbucklaw02_HdrBits.B13 = true := by kernel_rfl
def crossbucklaw02_HdrBits.T16 : Bool × List (List Nat × List Nat) := (true, [([], []), ([0, 0], [0]), ([1], [1]), ([1], [1]), ([2, 3, 1, 1], [1, 2, 3]), ([4, 1], [1, 4]), ([1, 5], [1, 5]), ([6, 4], [6]), ([7], [7]), ([7], [7]), ([8, 9, 7, 7], [7, 8, 9]), ([7], [7]), ([10, 11, 7], [7, 10, 11]), ([7, 12], [7, 12]), ([13, 10], [13]), ([14], [14]), ([14], [14]), ([15, 16, 14, 14], [14, 15, 16]), ([14], [14]), ([17, 18, 14], [14, 17, 18]), ([14, 19], [14, 19]), ([20, 17, 0, 1, 2, 3, 4, 5, 6, 7, 8, 9, 10, 11, 12, 13, 14, 15, 16, 17, 18, 19, 20], [20])])
def crossbucklaw02_HdrBits.B16 : List Nat := [0, 1, 3, 3, 15, 31, 63, 127, 255, 255, 1023, 255, 4095, 8191, 16383, 32767, 32767, 131071, 32767, 524287, 1048575, 2097151]
theorem crossbucklaw02_HdrBits.tab16 : rtab .any (opsOf Tryd.f7 16) = crossbucklaw02_HdrBits.T16 := by kernel_rfl
theorem crossbucklaw02_HdrBits.bits16 : waitsOk crossbucklaw02_HdrBits.T16.2 crossbucklaw02_HdrBits.B16 = true := by kernel_rfl
def crossbucklaw02_HdrBits.T21 : Bool × List (List Nat × List Nat) := (true, [([], []), ([0, 0], [0]), ([1], [1]), ([1], [1]), ([2, 3, 1, 1], [1, 2, 3]), ([1], [1]), ([4, 5, 1], [1, 4, 5]), ([1, 6], [1, 6]), ([7, 4], [7]), ([8], [8]), ([8], [8]), ([9, 10, 8, 8], [8, 9, 10]), ([8], [8]), ([12, 11, 8], [8, 12]), ([11, 13, 8], [8, 11, 13]), ([8, 14], [8, 14]), ([15, 13], [15]), ([16], [16]), ([16], [16]), ([16], [16]), ([17, 18, 19, 16, 16], [16, 17, 18, 19]), ([16], [16]), ([20, 21, 16], [16, 20, 21]), ([16, 22], [16, 22]), ([23, 20, 0, 1, 2, 3, 4, 5, 6, 7, 8, 9, 10, 11, 12, 13, 14, 15, 16, 17, 18, 19, 20, 21, 22, 23], [23])])
def crossbucklaw02_HdrBits.B21 : List Nat := [0, 1, 3, 3, 15, 3, 63, 127, 255, 511, 511, 2047, 511, 8191, 16383, 32767, 65535, 131071, 131071, 131071, 1048575, 131071, 4194303, 8388607, 16777215]
theorem crossbucklaw02_HdrBits.tab21 : rtab .any (opsOf Tryd.f7 21) = crossbucklaw02_HdrBits.T21 := by kernel_rfl
theorem crossbucklaw02_HdrBits.bits21 : waitsOk crossbucklaw02_HdrBits.T21.2 crossbucklaw02_HdrBits.B21 = true := by kernel_rfl
set_option maxHeartbeats 8000000 in
set_option maxRecDepth 100000 in
theorem crossbucklaw02_HdrBits.calls (k : Nat) (a0_0 : Int) (a0_1 : Int) (a0_2 : Int) (a0_3 : Int) (a0_4 : Int) (a1_0 : Int) (a1_1 : Int) (a1_2 : Int) (a1_3 : Int) (a1_4 : Int) (a2 : Int) (r : Bool) (w : World) (hG : Hand.Good false true w) (h : crossbucklaw02_HdrBits.f k a0_0 a0_1 a0_2 a0_3 a0_4 a1_0 a1_1 a1_2 a1_3 a1_4 a2 = some r) (hT : Aside0 (r = true)) :
    Calls Tryd.prog 7 #[.agg #[.int .u32 a0_0, .int .u32 a0_1, .int .u8 a0_2, .int .u16 a0_3, .int .u16 a0_4], .agg #[.int .u32 a1_0, .int .u32 a1_1, .int .u8 a1_2, .int .u16 a1_3, .int .u16 a1_4], .int .i64 a2] w fun e w' => e = .returned (.bool r) ∧ Below w.heap.size w w' := by
  have hu67 := Tryd.underlying67
  have HB := Aside0.mk (Below.refl w.heap.size w)
  have hGG := Aside0.mk hG
  clear hG
  have H : ((crossbuckref02_Bits.f k a0_0 a0_1 a0_2 a0_3 a0_4).bind fun t513 => ((crossbuckref02_Bits.f k a1_0 a1_1 a1_2 a1_3 a1_4).bind fun t516 => (crossbucklaw02_HdrBits.l0 k a2 t513 t516 0 (t513.length : Int) 0 a0_0 a0_1 a0_2 a0_3 a0_4 a1_0 a1_1 a1_2 a1_3 a1_4))) = some r := h
  clear h
  replace H := Option.bind_eq_some_iff.mp H
  obtain ⟨t513, A40, H⟩ := H
  replace H : ((crossbuckref02_Bits.f k a1_0 a1_1 a1_2 a1_3 a1_4).bind fun t516 => (crossbucklaw02_HdrBits.l0 k a2 t513 t516 0 (t513.length : Int) 0 a0_0 a0_1 a0_2 a0_3 a0_4 a1_0 a1_1 a1_2 a1_3 a1_4)) = some r := H
  have A4 := Aside0.mk A40
  clear A40
  replace H := Option.bind_eq_some_iff.mp H
  obtain ⟨t516, A50, H⟩ := H
  replace H : (crossbucklaw02_HdrBits.l0 k a2 t513 t516 0 (t513.length : Int) 0 a0_0 a0_1 a0_2 a0_3 a0_4 a1_0 a1_1 a1_2 a1_3 a1_4) = some r := H
  have A5 := Aside0.mk A50
  clear A50
  have H' := Aside0.mk H
  clear H
  go_enter Tryd.func7, Tryd.ntmps7
  try go_wp2_with (first | ((with_reducible refine gate_dst (N := 3) rfl ?_); refine box_event ?hg (N := 3) ?hd (cs := #[.int .u32 a0_0, .int .u32 a0_1, .int .u8 a0_2, .int .u16 a0_3, .int .u16 a0_4]) (t := 67) ?hr ?_; (case hd => rfl); (case hg => rfl); (case hr => first | (go_simp; done) | (go_simp; rfl)); intro gb511 hg w6 hbox hb; have n0_ := Aside0.mk (below_step (by repeat (first | (with_reducible first | exact HB.out | apply below_alloc | apply pw_below_drewN | apply below_drew1) | exact HB.out)) hb); have n1_ := Aside0.mk (hbox); have n2_ := Aside0.mk ((by rw [hg]; exact (below_size (by repeat (first | (with_reducible first | exact HB.out | apply below_alloc | apply pw_below_drewN | apply below_drew1) | exact HB.out))) : w.heap.size ≤ gb511)); have n3_ := Aside0.mk ((by rw [hg]; exact (below_size (by repeat (first | (with_reducible first | exact HB.out | apply below_alloc | apply pw_below_drewN | apply below_drew1) | exact HB.out))) : w.heap.size ≤ gb511)); clear HB; have HB := n0_; have BK511 := n1_; have GW511 := n2_; have GE511 := n3_; clear n0_ n1_ n2_ n3_; clear hb hbox hg) | ((with_reducible refine gate_dst (N := 4) rfl ?_); refine box_event ?hg (N := 4) ?hd (cs := #[.int .u32 a1_0, .int .u32 a1_1, .int .u8 a1_2, .int .u16 a1_3, .int .u16 a1_4]) (t := 67) ?hr ?_; (case hd => rfl); (case hg => rfl); (case hr => first | (go_simp; done) | (go_simp; rfl)); intro gb512 hg w7 hbox hb; have n0_ := Aside0.mk (blk_below (g := gb511) (o := .cells #[.int .u32 a0_0, .int .u32 a0_1, .int .u8 a0_2, .int .u16 a0_3, .int .u16 a0_4] 67 (0, 0)) (by (with_reducible repeat (first | refine blk_drewN ?_ _ | refine blk_drew ?_ | refine blk_alloc ?_ _)); exact BK511.out) hb); have n1_ := Aside0.mk (below_step (by repeat (first | (with_reducible first | exact HB.out | apply below_alloc | apply pw_below_drewN | apply below_drew1 | refine below_set ?_ GE511.out) | exact HB.out)) hb); have n2_ := Aside0.mk (hbox); have n3_ := Aside0.mk ((by rw [hg]; exact (below_size (by repeat (first | (with_reducible first | exact HB.out | apply below_alloc | apply pw_below_drewN | apply below_drew1 | refine below_set ?_ GE511.out) | exact HB.out))) : w.heap.size ≤ gb512)); have n4_ := Aside0.mk ((by rw [hg]; exact (below_size (by repeat (first | (with_reducible first | exact HB.out | apply below_alloc | apply pw_below_drewN | apply below_drew1 | refine below_set ?_ GE511.out) | exact HB.out))) : w.heap.size ≤ gb512)); have n5_ := Aside0.mk ((by rw [hg]; exact Nat.ne_of_lt (blk_lt (g := gb511) (o := .cells #[.int .u32 a0_0, .int .u32 a0_1, .int .u8 a0_2, .int .u16 a0_3, .int .u16 a0_4] 67 (0, 0)) (by (with_reducible repeat (first | refine blk_drewN ?_ _ | refine blk_drew ?_ | refine blk_alloc ?_ _)); exact BK511.out)) : gb511 ≠ gb512)); have n6_ := Aside0.mk ((by rw [hg]; exact Nat.ne_of_gt (blk_lt (g := gb511) (o := .cells #[.int .u32 a0_0, .int .u32 a0_1, .int .u8 a0_2, .int .u16 a0_3, .int .u16 a0_4] 67 (0, 0)) (by (with_reducible repeat (first | refine blk_drewN ?_ _ | refine blk_drew ?_ | refine blk_alloc ?_ _)); exact BK511.out)) : gb512 ≠ gb511)); clear BK511; clear HB; have BK511 := n0_; have HB := n1_; have BK512 := n2_; have GW512 := n3_; have GE512 := n4_; have NB511_512 := n5_; have NB512_511 := n6_; clear n0_ n1_ n2_ n3_ n4_ n5_ n6_; clear hb hbox hg))
  have n0_ := Aside0.mk (blk_drew BK511.out)
  have n1_ := Aside0.mk (blk_drew BK512.out)
  have n2_ := Aside0.mk (below_drew1 HB.out)
  clear BK511
  clear BK512
  clear HB
  have BK511 := n0_
  have BK512 := n1_
  have HB := n2_
  clear n0_ n1_ n2_
  refine start_ (n := 6) (S := fun w' => w'.cell? ⟨gb511, 0, none⟩ = some (.int .u32 a0_0) ∧ w'.cell? ⟨gb511, 1, none⟩ = some (.int .u32 a0_1) ∧ w'.cell? ⟨gb511, 2, none⟩ = some (.int .u8 a0_2) ∧ w'.cell? ⟨gb511, 3, none⟩ = some (.int .u16 a0_3) ∧ w'.cell? ⟨gb511, 4, none⟩ = some (.int .u16 a0_4) ∧ w'.cell? ⟨gb512, 0, none⟩ = some (.int .u32 a1_0) ∧ w'.cell? ⟨gb512, 1, none⟩ = some (.int .u32 a1_1) ∧ w'.cell? ⟨gb512, 2, none⟩ = some (.int .u8 a1_2) ∧ w'.cell? ⟨gb512, 3, none⟩ = some (.int .u16 a1_3) ∧ w'.cell? ⟨gb512, 4, none⟩ = some (.int .u16 a1_4)) (ds := []) #[false, false, false, false, false, false] (by kernel_rfl) rfl rfl ⟨(blk_cell BK511.out 0).trans rfl, (blk_cell BK511.out 1).trans rfl, (blk_cell BK511.out 2).trans rfl, (blk_cell BK511.out 3).trans rfl, (blk_cell BK511.out 4).trans rfl, (blk_cell BK512.out 0).trans rfl, (blk_cell BK512.out 1).trans rfl, (blk_cell BK512.out 2).trans rfl, (blk_cell BK512.out 3).trans rfl, (blk_cell BK512.out 4).trans rfl⟩ (fun hHeld => ?_)
  generalize w7.drew = w8 at BK511 BK512 HB hHeld ⊢
  refine take_ (i := 0) (N := some 13) (v := ?_) (a' := ?_) #[true, false, false, false, false, false] rfl rfl (by kernel_rfl) (fun _ _ _ h => h) (Or.inl ⟨by rfl, ?_⟩) hHeld ?_ ?_
  rotate_left
  · rintro w' ⟨s0, s1, s2, s3, s4, s5, s6, s7, s8, s9⟩
    go_simp
    with_reducible rfl
  rotate_left
  · simp only [Act.put, List.setIfInBounds_toArray, List.set_cons_zero, List.set_cons_succ, i64_w, i32_w]
    rfl
  refine take_ (i := 2) (N := some 15) (v := ?_) (a' := ?_) #[true, false, true, false, false, false] rfl rfl (by kernel_rfl) (fun _ _ _ h => h) (Or.inl ⟨by rfl, ?_⟩) hHeld ?_ ?_
  rotate_left
  · rintro w' ⟨s0, s1, s2, s3, s4, s5, s6, s7, s8, s9⟩
    go_simp
    with_reducible rfl
  rotate_left
  · simp only [Act.put, List.setIfInBounds_toArray, List.set_cons_zero, List.set_cons_succ, i64_w, i32_w]
    rfl
  refine one_ (i := 1) (N := some 14) #[true, true, true, false, false, false] rfl rfl (by kernel_rfl) (by decide) (fun K hK => ?_)
  refine goes_ Tryd.func37 (by kernel_rfl) rfl #[.agg #[.int .u32 a0_0, .int .u32 a0_1, .int .u8 a0_2, .int .u16 a0_3, .int .u16 a0_4]] (by rfl) rfl rfl (by (try simp only [List.map_toArray, List.map_cons, List.map_nil]); first | done | rfl | (simp only [List.length_drop, List.length_take]; rfl)) ?_
  with_reducible refine (crossbuckref02_Bits.calls k a0_0 a0_1 a0_2 a0_3 a0_4 t513 _ A4.out).mono ?_
  rintro e w9 ⟨v514, rfl, ho0, hb⟩
  refine ⟨_, rfl, ?_⟩
  have n0_ := Aside0.mk (Kd.R_lower ho0 (below_size (by repeat (first | (with_reducible first | exact HB.out | apply below_alloc | apply pw_below_drewN | apply below_drew1 | refine below_set ?_ GE511.out | refine below_set ?_ GE512.out) | exact HB.out))))
  have n1_ := Aside0.mk (blk_below (g := gb511) (o := .cells #[.int .u32 a0_0, .int .u32 a0_1, .int .u8 a0_2, .int .u16 a0_3, .int .u16 a0_4] 67 (0, 0)) (by (with_reducible repeat (first | refine blk_drewN ?_ _ | refine blk_drew ?_ | refine blk_alloc ?_ _)); exact BK511.out) hb)
  have n2_ := Aside0.mk (blk_below (g := gb512) (o := .cells #[.int .u32 a1_0, .int .u32 a1_1, .int .u8 a1_2, .int .u16 a1_3, .int .u16 a1_4] 67 (0, 0)) (by (with_reducible repeat (first | refine blk_drewN ?_ _ | refine blk_drew ?_ | refine blk_alloc ?_ _)); exact BK512.out) hb)
  have n3_ := Aside0.mk (below_step (by repeat (first | (with_reducible first | exact HB.out | apply below_alloc | apply pw_below_drewN | apply below_drew1 | refine below_set ?_ GE511.out | refine below_set ?_ GE512.out) | exact HB.out)) hb)
  clear BK511
  clear BK512
  clear HB
  have HO515 := n0_
  have BK511 := n1_
  have BK512 := n2_
  have HB := n3_
  clear n0_ n1_ n2_ n3_
  (try clear hb)
  (try clear hb2)
  (try clear hk)
  (try clear hi)
  (try clear ho0)
  refine hK.out _ _ ⟨(blk_cell BK511.out 0).trans rfl, (blk_cell BK511.out 1).trans rfl, (blk_cell BK511.out 2).trans rfl, (blk_cell BK511.out 3).trans rfl, (blk_cell BK511.out 4).trans rfl, (blk_cell BK512.out 0).trans rfl, (blk_cell BK512.out 1).trans rfl, (blk_cell BK512.out 2).trans rfl, (blk_cell BK512.out 3).trans rfl, (blk_cell BK512.out 4).trans rfl⟩ (fun hHeld => ?_)
  clear hK K
  refine norm_ (a' := ?_) ?_ ?_
  rotate_left
  · show Act.put _ (some 14) _ = _
    simp only [Act.put, List.setIfInBounds_toArray, List.set_cons_zero, List.set_cons_succ, i64_w, i32_w]
    rfl
  refine one_ (i := 3) (N := some 16) #[true, true, true, true, false, false] rfl rfl (by kernel_rfl) (by decide) (fun K hK => ?_)
  refine goes_ Tryd.func37 (by kernel_rfl) rfl #[.agg #[.int .u32 a1_0, .int .u32 a1_1, .int .u8 a1_2, .int .u16 a1_3, .int .u16 a1_4]] (by rfl) rfl rfl (by (try simp only [List.map_toArray, List.map_cons, List.map_nil]); first | done | rfl | (simp only [List.length_drop, List.length_take]; rfl)) ?_
  with_reducible refine (crossbuckref02_Bits.calls k a1_0 a1_1 a1_2 a1_3 a1_4 t516 _ A5.out).mono ?_
  rintro e w10 ⟨v517, rfl, ho0, hb⟩
  refine ⟨_, rfl, ?_⟩
  have n0_ := Aside0.mk (Kd.R_elder' (by (with_reducible repeat (first | apply Kd.R_alloc | apply Kd.R_drewN | apply Kd.R_drew)); exact HO515.out) (Kd.R_base ho0) hb)
  have n1_ := Aside0.mk (Kd.R_lower (Kd.R_new' ho0 (Kd.R_lt (by (with_reducible repeat (first | apply Kd.R_alloc | apply Kd.R_drewN | apply Kd.R_drew)); exact HO515.out))) (below_size (by repeat (first | (with_reducible first | exact HB.out | apply below_alloc | apply pw_below_drewN | apply below_drew1 | refine below_set ?_ GE511.out | refine below_set ?_ GE512.out) | exact HB.out))))
  have n2_ := Aside0.mk (blk_below (g := gb511) (o := .cells #[.int .u32 a0_0, .int .u32 a0_1, .int .u8 a0_2, .int .u16 a0_3, .int .u16 a0_4] 67 (0, 0)) (by (with_reducible repeat (first | refine blk_drewN ?_ _ | refine blk_drew ?_ | refine blk_alloc ?_ _)); exact BK511.out) hb)
  have n3_ := Aside0.mk (blk_below (g := gb512) (o := .cells #[.int .u32 a1_0, .int .u32 a1_1, .int .u8 a1_2, .int .u16 a1_3, .int .u16 a1_4] 67 (0, 0)) (by (with_reducible repeat (first | refine blk_drewN ?_ _ | refine blk_drew ?_ | refine blk_alloc ?_ _)); exact BK512.out) hb)
  have n4_ := Aside0.mk (below_step (by repeat (first | (with_reducible first | exact HB.out | apply below_alloc | apply pw_below_drewN | apply below_drew1 | refine below_set ?_ GE511.out | refine below_set ?_ GE512.out) | exact HB.out)) hb)
  clear HO515
  clear BK511
  clear BK512
  clear HB
  have HO515 := n0_
  have HO518 := n1_
  have BK511 := n2_
  have BK512 := n3_
  have HB := n4_
  clear n0_ n1_ n2_ n3_ n4_
  (try clear hb)
  (try clear hb2)
  (try clear hk)
  (try clear hi)
  (try clear ho0)
  refine hK.out _ _ ⟨(blk_cell BK511.out 0).trans rfl, (blk_cell BK511.out 1).trans rfl, (blk_cell BK511.out 2).trans rfl, (blk_cell BK511.out 3).trans rfl, (blk_cell BK511.out 4).trans rfl, (blk_cell BK512.out 0).trans rfl, (blk_cell BK512.out 1).trans rfl, (blk_cell BK512.out 2).trans rfl, (blk_cell BK512.out 3).trans rfl, (blk_cell BK512.out 4).trans rfl⟩ (fun hHeld => ?_)
  clear hK K
  refine norm_ (a' := ?_) ?_ ?_
  rotate_left
  · show Act.put _ (some 16) _ = _
    simp only [Act.put, List.setIfInBounds_toArray, List.set_cons_zero, List.set_cons_succ, i64_w, i32_w]
    rfl
  refine pure_ (i := 4) (N := some 7) (v := ?_) (a' := ?_) #[true, true, true, true, true, false] rfl rfl (by kernel_rfl) (fun _ _ _ h => h) (Or.inl ⟨by rfl, ?_⟩) ?_ ?_
  rotate_left
  · intro w'
    go_simp
    with_reducible rfl
  rotate_left
  · simp only [Act.put, List.setIfInBounds_toArray, List.set_cons_zero, List.set_cons_succ, i64_w, i32_w]
    rfl
  refine pure_ (i := 5) (N := some 8) (v := ?_) (a' := ?_) #[true, true, true, true, true, true] rfl rfl (by kernel_rfl) (fun _ _ _ h => h) (Or.inl ⟨by rfl, ?_⟩) ?_ ?_
  rotate_left
  · intro w'
    go_simp
    with_reducible rfl
  rotate_left
  · simp only [Act.put, List.setIfInBounds_toArray, List.set_cons_zero, List.set_cons_succ, i64_w, i32_w]
    rfl
  refine done_ (by kernel_rfl) ?_
  obtain ⟨Ao11, co11, eo11⟩ := Kd.R_slice HO515.out
  subst eo11
  try go_wp2
  go_loopg [9, 19] k (fun kq v9 v19 w' => ∃ (x9_1 : Int) (x19_1 : Int), v9 = .int .i64 x9_1 ∧ v19 = .int .i64 x19_1 ∧ Aside0 (crossbucklaw02_HdrBits.l0 kq a2 t513 t516 x9_1 (t513.length : Int) x19_1 a0_0 a0_1 a0_2 a0_3 a0_4 a1_0 a1_1 a1_2 a1_3 a1_4 = some r) ∧ Aside0 (kq ≤ k) ∧ Aside0 (Kd.R Kd.bool 4 w' w.heap.size (fun k_ => some k_ ≠ (v517 : Value).ownBlock) (.slice Ao11 t513.length co11) t513) ∧ Aside0 (Kd.R Kd.bool 4 w' w.heap.size (fun k_ => some k_ ≠ ((.slice Ao11 t513.length co11) : Value).ownBlock) v517 t516) ∧ Aside0 (w'.heap[gb511]? = some (.cells #[.int .u32 a0_0, .int .u32 a0_1, .int .u8 a0_2, .int .u16 a0_3, .int .u16 a0_4] 67 (0, 0))) ∧ Aside0 (w'.heap[gb512]? = some (.cells #[.int .u32 a1_0, .int .u32 a1_1, .int .u8 a1_2, .int .u16 a1_3, .int .u16 a1_4] 67 (0, 0))) ∧ Aside0 (Below w.heap.size w w'))
  case atStart => exact ⟨(0), (0), (by first | rfl | (simp; done) | (simp [*]; done)), (by first | rfl | (simp; done) | (simp [*]; done)), H', ⟨Nat.le_refl _⟩, ⟨by (with_reducible repeat (first | apply Kd.R_alloc | apply Kd.R_drewN | apply Kd.R_drew)); exact Kd.R_mono HO515.out (fun _ hk => hk.2)⟩, ⟨by (with_reducible repeat (first | apply Kd.R_alloc | apply Kd.R_drewN | apply Kd.R_drew)); exact Kd.R_mono HO518.out (fun _ hk => hk.2)⟩, ⟨by (with_reducible repeat (first | refine blk_drewN ?_ _ | refine blk_drew ?_ | refine blk_alloc ?_ _)); exact BK511.out⟩, ⟨by (with_reducible repeat (first | refine blk_drewN ?_ _ | refine blk_drew ?_ | refine blk_alloc ?_ _)); exact BK512.out⟩, ⟨by repeat (first | (with_reducible first | exact HB.out | apply below_alloc | apply pw_below_drewN | apply below_drew1 | refine below_set ?_ GE511.out | refine below_set ?_ GE512.out) | exact HB.out)⟩⟩
  case round =>
    clear H'
    try clear p2
    try clear c3
    try clear c7
    obtain ⟨x9_1, x19_1, rfl, rfl, HA, HK1, HO_7, HO_8, BK511, BK512, HB⟩ := hrel
    cases gk with
    | zero => exact absurd HA.out (by simp [crossbucklaw02_HdrBits.l0])
    | succ k1 =>
      have H := HA.out
      clear HA
      simp only [crossbucklaw02_HdrBits.l0] at H
      by_cases c12 : x19_1 < (t513.length : Int)
      · rw [if_pos c12] at H
        have c12b0 : decide (x19_1 < (t513.length : Int)) = true := decide_eq_true c12
        clear c12
        replace H := Option.bind_eq_some_iff.mp H
        obtain ⟨t519, A130, H⟩ := H
        replace H : (if 0 ≤ x19_1 then (if x19_1 < (t513.length : Int) then (if (t519 != (rdOf false t513 x19_1)) = true then (some false) else (if x9_1 = 0 then (if x19_1 < (t516.length : Int) then (crossbucklaw02_HdrBits.j1 k1 a2 t513 t516 x9_1 x19_1 (t513.length : Int) x19_1 ((rdOf false t513 x19_1) != (rdOf false t516 x19_1)) a0_0 a0_1 a0_2 a0_3 a0_4 a1_0 a1_1 a1_2 a1_3 a1_4) else (none)) else (crossbucklaw02_HdrBits.j1 k1 a2 t513 t516 x9_1 x19_1 (t513.length : Int) x19_1 false a0_0 a0_1 a0_2 a0_3 a0_4 a1_0 a1_1 a1_2 a1_3 a1_4))) else (none)) else (none)) = some r := H
        have A13 := Aside0.mk A130
        clear A130
        by_cases c14 : 0 ≤ x19_1
        · rw [if_pos c14] at H
          have c14b0 : decide (0 ≤ x19_1) = true := decide_eq_true c14
          clear c14
          by_cases c15 : x19_1 < (t513.length : Int)
          · rw [if_pos c15] at H
            have c15b0 : decide (x19_1 < (t513.length : Int)) = true := decide_eq_true c15
            clear c15
            by_cases c16 : (t519 != (rdOf false t513 x19_1)) = true
            · rw [if_pos c16] at H
              have c16b0 : (t519 != (rdOf false t513 x19_1)) = true := c16
              (try (have c16b1 : decide (t519 = (rdOf false t513 x19_1)) = false := by simpa using c16))
              (try (have c16b2 : (t519 == (rdOf false t513 x19_1)) = false := by simpa using c16))
              (try (have c16b3 : ¬ (t519 = (rdOf false t513 x19_1)) := by simpa using c16))
              clear c16
              exact absurd ((Option.some.inj H).trans hT.out) (by decide)
            · rw [if_neg c16] at H
              have c16b0 : (t519 != (rdOf false t513 x19_1)) = false := by simpa using c16
              (try (have c16b1 : decide (t519 = (rdOf false t513 x19_1)) = true := by simpa using c16))
              (try (have c16b2 : (t519 == (rdOf false t513 x19_1)) = true := by simpa using c16))
              clear c16
              have HC17 := Aside0.mk H
              clear H
              try go_wp2
              have n0_ := Aside0.mk (Kd.R_drew HO_7.out)
              have n1_ := Aside0.mk (Kd.R_drew HO_8.out)
              have n2_ := Aside0.mk (blk_drew BK511.out)
              have n3_ := Aside0.mk (blk_drew BK512.out)
              have n4_ := Aside0.mk (below_drew1 HB.out)
              clear HO_7
              clear HO_8
              clear BK511
              clear BK512
              clear HB
              have HO_7 := n0_
              have HO_8 := n1_
              have BK511 := n2_
              have BK512 := n3_
              have HB := n4_
              clear n0_ n1_ n2_ n3_ n4_
              have p520 : 0 ≤ (x19_1 : Int) := of_decide_eq_true (by first | (with_reducible assumption) | assumption)
              have q520 : x19_1 < (t513.length : Int) := of_decide_eq_true (by first | (with_reducible assumption) | assumption)
              obtain ⟨ad520, e520, hx520_0⟩ := Kd.at_bool (Kd.R_reads' HO_7.out).2.2 x19_1 p520 q520
              cases e520
              replace p520 := eq_true p520
              replace q520 := eq_true q520
              refine start_ (n := 8) (S := fun w' => w'.cell? ⟨gb511, 0, none⟩ = some (.int .u32 a0_0) ∧ w'.cell? ⟨gb511, 1, none⟩ = some (.int .u32 a0_1) ∧ w'.cell? ⟨gb511, 2, none⟩ = some (.int .u8 a0_2) ∧ w'.cell? ⟨gb511, 3, none⟩ = some (.int .u16 a0_3) ∧ w'.cell? ⟨gb511, 4, none⟩ = some (.int .u16 a0_4) ∧ w'.cell? (ad520.add (x19_1).toNat) = some (.bool (rdOf false t513 x19_1))) (ds := []) #[false, false, false, false, false, false, false, false] (by kernel_rfl) rfl rfl ⟨(blk_cell BK511.out 0).trans rfl, (blk_cell BK511.out 1).trans rfl, (blk_cell BK511.out 2).trans rfl, (blk_cell BK511.out 3).trans rfl, (blk_cell BK511.out 4).trans rfl, hx520_0⟩ (fun hHeld => ?_); refine with_tabW crossbucklaw02_HdrBits.tab6 crossbucklaw02_HdrBits.bits6 (fun HT_ HW_ => ?_)
              generalize wr.drew = w18 at HO_7 HO_8 BK511 BK512 HB hx520_0 hHeld ⊢
              refine pure_ (i := 1) (N := some 23) (v := ?_) (a' := ?_) #[false, true, false, false, false, false, false, false] rfl rfl (any_of HT_.out (by kernel_rfl)) (fun _ _ _ h => h) (Or.inl ⟨by rfl, ?_⟩) ?_ ?_
              rotate_left
              · intro w'
                go_simp
                with_reducible rfl
              rotate_left
              · simp only [Act.put, List.setIfInBounds_toArray, List.set_cons_zero, List.set_cons_succ, i64_w, i32_w]
                rfl
              refine pure_ (i := 3) (N := some 25) (v := ?_) (a' := ?_) #[false, true, false, true, false, false, false, false] rfl rfl (any_of HT_.out (by kernel_rfl)) (fun _ _ _ h => h) (Or.inl ⟨by rfl, ?_⟩) ?_ ?_
              rotate_left
              · intro w'
                go_simp
                with_reducible rfl
              rotate_left
              · simp only [Act.put, List.setIfInBounds_toArray, List.set_cons_zero, List.set_cons_succ, i64_w, i32_w]
                rfl
              refine pure_ (i := 4) (N := some 26) (v := ?_) (a' := ?_) #[false, true, false, true, true, false, false, false] rfl rfl (any_of HT_.out (by kernel_rfl)) (fun _ _ _ h => h) (Or.inl ⟨by rfl, ?_⟩) ?_ ?_
              rotate_left
              · intro w'
                go_simp
                with_reducible rfl
              rotate_left
              · simp only [Act.put, List.setIfInBounds_toArray, List.set_cons_zero, List.set_cons_succ, i64_w, i32_w]
                rfl
              refine pure_ (i := 5) (N := some 27) (v := ?_) (a' := ?_) #[false, true, false, true, true, true, false, false] rfl rfl (any_of HT_.out (by kernel_rfl)) (fun _ _ _ h => h) (Or.inl ⟨by rfl, ?_⟩) ?_ ?_
              rotate_left
              · intro w'
                go_simp
                with_reducible rfl
              rotate_left
              · simp only [Act.put, List.setIfInBounds_toArray, List.set_cons_zero, List.set_cons_succ, i64_w, i32_w]
                rfl
              refine take_ (i := 0) (N := some 22) (v := ?_) (a' := ?_) #[true, true, false, true, true, true, false, false] rfl rfl (take_ofW HT_.out HW_.out (by kernel_rfl)) (fun _ _ _ h => h) (Or.inl ⟨by rfl, ?_⟩) hHeld ?_ ?_
              rotate_left
              · rintro w' ⟨s0, s1, s2, s3, s4, s5⟩
                go_simp
                with_reducible rfl
              rotate_left
              · simp only [Act.put, List.setIfInBounds_toArray, List.set_cons_zero, List.set_cons_succ, i64_w, i32_w]
                rfl
              refine take_ (i := 6) (N := some 28) (v := ?_) (a' := ?_) #[true, true, false, true, true, true, true, false] rfl rfl (take_ofW HT_.out HW_.out (by kernel_rfl)) (fun _ _ _ h => h) (Or.inl ⟨by rfl, ?_⟩) hHeld ?_ ?_
              rotate_left
              · rintro w' ⟨s0, s1, s2, s3, s4, s5⟩
                go_simp
                with_reducible rfl
              rotate_left
              · simp only [Act.put, List.setIfInBounds_toArray, List.set_cons_zero, List.set_cons_succ, i64_w, i32_w]
                rfl
              refine one_ (i := 2) (N := some 24) #[true, true, true, true, true, true, true, false] rfl rfl (one_of HT_.out (by kernel_rfl)) (by decide) (fun K hK => ?_)
              refine goes_ Tryd.func38 (by kernel_rfl) rfl #[.agg #[.int .u32 a0_0, .int .u32 a0_1, .int .u8 a0_2, .int .u16 a0_3, .int .u16 a0_4], .int .i64 x19_1] (by rfl) rfl rfl (by (try simp only [List.map_toArray, List.map_cons, List.map_nil]); first | done | rfl | (simp only [List.length_drop, List.length_take]; rfl)) ?_
              with_reducible refine (hdr_Bit.calls k1 a0_0 a0_1 a0_2 a0_3 a0_4 x19_1 t519 _ A13.out).mono ?_
              rintro e w19 ⟨rfl, hb⟩
              have HS5_ := (hb.cell (World.block_lt_of_cell? _ _ (hHeld.2.2.2.2.2))).trans (hHeld.2.2.2.2.2)
              refine ⟨_, rfl, ?_⟩
              have n0_ := Aside0.mk (Kd.R_below (by (with_reducible repeat (first | apply Kd.R_alloc | apply Kd.R_drewN | apply Kd.R_drew)); exact HO_7.out) hb)
              have n1_ := Aside0.mk (Kd.R_below (by (with_reducible repeat (first | apply Kd.R_alloc | apply Kd.R_drewN | apply Kd.R_drew)); exact HO_8.out) hb)
              have n2_ := Aside0.mk (blk_below (g := gb511) (o := .cells #[.int .u32 a0_0, .int .u32 a0_1, .int .u8 a0_2, .int .u16 a0_3, .int .u16 a0_4] 67 (0, 0)) (by (with_reducible repeat (first | refine blk_drewN ?_ _ | refine blk_drew ?_ | refine blk_alloc ?_ _)); exact BK511.out) hb)
              have n3_ := Aside0.mk (blk_below (g := gb512) (o := .cells #[.int .u32 a1_0, .int .u32 a1_1, .int .u8 a1_2, .int .u16 a1_3, .int .u16 a1_4] 67 (0, 0)) (by (with_reducible repeat (first | refine blk_drewN ?_ _ | refine blk_drew ?_ | refine blk_alloc ?_ _)); exact BK512.out) hb)
              have n4_ := Aside0.mk (below_step (by repeat (first | (with_reducible first | exact HB.out | apply below_alloc | apply pw_below_drewN | apply below_drew1 | refine below_set ?_ GE511.out | refine below_set ?_ GE512.out) | exact HB.out)) hb)
              clear HO_7
              clear HO_8
              clear BK511
              clear BK512
              clear HB
              have HO_7 := n0_
              have HO_8 := n1_
              have BK511 := n2_
              have BK512 := n3_
              have HB := n4_
              clear n0_ n1_ n2_ n3_ n4_
              (try clear hb)
              (try clear hb2)
              (try clear hk)
              (try clear hi)
              refine hK.out _ _ ⟨(blk_cell BK511.out 0).trans rfl, (blk_cell BK511.out 1).trans rfl, (blk_cell BK511.out 2).trans rfl, (blk_cell BK511.out 3).trans rfl, (blk_cell BK511.out 4).trans rfl, HS5_⟩ (fun hHeld => ?_)
              clear hK K
              refine norm_ (a' := ?_) ?_ ?_
              rotate_left
              · show Act.put _ (some 24) _ = _
                simp only [Act.put, List.setIfInBounds_toArray, List.set_cons_zero, List.set_cons_succ, i64_w, i32_w]
                rfl
              refine pure_ (i := 7) (N := some 29) (v := ?_) (a' := ?_) #[true, true, true, true, true, true, true, true] rfl rfl (any_of HT_.out (by kernel_rfl)) (fun _ _ _ h => h) (Or.inl ⟨by rfl, ?_⟩) ?_ ?_
              rotate_left
              · intro w'
                go_simp
                with_reducible rfl
              rotate_left
              · simp only [Act.put, List.setIfInBounds_toArray, List.set_cons_zero, List.set_cons_succ, i64_w, i32_w]
                rfl
              refine done_ (done_of HT_.out (by kernel_rfl)) ?_
              go_upto_region 8 with (fail)
              go_cut [42] (fun v42 wc => ∃ (kq : Nat) (x42_16 : Bool), v42 = .bool x42_16 ∧ Aside0 (crossbucklaw02_HdrBits.j1 kq a2 t513 t516 x9_1 x19_1 (t513.length : Int) x19_1 x42_16 a0_0 a0_1 a0_2 a0_3 a0_4 a1_0 a1_1 a1_2 a1_3 a1_4 = some r) ∧ Aside0 (kq ≤ k1) ∧ Aside0 (Kd.R Kd.bool 4 wc w.heap.size (fun k_ => some k_ ≠ (v517 : Value).ownBlock) (.slice (some ad520) t513.length co11) t513) ∧ Aside0 (Kd.R Kd.bool 4 wc w.heap.size (fun k_ => some k_ ≠ ((.slice (some ad520) t513.length co11) : Value).ownBlock) v517 t516) ∧ Aside0 (wc.heap[gb511]? = some (.cells #[.int .u32 a0_0, .int .u32 a0_1, .int .u8 a0_2, .int .u16 a0_3, .int .u16 a0_4] 67 (0, 0))) ∧ Aside0 (wc.heap[gb512]? = some (.cells #[.int .u32 a1_0, .int .u32 a1_1, .int .u8 a1_2, .int .u16 a1_3, .int .u16 a1_4] 67 (0, 0))) ∧ Aside0 (Below w.heap.size w wc))
              case first =>
                have H := HC17.out
                clear HC17
                by_cases c20 : x9_1 = 0
                · rw [if_pos c20] at H
                  have c20b0 : (x9_1 == 0) = true := beq_iff_eq.mpr c20
                  have c20b1 : (x9_1 != 0) = false := bne_eq_false_iff_eq.mpr c20
                  clear c20
                  (first | rw [c20b0] | (simp only [i64_w, i32_w]; rw [c20b0]) | skip)
                  by_cases c21 : x19_1 < (t516.length : Int)
                  · rw [if_pos c21] at H
                    have c21b0 : decide (x19_1 < (t516.length : Int)) = true := decide_eq_true c21
                    clear c21
                    have H' := Aside0.mk H
                    clear H
                    try go_wp2
                    have n0_ := Aside0.mk (Kd.R_drew HO_7.out)
                    have n1_ := Aside0.mk (Kd.R_drew HO_8.out)
                    have n2_ := Aside0.mk (blk_drew BK511.out)
                    have n3_ := Aside0.mk (blk_drew BK512.out)
                    have n4_ := Aside0.mk (below_drew1 HB.out)
                    clear HO_7
                    clear HO_8
                    clear BK511
                    clear BK512
                    clear HB
                    have HO_7 := n0_
                    have HO_8 := n1_
                    have BK511 := n2_
                    have BK512 := n3_
                    have HB := n4_
                    clear n0_ n1_ n2_ n3_ n4_
                    have p521 : 0 ≤ (x19_1 : Int) := of_decide_eq_true (by first | (with_reducible assumption) | assumption)
                    have q521 : x19_1 < (t513.length : Int) := of_decide_eq_true (by first | (with_reducible assumption) | assumption)
                    obtain ⟨ad521, e521, hx521_0⟩ := Kd.at_bool (Kd.R_reads' HO_7.out).2.2 x19_1 p521 q521
                    obtain rfl : ad520 = ad521 := (by injection e521)
                    replace p521 := eq_true p521
                    replace q521 := eq_true q521
                    obtain ⟨Ao23, co23, eo23⟩ := Kd.R_slice HO_8.out
                    (first | subst eo23 | (injection eo23 with f1_ f2_ f3_; have f4_ := f1_.symm; have f5_ := f3_.symm; clear f1_ f2_ f3_; subst f4_; subst f5_))
                    have p522 : 0 ≤ (x19_1 : Int) := of_decide_eq_true (by first | (with_reducible assumption) | assumption)
                    have q522 : x19_1 < (t516.length : Int) := of_decide_eq_true (by first | (with_reducible assumption) | assumption)
                    obtain ⟨ad522, e522, hx522_0⟩ := Kd.at_bool (Kd.R_reads' HO_8.out).2.2 x19_1 p522 q522
                    cases e522
                    replace p522 := eq_true p522
                    replace q522 := eq_true q522
                    refine start_ (n := 13) (S := fun w' => w'.cell? (ad520.add (x19_1).toNat) = some (.bool (rdOf false t513 x19_1)) ∧ w'.cell? (ad522.add (x19_1).toNat) = some (.bool (rdOf false t516 x19_1))) (ds := []) #[false, false, false, false, false, false, false, false, false, false, false, false, false] (by kernel_rfl) rfl rfl ⟨hx521_0, hx522_0⟩ (fun hHeld => ?_); refine with_tabW crossbucklaw02_HdrBits.tab8 crossbucklaw02_HdrBits.bits8 (fun HT_ HW_ => ?_)
                    generalize w19.drew = w22 at HO_7 HO_8 BK511 BK512 HB hx521_0 hx522_0 hHeld ⊢
                    refine pure_ (i := 0) (N := some 30) (v := ?_) (a' := ?_) #[true, false, false, false, false, false, false, false, false, false, false, false, false] rfl rfl (any_of HT_.out (by kernel_rfl)) (fun _ _ _ h => h) (Or.inl ⟨by rfl, ?_⟩) ?_ ?_
                    rotate_left
                    · intro w'
                      go_simp
                      with_reducible rfl
                    rotate_left
                    · simp only [Act.put, List.setIfInBounds_toArray, List.set_cons_zero, List.set_cons_succ, i64_w, i32_w]
                      rfl
                    refine pure_ (i := 1) (N := some 31) (v := ?_) (a' := ?_) #[true, true, false, false, false, false, false, false, false, false, false, false, false] rfl rfl (any_of HT_.out (by kernel_rfl)) (fun _ _ _ h => h) (Or.inl ⟨by rfl, ?_⟩) ?_ ?_
                    rotate_left
                    · intro w'
                      go_simp
                      with_reducible rfl
                    rotate_left
                    · simp only [Act.put, List.setIfInBounds_toArray, List.set_cons_zero, List.set_cons_succ, i64_w, i32_w]
                      rfl
                    refine pure_ (i := 2) (N := some 32) (v := ?_) (a' := ?_) #[true, true, true, false, false, false, false, false, false, false, false, false, false] rfl rfl (any_of HT_.out (by kernel_rfl)) (fun _ _ _ h => h) (Or.inl ⟨by rfl, ?_⟩) ?_ ?_
                    rotate_left
                    · intro w'
                      go_simp
                      with_reducible rfl
                    rotate_left
                    · simp only [Act.put, List.setIfInBounds_toArray, List.set_cons_zero, List.set_cons_succ, i64_w, i32_w]
                      rfl
                    refine pure_ (i := 3) (N := some 33) (v := ?_) (a' := ?_) #[true, true, true, true, false, false, false, false, false, false, false, false, false] rfl rfl (any_of HT_.out (by kernel_rfl)) (fun _ _ _ h => h) (Or.inl ⟨by rfl, ?_⟩) ?_ ?_
                    rotate_left
                    · intro w'
                      go_simp
                      with_reducible rfl
                    rotate_left
                    · simp only [Act.put, List.setIfInBounds_toArray, List.set_cons_zero, List.set_cons_succ, i64_w, i32_w]
                      rfl
                    refine pure_ (i := 4) (N := some 34) (v := ?_) (a' := ?_) #[true, true, true, true, true, false, false, false, false, false, false, false, false] rfl rfl (any_of HT_.out (by kernel_rfl)) (fun _ _ _ h => h) (Or.inl ⟨by rfl, ?_⟩) ?_ ?_
                    rotate_left
                    · intro w'
                      go_simp
                      with_reducible rfl
                    rotate_left
                    · simp only [Act.put, List.setIfInBounds_toArray, List.set_cons_zero, List.set_cons_succ, i64_w, i32_w]
                      rfl
                    refine pure_ (i := 5) (N := some 35) (v := ?_) (a' := ?_) #[true, true, true, true, true, true, false, false, false, false, false, false, false] rfl rfl (any_of HT_.out (by kernel_rfl)) (fun _ _ _ h => h) (Or.inl ⟨by rfl, ?_⟩) ?_ ?_
                    rotate_left
                    · intro w'
                      go_simp
                      with_reducible rfl
                    rotate_left
                    · simp only [Act.put, List.setIfInBounds_toArray, List.set_cons_zero, List.set_cons_succ, i64_w, i32_w]
                      rfl
                    refine pure_ (i := 7) (N := some 37) (v := ?_) (a' := ?_) #[true, true, true, true, true, true, false, true, false, false, false, false, false] rfl rfl (any_of HT_.out (by kernel_rfl)) (fun _ _ _ h => h) (Or.inl ⟨by rfl, ?_⟩) ?_ ?_
                    rotate_left
                    · intro w'
                      go_simp
                      with_reducible rfl
                    rotate_left
                    · simp only [Act.put, List.setIfInBounds_toArray, List.set_cons_zero, List.set_cons_succ, i64_w, i32_w]
                      rfl
                    refine pure_ (i := 8) (N := some 38) (v := ?_) (a' := ?_) #[true, true, true, true, true, true, false, true, true, false, false, false, false] rfl rfl (any_of HT_.out (by kernel_rfl)) (fun _ _ _ h => h) (Or.inl ⟨by rfl, ?_⟩) ?_ ?_
                    rotate_left
                    · intro w'
                      go_simp
                      with_reducible rfl
                    rotate_left
                    · simp only [Act.put, List.setIfInBounds_toArray, List.set_cons_zero, List.set_cons_succ, i64_w, i32_w]
                      rfl
                    refine pure_ (i := 9) (N := some 39) (v := ?_) (a' := ?_) #[true, true, true, true, true, true, false, true, true, true, false, false, false] rfl rfl (any_of HT_.out (by kernel_rfl)) (fun _ _ _ h => h) (Or.inl ⟨by rfl, ?_⟩) ?_ ?_
                    rotate_left
                    · intro w'
                      go_simp
                      with_reducible rfl
                    rotate_left
                    · simp only [Act.put, List.setIfInBounds_toArray, List.set_cons_zero, List.set_cons_succ, i64_w, i32_w]
                      rfl
                    refine take_ (i := 6) (N := some 36) (v := ?_) (a' := ?_) #[true, true, true, true, true, true, true, true, true, true, false, false, false] rfl rfl (take_ofW HT_.out HW_.out (by kernel_rfl)) (fun _ _ _ h => h) (Or.inl ⟨by rfl, ?_⟩) hHeld ?_ ?_
                    rotate_left
                    · rintro w' ⟨s0, s1⟩
                      go_simp
                      with_reducible rfl
                    rotate_left
                    · simp only [Act.put, List.setIfInBounds_toArray, List.set_cons_zero, List.set_cons_succ, i64_w, i32_w]
                      rfl
                    refine take_ (i := 10) (N := some 40) (v := ?_) (a' := ?_) #[true, true, true, true, true, true, true, true, true, true, true, false, false] rfl rfl (take_ofW HT_.out HW_.out (by kernel_rfl)) (fun _ _ _ h => h) (Or.inl ⟨by rfl, ?_⟩) hHeld ?_ ?_
                    rotate_left
                    · rintro w' ⟨s0, s1⟩
                      go_simp
                      with_reducible rfl
                    rotate_left
                    · simp only [Act.put, List.setIfInBounds_toArray, List.set_cons_zero, List.set_cons_succ, i64_w, i32_w]
                      rfl
                    refine pure_ (i := 11) (N := some 41) (v := ?_) (a' := ?_) #[true, true, true, true, true, true, true, true, true, true, true, true, false] rfl rfl (any_of HT_.out (by kernel_rfl)) (fun _ _ _ h => h) (Or.inl ⟨by rfl, ?_⟩) ?_ ?_
                    rotate_left
                    · intro w'
                      go_simp
                      with_reducible rfl
                    rotate_left
                    · simp only [Act.put, List.setIfInBounds_toArray, List.set_cons_zero, List.set_cons_succ, i64_w, i32_w]
                      rfl
                    refine pure_ (i := 12) (N := some 42) (v := ?_) (a' := ?_) #[true, true, true, true, true, true, true, true, true, true, true, true, true] rfl rfl (any_of HT_.out (by kernel_rfl)) (fun _ _ _ h => h) (Or.inl ⟨by rfl, ?_⟩) ?_ ?_
                    rotate_left
                    · intro w'
                      go_simp
                      with_reducible rfl
                    rotate_left
                    · simp only [Act.put, List.setIfInBounds_toArray, List.set_cons_zero, List.set_cons_succ, i64_w, i32_w]
                      rfl
                    refine done_ (done_of HT_.out (by kernel_rfl)) ?_
                    try go_wp2
                    go_meet
                    case rel => exact ⟨_, (((rdOf false t513 x19_1) != (rdOf false t516 x19_1))), (by first | rfl | (simp; done) | (simp [*]; done)), H', ⟨by have := HK1.out; first | omega | exact Nat.le_refl _⟩, ⟨by (with_reducible repeat (first | apply Kd.R_alloc | apply Kd.R_drewN | apply Kd.R_drew)); exact HO_7.out⟩, ⟨by (with_reducible repeat (first | apply Kd.R_alloc | apply Kd.R_drewN | apply Kd.R_drew)); exact HO_8.out⟩, ⟨by (with_reducible repeat (first | refine blk_drewN ?_ _ | refine blk_drew ?_ | refine blk_alloc ?_ _)); exact BK511.out⟩, ⟨by (with_reducible repeat (first | refine blk_drewN ?_ _ | refine blk_drew ?_ | refine blk_alloc ?_ _)); exact BK512.out⟩, ⟨by repeat (first | (with_reducible first | exact HB.out | apply below_alloc | apply pw_below_drewN | apply below_drew1 | refine below_set ?_ GE511.out | refine below_set ?_ GE512.out) | exact HB.out)⟩⟩
                  · rw [if_neg c21] at H
                    exact absurd H (by simp)
                · rw [if_neg c20] at H
                  have c20b0 : (x9_1 == 0) = false := beq_eq_false_iff_ne.mpr c20
                  have c20b1 : (x9_1 != 0) = true := bne_iff_ne.mpr c20
                  (first | rw [c20b0] | (simp only [i64_w, i32_w]; rw [c20b0]) | skip)
                  have H' := Aside0.mk H
                  clear H
                  try go_wp2
                  have n0_ := Aside0.mk (Kd.R_drew HO_7.out)
                  have n1_ := Aside0.mk (Kd.R_drew HO_8.out)
                  have n2_ := Aside0.mk (blk_drew BK511.out)
                  have n3_ := Aside0.mk (blk_drew BK512.out)
                  have n4_ := Aside0.mk (below_drew1 HB.out)
                  clear HO_7
                  clear HO_8
                  clear BK511
                  clear BK512
                  clear HB
                  have HO_7 := n0_
                  have HO_8 := n1_
                  have BK511 := n2_
                  have BK512 := n3_
                  have HB := n4_
                  clear n0_ n1_ n2_ n3_ n4_
                  refine start_ (n := 13) (S := fun w' => True) (ds := []) #[false, false, false, false, false, false, false, false, false, false, false, false, false] (by kernel_rfl) rfl rfl trivial (fun hHeld => ?_); refine with_tabW crossbucklaw02_HdrBits.tab8 crossbucklaw02_HdrBits.bits8 (fun HT_ HW_ => ?_)
                  generalize w19.drew = w24 at HO_7 HO_8 BK511 BK512 HB hHeld ⊢
                  refine pure_ (i := 0) (N := some 30) (v := ?_) (a' := ?_) #[true, false, false, false, false, false, false, false, false, false, false, false, false] rfl rfl (any_of HT_.out (by kernel_rfl)) (fun _ _ _ h => h) (Or.inl ⟨by rfl, ?_⟩) ?_ ?_
                  rotate_left
                  · intro w'
                    go_simp
                    with_reducible rfl
                  rotate_left
                  · simp only [Act.put, List.setIfInBounds_toArray, List.set_cons_zero, List.set_cons_succ, i64_w, i32_w]
                    rfl
                  refine pure_ (i := 1) (N := some 31) (v := ?_) (a' := ?_) #[true, true, false, false, false, false, false, false, false, false, false, false, false] rfl rfl (any_of HT_.out (by kernel_rfl)) (fun _ _ _ h => h) (Or.inl ⟨by rfl, ?_⟩) ?_ ?_
                  rotate_left
                  · intro w'
                    go_simp
                    with_reducible rfl
                  rotate_left
                  · simp only [Act.put, List.setIfInBounds_toArray, List.set_cons_zero, List.set_cons_succ, i64_w, i32_w]
                    rfl
                  refine pure_ (i := 2) (N := some 32) (v := ?_) (a' := ?_) #[true, true, true, false, false, false, false, false, false, false, false, false, false] rfl rfl (any_of HT_.out (by kernel_rfl)) (fun _ _ _ h => h) (Or.inl ⟨by rfl, ?_⟩) ?_ ?_
                  rotate_left
                  · intro w'
                    go_simp
                    with_reducible rfl
                  rotate_left
                  · simp only [Act.put, List.setIfInBounds_toArray, List.set_cons_zero, List.set_cons_succ, i64_w, i32_w]
                    rfl
                  refine pure_ (i := 3) (N := some 33) (v := undef) (a' := ?_) #[true, true, true, true, false, false, false, false, false, false, false, false, false] rfl rfl (any_of HT_.out (by kernel_rfl)) (fun _ _ _ h => h) (Or.inr ⟨by rfl, rfl⟩) ?_ ?_
                  rotate_left
                  · simp only [Act.put, List.setIfInBounds_toArray, List.set_cons_zero, List.set_cons_succ, i64_w, i32_w]
                    rfl
                  refine pure_ (i := 4) (N := some 34) (v := undef) (a' := ?_) #[true, true, true, true, true, false, false, false, false, false, false, false, false] rfl rfl (any_of HT_.out (by kernel_rfl)) (fun _ _ _ h => h) (Or.inr ⟨by rfl, rfl⟩) ?_ ?_
                  rotate_left
                  · simp only [Act.put, List.setIfInBounds_toArray, List.set_cons_zero, List.set_cons_succ, i64_w, i32_w]
                    rfl
                  refine pure_ (i := 5) (N := some 35) (v := undef) (a' := ?_) #[true, true, true, true, true, true, false, false, false, false, false, false, false] rfl rfl (any_of HT_.out (by kernel_rfl)) (fun _ _ _ h => h) (Or.inr ⟨by rfl, rfl⟩) ?_ ?_
                  rotate_left
                  · simp only [Act.put, List.setIfInBounds_toArray, List.set_cons_zero, List.set_cons_succ, i64_w, i32_w]
                    rfl
                  refine pure_ (i := 6) (N := some 36) (v := undef) (a' := ?_) #[true, true, true, true, true, true, true, false, false, false, false, false, false] rfl rfl (any_of HT_.out (by kernel_rfl)) (fun _ _ _ h => h) (Or.inr ⟨by rfl, rfl⟩) ?_ ?_
                  rotate_left
                  · simp only [Act.put, List.setIfInBounds_toArray, List.set_cons_zero, List.set_cons_succ, i64_w, i32_w]
                    rfl
                  refine pure_ (i := 7) (N := some 37) (v := undef) (a' := ?_) #[true, true, true, true, true, true, true, true, false, false, false, false, false] rfl rfl (any_of HT_.out (by kernel_rfl)) (fun _ _ _ h => h) (Or.inr ⟨by rfl, rfl⟩) ?_ ?_
                  rotate_left
                  · simp only [Act.put, List.setIfInBounds_toArray, List.set_cons_zero, List.set_cons_succ, i64_w, i32_w]
                    rfl
                  refine pure_ (i := 8) (N := some 38) (v := undef) (a' := ?_) #[true, true, true, true, true, true, true, true, true, false, false, false, false] rfl rfl (any_of HT_.out (by kernel_rfl)) (fun _ _ _ h => h) (Or.inr ⟨by rfl, rfl⟩) ?_ ?_
                  rotate_left
                  · simp only [Act.put, List.setIfInBounds_toArray, List.set_cons_zero, List.set_cons_succ, i64_w, i32_w]
                    rfl
                  refine pure_ (i := 9) (N := some 39) (v := undef) (a' := ?_) #[true, true, true, true, true, true, true, true, true, true, false, false, false] rfl rfl (any_of HT_.out (by kernel_rfl)) (fun _ _ _ h => h) (Or.inr ⟨by rfl, rfl⟩) ?_ ?_
                  rotate_left
                  · simp only [Act.put, List.setIfInBounds_toArray, List.set_cons_zero, List.set_cons_succ, i64_w, i32_w]
                    rfl
                  refine pure_ (i := 10) (N := some 40) (v := undef) (a' := ?_) #[true, true, true, true, true, true, true, true, true, true, true, false, false] rfl rfl (any_of HT_.out (by kernel_rfl)) (fun _ _ _ h => h) (Or.inr ⟨by rfl, rfl⟩) ?_ ?_
                  rotate_left
                  · simp only [Act.put, List.setIfInBounds_toArray, List.set_cons_zero, List.set_cons_succ, i64_w, i32_w]
                    rfl
                  refine pure_ (i := 11) (N := some 41) (v := undef) (a' := ?_) #[true, true, true, true, true, true, true, true, true, true, true, true, false] rfl rfl (any_of HT_.out (by kernel_rfl)) (fun _ _ _ h => h) (Or.inr ⟨by rfl, rfl⟩) ?_ ?_
                  rotate_left
                  · simp only [Act.put, List.setIfInBounds_toArray, List.set_cons_zero, List.set_cons_succ, i64_w, i32_w]
                    rfl
                  refine pure_ (i := 12) (N := some 42) (v := ?_) (a' := ?_) #[true, true, true, true, true, true, true, true, true, true, true, true, true] rfl rfl (any_of HT_.out (by kernel_rfl)) (fun _ _ _ h => h) (Or.inl ⟨by rfl, ?_⟩) ?_ ?_
                  rotate_left
                  · intro w'
                    go_simp
                    with_reducible rfl
                  rotate_left
                  · simp only [Act.put, List.setIfInBounds_toArray, List.set_cons_zero, List.set_cons_succ, i64_w, i32_w]
                    rfl
                  refine done_ (done_of HT_.out (by kernel_rfl)) ?_
                  try go_wp2
                  go_meet
                  case rel => exact ⟨_, (false), (by first | rfl | (simp; done) | (simp [*]; done)), H', ⟨by have := HK1.out; first | omega | exact Nat.le_refl _⟩, ⟨by (with_reducible repeat (first | apply Kd.R_alloc | apply Kd.R_drewN | apply Kd.R_drew)); exact HO_7.out⟩, ⟨by (with_reducible repeat (first | apply Kd.R_alloc | apply Kd.R_drewN | apply Kd.R_drew)); exact HO_8.out⟩, ⟨by (with_reducible repeat (first | refine blk_drewN ?_ _ | refine blk_drew ?_ | refine blk_alloc ?_ _)); exact BK511.out⟩, ⟨by (with_reducible repeat (first | refine blk_drewN ?_ _ | refine blk_drew ?_ | refine blk_alloc ?_ _)); exact BK512.out⟩, ⟨by repeat (first | (with_reducible first | exact HB.out | apply below_alloc | apply pw_below_drewN | apply below_drew1 | refine below_set ?_ GE511.out | refine below_set ?_ GE512.out) | exact HB.out)⟩⟩
              case rest =>
                clear HC17
                try clear c1
                try clear c2
                try clear p2
                try clear c3
                try clear p5
                try clear q5
                try clear hx5
                try clear c7
                try clear c12
                try clear c12b0
                try clear c14
                try clear c14b0
                try clear c15
                try clear c15b0
                try clear c16
                try clear c16b0
                try clear c16b1
                try clear c16b2
                try clear c20
                try clear c20b0
                try clear c20b1
                try clear c21
                try clear c21b0
                try clear hx520_0
                try clear hx521_0
                try clear hx522_0
                try clear p2
                try clear p520
                try clear p521
                try clear p522
                try clear q520
                try clear q521
                try clear q522
                obtain ⟨kq, x42_16, rfl, HA, HJ16, HO_7, HO_8, BK511, BK512, HB⟩ := hcut
                cases kq with
                | zero => exact absurd HA.out (by simp [crossbucklaw02_HdrBits.j1])
                | succ kj16 =>
                  have H := HA.out
                  clear HA
                  simp only [crossbucklaw02_HdrBits.j1] at H
                  by_cases c25 : x42_16 = true
                  · subst c25
                    have H1 : (if 0 ≤ x19_1 then (if x19_1 < (t516.length : Int) then (if rdOf false t516 x19_1 = true then (crossbucklaw02_HdrBits.l0 kj16 a2 t513 t516 (-1) (t513.length : Int) (wrap64 (x19_1 + 1)) a0_0 a0_1 a0_2 a0_3 a0_4 a1_0 a1_1 a1_2 a1_3 a1_4) else (crossbucklaw02_HdrBits.l0 kj16 a2 t513 t516 1 (t513.length : Int) (wrap64 (x19_1 + 1)) a0_0 a0_1 a0_2 a0_3 a0_4 a1_0 a1_1 a1_2 a1_3 a1_4)) else (none)) else (none)) = some r := by rw [if_pos rfl] at H; exact H
                    clear H
                    have H := H1
                    clear H1
                    by_cases c26 : 0 ≤ x19_1
                    · rw [if_pos c26] at H
                      have c26b0 : decide (0 ≤ x19_1) = true := decide_eq_true c26
                      clear c26
                      by_cases c27 : x19_1 < (t516.length : Int)
                      · rw [if_pos c27] at H
                        have c27b0 : decide (x19_1 < (t516.length : Int)) = true := decide_eq_true c27
                        clear c27
                        obtain ⟨bq28, hbq28⟩ : ∃ b_ : Bool, b_ = (rdOf false t516 x19_1) := ⟨_, rfl⟩
                        replace H : (if bq28 = true then (crossbucklaw02_HdrBits.l0 kj16 a2 t513 t516 (-1) (t513.length : Int) (wrap64 (x19_1 + 1)) a0_0 a0_1 a0_2 a0_3 a0_4 a1_0 a1_1 a1_2 a1_3 a1_4) else (crossbucklaw02_HdrBits.l0 kj16 a2 t513 t516 1 (t513.length : Int) (wrap64 (x19_1 + 1)) a0_0 a0_1 a0_2 a0_3 a0_4 a1_0 a1_1 a1_2 a1_3 a1_4)) = some r := by rw [← hbq28] at H; exact H
                        have Nbq28 := Aside0.mk hbq28
                        clear hbq28
                        by_cases c29 : bq28 = true
                        · subst c29
                          have H1 : (crossbucklaw02_HdrBits.l0 kj16 a2 t513 t516 (-1) (t513.length : Int) (wrap64 (x19_1 + 1)) a0_0 a0_1 a0_2 a0_3 a0_4 a1_0 a1_1 a1_2 a1_3 a1_4) = some r := by rw [if_pos rfl] at H; exact H
                          clear H
                          have H := H1
                          clear H1
                          have H' := Aside0.mk H
                          clear H
                          obtain ⟨Ao30, co30, eo30⟩ := Kd.R_slice HO_8.out
                          subst eo30
                          have p523 : 0 ≤ (x19_1 : Int) := of_decide_eq_true (by first | (with_reducible assumption) | assumption)
                          have q523 : x19_1 < (t516.length : Int) := of_decide_eq_true (by first | (with_reducible assumption) | assumption)
                          obtain ⟨ad523, e523, hx523_0⟩ := Kd.at_bool (Kd.R_reads' HO_8.out).2.2 x19_1 p523 q523
                          (try rw [← Nbq28.out] at hx523_0)
                          cases e523
                          replace p523 := eq_true p523
                          replace q523 := eq_true q523
                          go_wp2
                          go_roundg kj16
                          case measure => have := HK1.out; have := HJ16.out; omega
                          case rel => exact ⟨((-1)), (wrap64 (x19_1 + 1)), (by first | rfl | (simp; done) | (simp [*]; done)), (by first | rfl | (simp; done) | (simp [*]; done)), H', ⟨by have := HK1.out; have := HJ16.out; omega⟩, ⟨by (with_reducible repeat (first | apply Kd.R_alloc | apply Kd.R_drewN | apply Kd.R_drew)); exact HO_7.out⟩, ⟨by (with_reducible repeat (first | apply Kd.R_alloc | apply Kd.R_drewN | apply Kd.R_drew)); exact HO_8.out⟩, ⟨by (with_reducible repeat (first | refine blk_drewN ?_ _ | refine blk_drew ?_ | refine blk_alloc ?_ _)); exact BK511.out⟩, ⟨by (with_reducible repeat (first | refine blk_drewN ?_ _ | refine blk_drew ?_ | refine blk_alloc ?_ _)); exact BK512.out⟩, ⟨by repeat (first | (with_reducible first | exact HB.out | apply below_alloc | apply pw_below_drewN | apply below_drew1 | refine below_set ?_ GE511.out | refine below_set ?_ GE512.out) | exact HB.out)⟩⟩
                        · replace c29 := Bool.eq_false_iff.mpr c29
                          subst c29
                          have H1 : (crossbucklaw02_HdrBits.l0 kj16 a2 t513 t516 1 (t513.length : Int) (wrap64 (x19_1 + 1)) a0_0 a0_1 a0_2 a0_3 a0_4 a1_0 a1_1 a1_2 a1_3 a1_4) = some r := by rw [if_neg (show ¬ (false = true) by decide)] at H; exact H
                          clear H
                          have H := H1
                          clear H1
                          have H' := Aside0.mk H
                          clear H
                          obtain ⟨Ao31, co31, eo31⟩ := Kd.R_slice HO_8.out
                          subst eo31
                          have p523 : 0 ≤ (x19_1 : Int) := of_decide_eq_true (by first | (with_reducible assumption) | assumption)
                          have q523 : x19_1 < (t516.length : Int) := of_decide_eq_true (by first | (with_reducible assumption) | assumption)
                          obtain ⟨ad523, e523, hx523_0⟩ := Kd.at_bool (Kd.R_reads' HO_8.out).2.2 x19_1 p523 q523
                          (try rw [← Nbq28.out] at hx523_0)
                          cases e523
                          replace p523 := eq_true p523
                          replace q523 := eq_true q523
                          go_wp2
                          go_roundg kj16
                          case measure => have := HK1.out; have := HJ16.out; omega
                          case rel => exact ⟨(1), (wrap64 (x19_1 + 1)), (by first | rfl | (simp; done) | (simp [*]; done)), (by first | rfl | (simp; done) | (simp [*]; done)), H', ⟨by have := HK1.out; have := HJ16.out; omega⟩, ⟨by (with_reducible repeat (first | apply Kd.R_alloc | apply Kd.R_drewN | apply Kd.R_drew)); exact HO_7.out⟩, ⟨by (with_reducible repeat (first | apply Kd.R_alloc | apply Kd.R_drewN | apply Kd.R_drew)); exact HO_8.out⟩, ⟨by (with_reducible repeat (first | refine blk_drewN ?_ _ | refine blk_drew ?_ | refine blk_alloc ?_ _)); exact BK511.out⟩, ⟨by (with_reducible repeat (first | refine blk_drewN ?_ _ | refine blk_drew ?_ | refine blk_alloc ?_ _)); exact BK512.out⟩, ⟨by repeat (first | (with_reducible first | exact HB.out | apply below_alloc | apply pw_below_drewN | apply below_drew1 | refine below_set ?_ GE511.out | refine below_set ?_ GE512.out) | exact HB.out)⟩⟩
                      · rw [if_neg c27] at H
                        exact absurd H (by simp)
                    · rw [if_neg c26] at H
                      exact absurd H (by simp)
                  · replace c25 := Bool.eq_false_iff.mpr c25
                    subst c25
                    have H1 : (crossbucklaw02_HdrBits.l0 kj16 a2 t513 t516 x9_1 (t513.length : Int) (wrap64 (x19_1 + 1)) a0_0 a0_1 a0_2 a0_3 a0_4 a1_0 a1_1 a1_2 a1_3 a1_4) = some r := by rw [if_neg (show ¬ (false = true) by decide)] at H; exact H
                    clear H
                    have H := H1
                    clear H1
                    have H' := Aside0.mk H
                    clear H
                    go_wp2
                    go_roundg kj16
                    case measure => have := HK1.out; have := HJ16.out; omega
                    case rel => exact ⟨(x9_1), (wrap64 (x19_1 + 1)), (by first | rfl | (simp; done) | (simp [*]; done)), (by first | rfl | (simp; done) | (simp [*]; done)), H', ⟨by have := HK1.out; have := HJ16.out; omega⟩, ⟨by (with_reducible repeat (first | apply Kd.R_alloc | apply Kd.R_drewN | apply Kd.R_drew)); exact HO_7.out⟩, ⟨by (with_reducible repeat (first | apply Kd.R_alloc | apply Kd.R_drewN | apply Kd.R_drew)); exact HO_8.out⟩, ⟨by (with_reducible repeat (first | refine blk_drewN ?_ _ | refine blk_drew ?_ | refine blk_alloc ?_ _)); exact BK511.out⟩, ⟨by (with_reducible repeat (first | refine blk_drewN ?_ _ | refine blk_drew ?_ | refine blk_alloc ?_ _)); exact BK512.out⟩, ⟨by repeat (first | (with_reducible first | exact HB.out | apply below_alloc | apply pw_below_drewN | apply below_drew1 | refine below_set ?_ GE511.out | refine below_set ?_ GE512.out) | exact HB.out)⟩⟩
          · rw [if_neg c15] at H
            exact absurd H (by simp)
        · rw [if_neg c14] at H
          exact absurd H (by simp)
      · rw [if_neg c12] at H
        have c12b0 : decide (x19_1 < (t513.length : Int)) = false := decide_eq_false c12
        clear c12
        have HC32 := Aside0.mk H
        clear H
        go_upto_region 13 with (fail)
        go_cut [58] (fun v58 wc => ∃ (kq : Nat) (x58_31 : Bool), v58 = .bool x58_31 ∧ Aside0 (crossbucklaw02_HdrBits.j2 kq a2 t513 x58_31 a0_0 a0_1 a0_2 a0_3 a0_4 = some r) ∧ Aside0 (kq ≤ k1) ∧ Aside0 (Kd.R Kd.bool 4 wc w.heap.size (fun _ => True) (.slice Ao11 t513.length co11) t513) ∧ Aside0 (wc.heap[gb511]? = some (.cells #[.int .u32 a0_0, .int .u32 a0_1, .int .u8 a0_2, .int .u16 a0_3, .int .u16 a0_4] 67 (0, 0))) ∧ Aside0 (wc.heap[gb512]? = some (.cells #[.int .u32 a1_0, .int .u32 a1_1, .int .u8 a1_2, .int .u16 a1_3, .int .u16 a1_4] 67 (0, 0))) ∧ Aside0 (Below w.heap.size w wc))
        case first =>
          have H := HC32.out
          clear HC32
          replace H := Option.bind_eq_some_iff.mp H
          obtain ⟨t524, A330, H⟩ := H
          replace H : (if t524 = x9_1 then ((crossbuckref02_Back.f k1 t513).bind fun bt525 => (crossbucklaw02_HdrBits.j2 k1 a2 t513 (!(bt525.1 == a0_0) || (!(bt525.2.1 == a0_1) || (!(bt525.2.2.1 == a0_2) || (!(bt525.2.2.2.1 == a0_3) || (!(bt525.2.2.2.2 == a0_4)))))) a0_0 a0_1 a0_2 a0_3 a0_4)) else (crossbucklaw02_HdrBits.j2 k1 a2 t513 true a0_0 a0_1 a0_2 a0_3 a0_4)) = some r := H
          have A33 := Aside0.mk A330
          clear A330
          by_cases c34 : t524 = x9_1
          · rw [if_pos c34] at H
            have c34b0 : (t524 == x9_1) = true := beq_iff_eq.mpr c34
            have c34b1 : (t524 != x9_1) = false := bne_eq_false_iff_eq.mpr c34
            clear c34
            (first | rw [c34b0] | (simp only [i64_w, i32_w]; rw [c34b0]) | skip)
            replace H := Option.bind_eq_some_iff.mp H
            obtain ⟨⟨t525, t526, t527, t528, t529⟩, A350, H⟩ := H
            replace H : (crossbucklaw02_HdrBits.j2 k1 a2 t513 (!(t525 == a0_0) || (!(t526 == a0_1) || (!(t527 == a0_2) || (!(t528 == a0_3) || (!(t529 == a0_4)))))) a0_0 a0_1 a0_2 a0_3 a0_4) = some r := H
            have A35 := Aside0.mk A350
            clear A350
            have H' := Aside0.mk H
            clear H
            try go_wp2
            have n0_ := Aside0.mk (Kd.R_drew HO_7.out)
            have n1_ := Aside0.mk (Kd.R_drew HO_8.out)
            have n2_ := Aside0.mk (blk_drew BK511.out)
            have n3_ := Aside0.mk (blk_drew BK512.out)
            have n4_ := Aside0.mk (below_drew1 HB.out)
            clear HO_7
            clear HO_8
            clear BK511
            clear BK512
            clear HB
            have HO_7 := n0_
            have HO_8 := n1_
            have BK511 := n2_
            have BK512 := n3_
            have HB := n4_
            clear n0_ n1_ n2_ n3_ n4_
            refine start_ (n := 11) (S := fun w' => w'.cell? ⟨gb511, 0, none⟩ = some (.int .u32 a0_0) ∧ w'.cell? ⟨gb511, 1, none⟩ = some (.int .u32 a0_1) ∧ w'.cell? ⟨gb511, 2, none⟩ = some (.int .u8 a0_2) ∧ w'.cell? ⟨gb511, 3, none⟩ = some (.int .u16 a0_3) ∧ w'.cell? ⟨gb511, 4, none⟩ = some (.int .u16 a0_4) ∧ w'.cell? ⟨gb512, 0, none⟩ = some (.int .u32 a1_0) ∧ w'.cell? ⟨gb512, 1, none⟩ = some (.int .u32 a1_1) ∧ w'.cell? ⟨gb512, 2, none⟩ = some (.int .u8 a1_2) ∧ w'.cell? ⟨gb512, 3, none⟩ = some (.int .u16 a1_3) ∧ w'.cell? ⟨gb512, 4, none⟩ = some (.int .u16 a1_4)) (ds := []) #[false, false, false, false, false, false, false, false, false, false, false] (by kernel_rfl) rfl rfl ⟨(blk_cell BK511.out 0).trans rfl, (blk_cell BK511.out 1).trans rfl, (blk_cell BK511.out 2).trans rfl, (blk_cell BK511.out 3).trans rfl, (blk_cell BK511.out 4).trans rfl, (blk_cell BK512.out 0).trans rfl, (blk_cell BK512.out 1).trans rfl, (blk_cell BK512.out 2).trans rfl, (blk_cell BK512.out 3).trans rfl, (blk_cell BK512.out 4).trans rfl⟩ (fun hHeld => ?_); refine with_tabW crossbucklaw02_HdrBits.tab13 crossbucklaw02_HdrBits.bits13 (fun HT_ HW_ => ?_)
            generalize wr.drew = w36 at HO_7 HO_8 BK511 BK512 HB hHeld ⊢
            refine pure_ (i := 3) (N := some 51) (v := ?_) (a' := ?_) #[false, false, false, true, false, false, false, false, false, false, false] rfl rfl (any_of HT_.out (by kernel_rfl)) (fun _ _ _ h => h) (Or.inl ⟨by rfl, ?_⟩) ?_ ?_
            rotate_left
            · intro w'
              go_simp
              with_reducible rfl
            rotate_left
            · simp only [Act.put, List.setIfInBounds_toArray, List.set_cons_zero, List.set_cons_succ, i64_w, i32_w]
              rfl
            refine take_ (i := 0) (N := some 48) (v := ?_) (a' := ?_) #[true, false, false, true, false, false, false, false, false, false, false] rfl rfl (take_ofW HT_.out HW_.out (by kernel_rfl)) (fun _ _ _ h => h) (Or.inl ⟨by rfl, ?_⟩) hHeld ?_ ?_
            rotate_left
            · rintro w' ⟨s0, s1, s2, s3, s4, s5, s6, s7, s8, s9⟩
              go_simp
              with_reducible rfl
            rotate_left
            · simp only [Act.put, List.setIfInBounds_toArray, List.set_cons_zero, List.set_cons_succ, i64_w, i32_w]
              rfl
            refine take_ (i := 1) (N := some 49) (v := ?_) (a' := ?_) #[true, true, false, true, false, false, false, false, false, false, false] rfl rfl (take_ofW HT_.out HW_.out (by kernel_rfl)) (fun _ _ _ h => h) (Or.inl ⟨by rfl, ?_⟩) hHeld ?_ ?_
            rotate_left
            · rintro w' ⟨s0, s1, s2, s3, s4, s5, s6, s7, s8, s9⟩
              go_simp
              with_reducible rfl
            rotate_left
            · simp only [Act.put, List.setIfInBounds_toArray, List.set_cons_zero, List.set_cons_succ, i64_w, i32_w]
              rfl
            refine one_ (i := 2) (N := some 50) #[true, true, true, true, false, false, false, false, false, false, false] rfl rfl (one_of HT_.out (by kernel_rfl)) (by decide) (fun K hK => ?_)
            refine goes_ Tryd.func39 (by kernel_rfl) rfl #[.agg #[.int .u32 a0_0, .int .u32 a0_1, .int .u8 a0_2, .int .u16 a0_3, .int .u16 a0_4], .agg #[.int .u32 a1_0, .int .u32 a1_1, .int .u8 a1_2, .int .u16 a1_3, .int .u16 a1_4]] (by rfl) rfl rfl (by (try simp only [List.map_toArray, List.map_cons, List.map_nil]); first | done | rfl | (simp only [List.length_drop, List.length_take]; rfl)) ?_
            with_reducible refine (hdr_Compare.calls k1 a0_0 a0_1 a0_2 a0_3 a0_4 a1_0 a1_1 a1_2 a1_3 a1_4 t524 _ A33.out).mono ?_
            rintro e w37 ⟨rfl, hb⟩
            refine ⟨_, rfl, ?_⟩
            have n0_ := Aside0.mk (Kd.R_below (by (with_reducible repeat (first | apply Kd.R_alloc | apply Kd.R_drewN | apply Kd.R_drew)); exact HO_7.out) hb)
            have n1_ := Aside0.mk (Kd.R_below (by (with_reducible repeat (first | apply Kd.R_alloc | apply Kd.R_drewN | apply Kd.R_drew)); exact HO_8.out) hb)
            have n2_ := Aside0.mk (blk_below (g := gb511) (o := .cells #[.int .u32 a0_0, .int .u32 a0_1, .int .u8 a0_2, .int .u16 a0_3, .int .u16 a0_4] 67 (0, 0)) (by (with_reducible repeat (first | refine blk_drewN ?_ _ | refine blk_drew ?_ | refine blk_alloc ?_ _)); exact BK511.out) hb)
            have n3_ := Aside0.mk (blk_below (g := gb512) (o := .cells #[.int .u32 a1_0, .int .u32 a1_1, .int .u8 a1_2, .int .u16 a1_3, .int .u16 a1_4] 67 (0, 0)) (by (with_reducible repeat (first | refine blk_drewN ?_ _ | refine blk_drew ?_ | refine blk_alloc ?_ _)); exact BK512.out) hb)
            have n4_ := Aside0.mk (below_step (by repeat (first | (with_reducible first | exact HB.out | apply below_alloc | apply pw_below_drewN | apply below_drew1 | refine below_set ?_ GE511.out | refine below_set ?_ GE512.out) | exact HB.out)) hb)
            clear HO_7
            clear HO_8
            clear BK511
            clear BK512
            clear HB
            have HO_7 := n0_
            have HO_8 := n1_
            have BK511 := n2_
            have BK512 := n3_
            have HB := n4_
            clear n0_ n1_ n2_ n3_ n4_
            (try clear hb)
            (try clear hb2)
            (try clear hk)
            (try clear hi)
            refine hK.out _ _ ⟨(blk_cell BK511.out 0).trans rfl, (blk_cell BK511.out 1).trans rfl, (blk_cell BK511.out 2).trans rfl, (blk_cell BK511.out 3).trans rfl, (blk_cell BK511.out 4).trans rfl, (blk_cell BK512.out 0).trans rfl, (blk_cell BK512.out 1).trans rfl, (blk_cell BK512.out 2).trans rfl, (blk_cell BK512.out 3).trans rfl, (blk_cell BK512.out 4).trans rfl⟩ (fun hHeld => ?_)
            clear hK K
            refine norm_ (a' := ?_) ?_ ?_
            rotate_left
            · show Act.put _ (some 50) _ = _
              simp only [Act.put, List.setIfInBounds_toArray, List.set_cons_zero, List.set_cons_succ, i64_w, i32_w]
              rfl
            refine pure_ (i := 4) (N := some 52) (v := ?_) (a' := ?_) #[true, true, true, true, true, false, false, false, false, false, false] rfl rfl (any_of HT_.out (by kernel_rfl)) (fun _ _ _ h => h) (Or.inl ⟨by rfl, ?_⟩) ?_ ?_
            rotate_left
            · intro w'
              go_simp
              with_reducible rfl
            rotate_left
            · simp only [Act.put, List.setIfInBounds_toArray, List.set_cons_zero, List.set_cons_succ, i64_w, i32_w]
              rfl
            refine pure_ (i := 5) (N := some 53) (v := ?_) (a' := ?_) #[true, true, true, true, true, true, false, false, false, false, false] rfl rfl (any_of HT_.out (by kernel_rfl)) (fun _ _ _ h => h) (Or.inl ⟨by rfl, ?_⟩) ?_ ?_
            rotate_left
            · intro w'
              go_simp
              with_reducible rfl
            rotate_left
            · simp only [Act.put, List.setIfInBounds_toArray, List.set_cons_zero, List.set_cons_succ, i64_w, i32_w]
              rfl
            refine pure_ (i := 6) (N := some 54) (v := ?_) (a' := ?_) #[true, true, true, true, true, true, true, false, false, false, false] rfl rfl (any_of HT_.out (by kernel_rfl)) (fun _ _ _ h => h) (Or.inl ⟨by rfl, ?_⟩) ?_ ?_
            rotate_left
            · intro w'
              go_simp
              with_reducible rfl
            rotate_left
            · simp only [Act.put, List.setIfInBounds_toArray, List.set_cons_zero, List.set_cons_succ, i64_w, i32_w]
              rfl
            refine take_ (i := 8) (N := some 56) (v := ?_) (a' := ?_) #[true, true, true, true, true, true, true, false, true, false, false] rfl rfl (take_ofW HT_.out HW_.out (by kernel_rfl)) (fun _ _ _ h => h) (Or.inl ⟨by rfl, ?_⟩) hHeld ?_ ?_
            rotate_left
            · rintro w' ⟨s0, s1, s2, s3, s4, s5, s6, s7, s8, s9⟩
              go_simp
              with_reducible rfl
            rotate_left
            · simp only [Act.put, List.setIfInBounds_toArray, List.set_cons_zero, List.set_cons_succ, i64_w, i32_w]
              rfl
            refine one_ (i := 7) (N := some 55) #[true, true, true, true, true, true, true, true, true, false, false] rfl rfl (one_of HT_.out (by kernel_rfl)) (by decide) (fun K hK => ?_)
            refine goes_ Tryd.func40 (by kernel_rfl) rfl #[.slice Ao11 t513.length co11] (by rfl) rfl rfl (by (try simp only [List.map_toArray, List.map_cons, List.map_nil]); first | done | rfl | (simp only [List.length_drop, List.length_take]; rfl)) ?_
            with_reducible refine (crossbuckref02_Back.calls k1 _ _ t513 t525 t526 t527 t528 t529 _ ?side1 ?side2 A35.out).mono ?_
            (case side1 => repeat (first | exact (Kd.R_reads' HO_7.out).2.2 | (with_reducible refine Kd.C_alloc ?_ _) | (with_reducible refine Kd.C_drewN ?_ _) | (with_reducible refine Kd.C_drew ?_)))
            (case side2 => exact (Kd.R_reads' HO_7.out).2.1)
            rintro e w38 ⟨rfl, hb⟩
            refine ⟨_, rfl, ?_⟩
            have n0_ := Aside0.mk (Kd.R_below (by (with_reducible repeat (first | apply Kd.R_alloc | apply Kd.R_drewN | apply Kd.R_drew)); exact HO_7.out) hb)
            have n1_ := Aside0.mk (Kd.R_below (by (with_reducible repeat (first | apply Kd.R_alloc | apply Kd.R_drewN | apply Kd.R_drew)); exact HO_8.out) hb)
            have n2_ := Aside0.mk (blk_below (g := gb511) (o := .cells #[.int .u32 a0_0, .int .u32 a0_1, .int .u8 a0_2, .int .u16 a0_3, .int .u16 a0_4] 67 (0, 0)) (by (with_reducible repeat (first | refine blk_drewN ?_ _ | refine blk_drew ?_ | refine blk_alloc ?_ _)); exact BK511.out) hb)
            have n3_ := Aside0.mk (blk_below (g := gb512) (o := .cells #[.int .u32 a1_0, .int .u32 a1_1, .int .u8 a1_2, .int .u16 a1_3, .int .u16 a1_4] 67 (0, 0)) (by (with_reducible repeat (first | refine blk_drewN ?_ _ | refine blk_drew ?_ | refine blk_alloc ?_ _)); exact BK512.out) hb)
            have n4_ := Aside0.mk (below_step (by repeat (first | (with_reducible first | exact HB.out | apply below_alloc | apply pw_below_drewN | apply below_drew1 | refine below_set ?_ GE511.out | refine below_set ?_ GE512.out) | exact HB.out)) hb)
            clear HO_7
            clear HO_8
            clear BK511
            clear BK512
            clear HB
            have HO_7 := n0_
            have HO_8 := n1_
            have BK511 := n2_
            have BK512 := n3_
            have HB := n4_
            clear n0_ n1_ n2_ n3_ n4_
            (try clear hb)
            (try clear hb2)
            (try clear hk)
            (try clear hi)
            refine hK.out _ _ ⟨(blk_cell BK511.out 0).trans rfl, (blk_cell BK511.out 1).trans rfl, (blk_cell BK511.out 2).trans rfl, (blk_cell BK511.out 3).trans rfl, (blk_cell BK511.out 4).trans rfl, (blk_cell BK512.out 0).trans rfl, (blk_cell BK512.out 1).trans rfl, (blk_cell BK512.out 2).trans rfl, (blk_cell BK512.out 3).trans rfl, (blk_cell BK512.out 4).trans rfl⟩ (fun hHeld => ?_)
            clear hK K
            refine norm_ (a' := ?_) ?_ ?_
            rotate_left
            · show Act.put _ (some 55) _ = _
              simp only [Act.put, List.setIfInBounds_toArray, List.set_cons_zero, List.set_cons_succ, i64_w, i32_w]
              rfl
            refine pure_ (i := 9) (N := some 57) (v := ?_) (a' := ?_) #[true, true, true, true, true, true, true, true, true, true, false] rfl rfl (any_of HT_.out (by kernel_rfl)) (fun _ _ _ h => h) (Or.inl ⟨by rfl, ?_⟩) ?_ ?_
            rotate_left
            · intro w'
              go_simp
              with_reducible rfl
            rotate_left
            · simp only [Act.put, List.setIfInBounds_toArray, List.set_cons_zero, List.set_cons_succ, i64_w, i32_w]
              rfl
            refine pure_ (i := 10) (N := some 58) (v := ?_) (a' := ?_) #[true, true, true, true, true, true, true, true, true, true, true] rfl rfl (any_of HT_.out (by kernel_rfl)) (fun _ _ _ h => h) (Or.inl ⟨by rfl, ?_⟩) ?_ ?_
            rotate_left
            · intro w'
              go_simp
              with_reducible rfl
            rotate_left
            · simp only [Act.put, List.setIfInBounds_toArray, List.set_cons_zero, List.set_cons_succ, i64_w, i32_w]
              rfl
            refine done_ (done_of HT_.out (by kernel_rfl)) ?_
            try go_wp2
            go_meet
            case rel => exact ⟨_, ((!(t525 == a0_0) || (!(t526 == a0_1) || (!(t527 == a0_2) || (!(t528 == a0_3) || (!(t529 == a0_4))))))), (by first | rfl | (simp; done) | (simp [*]; done)), H', ⟨by have := HK1.out; first | omega | exact Nat.le_refl _⟩, ⟨by (with_reducible repeat (first | apply Kd.R_alloc | apply Kd.R_drewN | apply Kd.R_drew)); exact Kd.R_mono HO_7.out (fun _ hk => trivial)⟩, ⟨by (with_reducible repeat (first | refine blk_drewN ?_ _ | refine blk_drew ?_ | refine blk_alloc ?_ _)); exact BK511.out⟩, ⟨by (with_reducible repeat (first | refine blk_drewN ?_ _ | refine blk_drew ?_ | refine blk_alloc ?_ _)); exact BK512.out⟩, ⟨by repeat (first | (with_reducible first | exact HB.out | apply below_alloc | apply pw_below_drewN | apply below_drew1 | refine below_set ?_ GE511.out | refine below_set ?_ GE512.out) | exact HB.out)⟩⟩
          · rw [if_neg c34] at H
            have c34b0 : (t524 == x9_1) = false := beq_eq_false_iff_ne.mpr c34
            have c34b1 : (t524 != x9_1) = true := bne_iff_ne.mpr c34
            (first | rw [c34b0] | (simp only [i64_w, i32_w]; rw [c34b0]) | skip)
            exfalso
            unfold crossbucklaw02_HdrBits.j2 at H
            split at H
            · exact absurd H (by simp)
            · rw [if_pos rfl] at H
              exact absurd ((Option.some.inj H).trans hT.out) (by decide)
        case rest =>
          clear HC32
          try clear c1
          try clear c2
          try clear p2
          try clear q2
          try clear c3
          try clear c4
          try clear p5
          try clear q5
          try clear hx5
          try clear p6
          try clear c7
          try clear c12
          try clear c12b0
          try clear c14
          try clear c14b0
          try clear c15
          try clear c15b0
          try clear c16
          try clear c16b0
          try clear c16b1
          try clear c16b2
          try clear c20
          try clear c20b0
          try clear c20b1
          try clear c21
          try clear c21b0
          try clear c25
          try clear c26
          try clear c26b0
          try clear c27
          try clear c27b0
          try clear q28
          try clear c29
          try clear c34
          try clear c34b0
          try clear c34b1
          try clear hx520_0
          try clear hx521_0
          try clear hx522_0
          try clear hx523_0
          try clear p2
          try clear p5
          try clear p520
          try clear p521
          try clear p522
          try clear p523
          try clear q5
          try clear q520
          try clear q521
          try clear q522
          try clear q523
          obtain ⟨kq, x58_31, rfl, HA, HJ31, HO_7, BK511, BK512, HB⟩ := hcut
          cases kq with
          | zero => exact absurd HA.out (by simp [crossbucklaw02_HdrBits.j2])
          | succ kj31 =>
            have H := HA.out
            clear HA
            simp only [crossbucklaw02_HdrBits.j2] at H
            by_cases c39 : x58_31 = true
            · subst c39
              have H1 : (some false) = some r := by rw [if_pos rfl] at H; exact H
              clear H
              have H := H1
              clear H1
              exact absurd ((Option.some.inj H).trans hT.out) (by decide)
            · replace c39 := Bool.eq_false_iff.mpr c39
              subst c39
              have H1 : (if a2 < 0 then (crossbucklaw02_HdrBits.j3 kj31 a2 t513 true a0_0 a0_1 a0_2 a0_3 a0_4) else (crossbucklaw02_HdrBits.j3 kj31 a2 t513 (decide (a2 ≥ 104)) a0_0 a0_1 a0_2 a0_3 a0_4)) = some r := by rw [if_neg (show ¬ (false = true) by decide)] at H; exact H
              clear H
              have H := H1
              clear H1
              have HC40 := Aside0.mk H
              clear H
              go_upto_region 15 with (fail)
              go_cut [64] (fun v64 wc => ∃ (kq : Nat) (x64_39 : Bool), v64 = .bool x64_39 ∧ Aside0 (crossbucklaw02_HdrBits.j3 kq a2 t513 x64_39 a0_0 a0_1 a0_2 a0_3 a0_4 = some r) ∧ Aside0 (kq ≤ kj31) ∧ Aside0 (Kd.R Kd.bool 4 wc w.heap.size (fun _ => True) (.slice Ao11 t513.length co11) t513) ∧ Aside0 (wc.heap[gb511]? = some (.cells #[.int .u32 a0_0, .int .u32 a0_1, .int .u8 a0_2, .int .u16 a0_3, .int .u16 a0_4] 67 (0, 0))) ∧ Aside0 (wc.heap[gb512]? = some (.cells #[.int .u32 a1_0, .int .u32 a1_1, .int .u8 a1_2, .int .u16 a1_3, .int .u16 a1_4] 67 (0, 0))) ∧ Aside0 (Below w.heap.size w wc))
              case first =>
                have H := HC40.out
                clear HC40
                by_cases c41 : a2 < 0
                · rw [if_pos c41] at H
                  have c41b0 : decide (a2 < 0) = true := decide_eq_true c41
                  clear c41
                  (first | rw [c41b0] | (simp only [i64_w, i32_w]; rw [c41b0]) | skip)
                  have H' := Aside0.mk H
                  clear H
                  go_wp2
                  go_meet
                  case rel => exact ⟨_, (true), (by first | rfl | (simp; done) | (simp [*]; done)), H', ⟨by have := HK1.out; have := HJ31.out; first | omega | exact Nat.le_refl _⟩, ⟨by (with_reducible repeat (first | apply Kd.R_alloc | apply Kd.R_drewN | apply Kd.R_drew)); exact HO_7.out⟩, ⟨by (with_reducible repeat (first | refine blk_drewN ?_ _ | refine blk_drew ?_ | refine blk_alloc ?_ _)); exact BK511.out⟩, ⟨by (with_reducible repeat (first | refine blk_drewN ?_ _ | refine blk_drew ?_ | refine blk_alloc ?_ _)); exact BK512.out⟩, ⟨by repeat (first | (with_reducible first | exact HB.out | apply below_alloc | apply pw_below_drewN | apply below_drew1 | refine below_set ?_ GE511.out | refine below_set ?_ GE512.out) | exact HB.out)⟩⟩
                · rw [if_neg c41] at H
                  have c41b0 : decide (a2 < 0) = false := decide_eq_false c41
                  clear c41
                  (first | rw [c41b0] | (simp only [i64_w, i32_w]; rw [c41b0]) | skip)
                  have H' := Aside0.mk H
                  clear H
                  go_wp2
                  go_meet
                  case rel => exact ⟨_, (decide (a2 ≥ 104)), (by first | rfl | (simp; done) | (simp [*]; done)), H', ⟨by have := HK1.out; have := HJ31.out; first | omega | exact Nat.le_refl _⟩, ⟨by (with_reducible repeat (first | apply Kd.R_alloc | apply Kd.R_drewN | apply Kd.R_drew)); exact HO_7.out⟩, ⟨by (with_reducible repeat (first | refine blk_drewN ?_ _ | refine blk_drew ?_ | refine blk_alloc ?_ _)); exact BK511.out⟩, ⟨by (with_reducible repeat (first | refine blk_drewN ?_ _ | refine blk_drew ?_ | refine blk_alloc ?_ _)); exact BK512.out⟩, ⟨by repeat (first | (with_reducible first | exact HB.out | apply below_alloc | apply pw_below_drewN | apply below_drew1 | refine below_set ?_ GE511.out | refine below_set ?_ GE512.out) | exact HB.out)⟩⟩
              case rest =>
                clear HC40
                try clear c1
                try clear c2
                try clear p2
                try clear q2
                try clear c3
                try clear c4
                try clear p5
                try clear q5
                try clear hx5
                try clear p6
                try clear c7
                try clear c12
                try clear c12b0
                try clear c14
                try clear c14b0
                try clear c15
                try clear c15b0
                try clear c16
                try clear c16b0
                try clear c16b1
                try clear c16b2
                try clear c20
                try clear c20b0
                try clear c20b1
                try clear c21
                try clear c21b0
                try clear c25
                try clear c26
                try clear c26b0
                try clear c27
                try clear c27b0
                try clear q28
                try clear c29
                try clear c34
                try clear c34b0
                try clear c34b1
                try clear c39
                try clear c40
                try clear c41
                try clear c41b0
                try clear hx520_0
                try clear hx521_0
                try clear hx522_0
                try clear hx523_0
                try clear p2
                try clear p5
                try clear p520
                try clear p521
                try clear p522
                try clear p523
                try clear p6
                try clear q2
                try clear q28
                try clear q5
                try clear q520
                try clear q521
                try clear q522
                try clear q523
                obtain ⟨kq, x64_39, rfl, HA, HJ39, HO_7, BK511, BK512, HB⟩ := hcut
                cases kq with
                | zero => exact absurd HA.out (by simp [crossbucklaw02_HdrBits.j3])
                | succ kj39 =>
                  have H := HA.out
                  clear HA
                  simp only [crossbucklaw02_HdrBits.j3] at H
                  by_cases c42 : x64_39 = true
                  · subst c42
                    have H1 : ((crossbucklaw02_awake.f kj39).bind fun t530 => (if t530 = true then ((hdr_Bit.f kj39 a0_0 a0_1 a0_2 a0_3 a0_4 a2).bind fun t531 => (if t531 = true then (some false) else ((hdr_With.f kj39 a0_0 a0_1 a0_2 a0_3 a0_4 a2 true).bind fun bt532 => (if (bt532.1 == a0_0 && (bt532.2.1 == a0_1 && (bt532.2.2.1 == a0_2 && (bt532.2.2.2.1 == a0_3 && (bt532.2.2.2.2 == a0_4))))) = true then ((hdr_With.f kj39 a0_0 a0_1 a0_2 a0_3 a0_4 a2 false).bind fun bt537 => (some (bt537.1 == a0_0 && (bt537.2.1 == a0_1 && (bt537.2.2.1 == a0_2 && (bt537.2.2.2.1 == a0_3 && (bt537.2.2.2.2 == a0_4))))))) else (some false))))) else (some false))) = some r := by rw [if_pos rfl] at H; exact H
                    clear H
                    have H := H1
                    clear H1
                    replace H := Option.bind_eq_some_iff.mp H
                    obtain ⟨t530, A430, H⟩ := H
                    replace H : (if t530 = true then ((hdr_Bit.f kj39 a0_0 a0_1 a0_2 a0_3 a0_4 a2).bind fun t531 => (if t531 = true then (some false) else ((hdr_With.f kj39 a0_0 a0_1 a0_2 a0_3 a0_4 a2 true).bind fun bt532 => (if (bt532.1 == a0_0 && (bt532.2.1 == a0_1 && (bt532.2.2.1 == a0_2 && (bt532.2.2.2.1 == a0_3 && (bt532.2.2.2.2 == a0_4))))) = true then ((hdr_With.f kj39 a0_0 a0_1 a0_2 a0_3 a0_4 a2 false).bind fun bt537 => (some (bt537.1 == a0_0 && (bt537.2.1 == a0_1 && (bt537.2.2.1 == a0_2 && (bt537.2.2.2.1 == a0_3 && (bt537.2.2.2.2 == a0_4))))))) else (some false))))) else (some false)) = some r := H
                    have A43 := Aside0.mk A430
                    clear A430
                    by_cases c44 : t530 = true
                    · subst c44
                      have H1 : ((hdr_Bit.f kj39 a0_0 a0_1 a0_2 a0_3 a0_4 a2).bind fun t531 => (if t531 = true then (some false) else ((hdr_With.f kj39 a0_0 a0_1 a0_2 a0_3 a0_4 a2 true).bind fun bt532 => (if (bt532.1 == a0_0 && (bt532.2.1 == a0_1 && (bt532.2.2.1 == a0_2 && (bt532.2.2.2.1 == a0_3 && (bt532.2.2.2.2 == a0_4))))) = true then ((hdr_With.f kj39 a0_0 a0_1 a0_2 a0_3 a0_4 a2 false).bind fun bt537 => (some (bt537.1 == a0_0 && (bt537.2.1 == a0_1 && (bt537.2.2.1 == a0_2 && (bt537.2.2.2.1 == a0_3 && (bt537.2.2.2.2 == a0_4))))))) else (some false))))) = some r := by rw [if_pos rfl] at H; exact H
                      clear H
                      have H := H1
                      clear H1
                      replace H := Option.bind_eq_some_iff.mp H
                      obtain ⟨t531, A450, H⟩ := H
                      replace H : (if t531 = true then (some false) else ((hdr_With.f kj39 a0_0 a0_1 a0_2 a0_3 a0_4 a2 true).bind fun bt532 => (if (bt532.1 == a0_0 && (bt532.2.1 == a0_1 && (bt532.2.2.1 == a0_2 && (bt532.2.2.2.1 == a0_3 && (bt532.2.2.2.2 == a0_4))))) = true then ((hdr_With.f kj39 a0_0 a0_1 a0_2 a0_3 a0_4 a2 false).bind fun bt537 => (some (bt537.1 == a0_0 && (bt537.2.1 == a0_1 && (bt537.2.2.1 == a0_2 && (bt537.2.2.2.1 == a0_3 && (bt537.2.2.2.2 == a0_4))))))) else (some false)))) = some r := H
                      have A45 := Aside0.mk A450
                      clear A450
                      by_cases c46 : t531 = true
                      · subst c46
                        have H1 : (some false) = some r := by rw [if_pos rfl] at H; exact H
                        clear H
                        have H := H1
                        clear H1
                        exact absurd ((Option.some.inj H).trans hT.out) (by decide)
                      · replace c46 := Bool.eq_false_iff.mpr c46
                        subst c46
                        have H1 : ((hdr_With.f kj39 a0_0 a0_1 a0_2 a0_3 a0_4 a2 true).bind fun bt532 => (if (bt532.1 == a0_0 && (bt532.2.1 == a0_1 && (bt532.2.2.1 == a0_2 && (bt532.2.2.2.1 == a0_3 && (bt532.2.2.2.2 == a0_4))))) = true then ((hdr_With.f kj39 a0_0 a0_1 a0_2 a0_3 a0_4 a2 false).bind fun bt537 => (some (bt537.1 == a0_0 && (bt537.2.1 == a0_1 && (bt537.2.2.1 == a0_2 && (bt537.2.2.2.1 == a0_3 && (bt537.2.2.2.2 == a0_4))))))) else (some false))) = some r := by rw [if_neg (show ¬ (false = true) by decide)] at H; exact H
                        clear H
                        have H := H1
                        clear H1
                        replace H := Option.bind_eq_some_iff.mp H
                        obtain ⟨⟨t532, t533, t534, t535, t536⟩, A470, H⟩ := H
                        replace H : (if (t532 == a0_0 && (t533 == a0_1 && (t534 == a0_2 && (t535 == a0_3 && (t536 == a0_4))))) = true then ((hdr_With.f kj39 a0_0 a0_1 a0_2 a0_3 a0_4 a2 false).bind fun bt537 => (some (bt537.1 == a0_0 && (bt537.2.1 == a0_1 && (bt537.2.2.1 == a0_2 && (bt537.2.2.2.1 == a0_3 && (bt537.2.2.2.2 == a0_4))))))) else (some false)) = some r := H
                        have A47 := Aside0.mk A470
                        clear A470
                        by_cases c48 : (t532 == a0_0 && (t533 == a0_1 && (t534 == a0_2 && (t535 == a0_3 && (t536 == a0_4))))) = true
                        · rw [if_pos c48] at H
                          have c48b0 : (t532 == a0_0 && (t533 == a0_1 && (t534 == a0_2 && (t535 == a0_3 && (t536 == a0_4))))) = true := c48
                          (try (have c48b1 : decide (t532 = a0_0 && (t533 == a0_1 && (t534 == a0_2 && (t535 == a0_3 && (t536 == a0_4))))) = true := by simpa using c48))
                          (try (have c48b2 : (t532 == a0_0 && (t533 == a0_1 && (t534 == a0_2 && (t535 == a0_3 && (t536 == a0_4))))) = true := by simpa using c48))
                          clear c48
                          replace H := Option.bind_eq_some_iff.mp H
                          obtain ⟨⟨t537, t538, t539, t540, t541⟩, A490, H⟩ := H
                          replace H : (some (t537 == a0_0 && (t538 == a0_1 && (t539 == a0_2 && (t540 == a0_3 && (t541 == a0_4)))))) = some r := H
                          have A49 := Aside0.mk A490
                          clear A490
                          obtain rfl := Option.some.inj H
                          try go_wp2
                          have n0_ := Aside0.mk (Kd.R_drew HO_7.out)
                          have n1_ := Aside0.mk (blk_drew BK511.out)
                          have n2_ := Aside0.mk (blk_drew BK512.out)
                          have n3_ := Aside0.mk (below_drew1 HB.out)
                          clear HO_7
                          clear BK511
                          clear BK512
                          clear HB
                          have HO_7 := n0_
                          have BK511 := n1_
                          have BK512 := n2_
                          have HB := n3_
                          clear n0_ n1_ n2_ n3_
                          refine start_ (n := 22) (S := fun w' => w'.cell? ⟨gb511, 0, none⟩ = some (.int .u32 a0_0) ∧ w'.cell? ⟨gb511, 1, none⟩ = some (.int .u32 a0_1) ∧ w'.cell? ⟨gb511, 2, none⟩ = some (.int .u8 a0_2) ∧ w'.cell? ⟨gb511, 3, none⟩ = some (.int .u16 a0_3) ∧ w'.cell? ⟨gb511, 4, none⟩ = some (.int .u16 a0_4)) (ds := []) #[false, false, false, false, false, false, false, false, false, false, false, false, false, false, false, false, false, false, false, false, false, false] (by kernel_rfl) rfl rfl ⟨(blk_cell BK511.out 0).trans rfl, (blk_cell BK511.out 1).trans rfl, (blk_cell BK511.out 2).trans rfl, (blk_cell BK511.out 3).trans rfl, (blk_cell BK511.out 4).trans rfl⟩ (fun hHeld => ?_); refine with_tabW crossbucklaw02_HdrBits.tab16 crossbucklaw02_HdrBits.bits16 (fun HT_ HW_ => ?_)
                          generalize wc.drew = w50 at HO_7 BK511 BK512 HB hHeld ⊢
                          refine one_ (i := 0) (N := some 65) #[true, false, false, false, false, false, false, false, false, false, false, false, false, false, false, false, false, false, false, false, false, false] rfl rfl (one_of HT_.out (by kernel_rfl)) (by decide) (fun K hK => ?_)
                          refine goes_ Tryd.func31 (by kernel_rfl) rfl #[] (by rfl) rfl rfl (by (try simp only [List.map_toArray, List.map_cons, List.map_nil]); first | done | rfl | (simp only [List.length_drop, List.length_take]; rfl)) ?_
                          with_reducible refine (crossbucklaw02_awake.calls kj39  true _ (Hand.Good.below false true hGG.out (by repeat (first | (with_reducible first | exact HB.out | apply below_alloc | apply pw_below_drewN | apply below_drew1 | refine below_set ?_ GE511.out | refine below_set ?_ GE512.out) | exact HB.out)) rfl rfl) A43.out).mono ?_
                          rintro e w51 ⟨rfl, hb⟩
                          refine ⟨_, rfl, ?_⟩
                          have n0_ := Aside0.mk (Kd.R_below (by (with_reducible repeat (first | apply Kd.R_alloc | apply Kd.R_drewN | apply Kd.R_drew)); exact HO_7.out) hb)
                          have n1_ := Aside0.mk (blk_below (g := gb511) (o := .cells #[.int .u32 a0_0, .int .u32 a0_1, .int .u8 a0_2, .int .u16 a0_3, .int .u16 a0_4] 67 (0, 0)) (by (with_reducible repeat (first | refine blk_drewN ?_ _ | refine blk_drew ?_ | refine blk_alloc ?_ _)); exact BK511.out) hb)
                          have n2_ := Aside0.mk (blk_below (g := gb512) (o := .cells #[.int .u32 a1_0, .int .u32 a1_1, .int .u8 a1_2, .int .u16 a1_3, .int .u16 a1_4] 67 (0, 0)) (by (with_reducible repeat (first | refine blk_drewN ?_ _ | refine blk_drew ?_ | refine blk_alloc ?_ _)); exact BK512.out) hb)
                          have n3_ := Aside0.mk (below_step (by repeat (first | (with_reducible first | exact HB.out | apply below_alloc | apply pw_below_drewN | apply below_drew1 | refine below_set ?_ GE511.out | refine below_set ?_ GE512.out) | exact HB.out)) hb)
                          clear HO_7
                          clear BK511
                          clear BK512
                          clear HB
                          have HO_7 := n0_
                          have BK511 := n1_
                          have BK512 := n2_
                          have HB := n3_
                          clear n0_ n1_ n2_ n3_
                          (try clear hb)
                          (try clear hb2)
                          (try clear hk)
                          (try clear hi)
                          refine hK.out _ _ ⟨(blk_cell BK511.out 0).trans rfl, (blk_cell BK511.out 1).trans rfl, (blk_cell BK511.out 2).trans rfl, (blk_cell BK511.out 3).trans rfl, (blk_cell BK511.out 4).trans rfl⟩ (fun hHeld => ?_)
                          clear hK K
                          refine norm_ (a' := ?_) ?_ ?_
                          rotate_left
                          · show Act.put _ (some 65) _ = _
                            simp only [Act.put, List.setIfInBounds_toArray, List.set_cons_zero, List.set_cons_succ, i64_w, i32_w]
                            rfl
                          refine pure_ (i := 1) (N := some 66) (v := ?_) (a' := ?_) #[true, true, false, false, false, false, false, false, false, false, false, false, false, false, false, false, false, false, false, false, false, false] rfl rfl (any_of HT_.out (by kernel_rfl)) (fun _ _ _ h => h) (Or.inl ⟨by rfl, ?_⟩) ?_ ?_
                          rotate_left
                          · intro w'
                            go_simp
                            with_reducible rfl
                          rotate_left
                          · simp only [Act.put, List.setIfInBounds_toArray, List.set_cons_zero, List.set_cons_succ, i64_w, i32_w]
                            rfl
                          refine pure_ (i := 3) (N := some 68) (v := ?_) (a' := ?_) #[true, true, false, true, false, false, false, false, false, false, false, false, false, false, false, false, false, false, false, false, false, false] rfl rfl (any_of HT_.out (by kernel_rfl)) (fun _ _ _ h => h) (Or.inl ⟨by rfl, ?_⟩) ?_ ?_
                          rotate_left
                          · intro w'
                            go_simp
                            with_reducible rfl
                          rotate_left
                          · simp only [Act.put, List.setIfInBounds_toArray, List.set_cons_zero, List.set_cons_succ, i64_w, i32_w]
                            rfl
                          refine take_ (i := 2) (N := some 67) (v := ?_) (a' := ?_) #[true, true, true, true, false, false, false, false, false, false, false, false, false, false, false, false, false, false, false, false, false, false] rfl rfl (take_ofW HT_.out HW_.out (by kernel_rfl)) (fun _ _ _ h => h) (Or.inl ⟨by rfl, ?_⟩) hHeld ?_ ?_
                          rotate_left
                          · rintro w' ⟨s0, s1, s2, s3, s4⟩
                            go_simp
                            with_reducible rfl
                          rotate_left
                          · simp only [Act.put, List.setIfInBounds_toArray, List.set_cons_zero, List.set_cons_succ, i64_w, i32_w]
                            rfl
                          refine one_ (i := 4) (N := some 69) #[true, true, true, true, true, false, false, false, false, false, false, false, false, false, false, false, false, false, false, false, false, false] rfl rfl (one_of HT_.out (by kernel_rfl)) (by decide) (fun K hK => ?_)
                          refine goes_ Tryd.func38 (by kernel_rfl) rfl #[.agg #[.int .u32 a0_0, .int .u32 a0_1, .int .u8 a0_2, .int .u16 a0_3, .int .u16 a0_4], .int .i64 a2] (by rfl) rfl rfl (by (try simp only [List.map_toArray, List.map_cons, List.map_nil]); first | done | rfl | (simp only [List.length_drop, List.length_take]; rfl)) ?_
                          with_reducible refine (hdr_Bit.calls kj39 a0_0 a0_1 a0_2 a0_3 a0_4 a2 false _ A45.out).mono ?_
                          rintro e w52 ⟨rfl, hb⟩
                          refine ⟨_, rfl, ?_⟩
                          have n0_ := Aside0.mk (Kd.R_below (by (with_reducible repeat (first | apply Kd.R_alloc | apply Kd.R_drewN | apply Kd.R_drew)); exact HO_7.out) hb)
                          have n1_ := Aside0.mk (blk_below (g := gb511) (o := .cells #[.int .u32 a0_0, .int .u32 a0_1, .int .u8 a0_2, .int .u16 a0_3, .int .u16 a0_4] 67 (0, 0)) (by (with_reducible repeat (first | refine blk_drewN ?_ _ | refine blk_drew ?_ | refine blk_alloc ?_ _)); exact BK511.out) hb)
                          have n2_ := Aside0.mk (blk_below (g := gb512) (o := .cells #[.int .u32 a1_0, .int .u32 a1_1, .int .u8 a1_2, .int .u16 a1_3, .int .u16 a1_4] 67 (0, 0)) (by (with_reducible repeat (first | refine blk_drewN ?_ _ | refine blk_drew ?_ | refine blk_alloc ?_ _)); exact BK512.out) hb)
                          have n3_ := Aside0.mk (below_step (by repeat (first | (with_reducible first | exact HB.out | apply below_alloc | apply pw_below_drewN | apply below_drew1 | refine below_set ?_ GE511.out | refine below_set ?_ GE512.out) | exact HB.out)) hb)
                          clear HO_7
                          clear BK511
                          clear BK512
                          clear HB
                          have HO_7 := n0_
                          have BK511 := n1_
                          have BK512 := n2_
                          have HB := n3_
                          clear n0_ n1_ n2_ n3_
                          (try clear hb)
                          (try clear hb2)
                          (try clear hk)
                          (try clear hi)
                          refine hK.out _ _ ⟨(blk_cell BK511.out 0).trans rfl, (blk_cell BK511.out 1).trans rfl, (blk_cell BK511.out 2).trans rfl, (blk_cell BK511.out 3).trans rfl, (blk_cell BK511.out 4).trans rfl⟩ (fun hHeld => ?_)
                          clear hK K
                          refine norm_ (a' := ?_) ?_ ?_
                          rotate_left
                          · show Act.put _ (some 69) _ = _
                            simp only [Act.put, List.setIfInBounds_toArray, List.set_cons_zero, List.set_cons_succ, i64_w, i32_w]
                            rfl
                          refine pure_ (i := 5) (N := some 70) (v := ?_) (a' := ?_) #[true, true, true, true, true, true, false, false, false, false, false, false, false, false, false, false, false, false, false, false, false, false] rfl rfl (any_of HT_.out (by kernel_rfl)) (fun _ _ _ h => h) (Or.inl ⟨by rfl, ?_⟩) ?_ ?_
                          rotate_left
                          · intro w'
                            go_simp
                            with_reducible rfl
                          rotate_left
                          · simp only [Act.put, List.setIfInBounds_toArray, List.set_cons_zero, List.set_cons_succ, i64_w, i32_w]
                            rfl
                          refine pure_ (i := 6) (N := some 71) (v := ?_) (a' := ?_) #[true, true, true, true, true, true, true, false, false, false, false, false, false, false, false, false, false, false, false, false, false, false] rfl rfl (any_of HT_.out (by kernel_rfl)) (fun _ _ _ h => h) (Or.inl ⟨by rfl, ?_⟩) ?_ ?_
                          rotate_left
                          · intro w'
                            go_simp
                            with_reducible rfl
                          rotate_left
                          · simp only [Act.put, List.setIfInBounds_toArray, List.set_cons_zero, List.set_cons_succ, i64_w, i32_w]
                            rfl
                          refine pure_ (i := 7) (N := some 72) (v := ?_) (a' := ?_) #[true, true, true, true, true, true, true, true, false, false, false, false, false, false, false, false, false, false, false, false, false, false] rfl rfl (any_of HT_.out (by kernel_rfl)) (fun _ _ _ h => h) (Or.inl ⟨by rfl, ?_⟩) ?_ ?_
                          rotate_left
                          · intro w'
                            go_simp
                            with_reducible rfl
                          rotate_left
                          · simp only [Act.put, List.setIfInBounds_toArray, List.set_cons_zero, List.set_cons_succ, i64_w, i32_w]
                            rfl
                          refine pure_ (i := 9) (N := some 74) (v := ?_) (a' := ?_) #[true, true, true, true, true, true, true, true, false, true, false, false, false, false, false, false, false, false, false, false, false, false] rfl rfl (any_of HT_.out (by kernel_rfl)) (fun _ _ _ h => h) (Or.inl ⟨by rfl, ?_⟩) ?_ ?_
                          rotate_left
                          · intro w'
                            go_simp
                            with_reducible rfl
                          rotate_left
                          · simp only [Act.put, List.setIfInBounds_toArray, List.set_cons_zero, List.set_cons_succ, i64_w, i32_w]
                            rfl
                          refine take_ (i := 8) (N := some 73) (v := ?_) (a' := ?_) #[true, true, true, true, true, true, true, true, true, true, false, false, false, false, false, false, false, false, false, false, false, false] rfl rfl (take_ofW HT_.out HW_.out (by kernel_rfl)) (fun _ _ _ h => h) (Or.inl ⟨by rfl, ?_⟩) hHeld ?_ ?_
                          rotate_left
                          · rintro w' ⟨s0, s1, s2, s3, s4⟩
                            go_simp
                            with_reducible rfl
                          rotate_left
                          · simp only [Act.put, List.setIfInBounds_toArray, List.set_cons_zero, List.set_cons_succ, i64_w, i32_w]
                            rfl
                          refine take_ (i := 11) (N := some 76) (v := ?_) (a' := ?_) #[true, true, true, true, true, true, true, true, true, true, false, true, false, false, false, false, false, false, false, false, false, false] rfl rfl (take_ofW HT_.out HW_.out (by kernel_rfl)) (fun _ _ _ h => h) (Or.inl ⟨by rfl, ?_⟩) hHeld ?_ ?_
                          rotate_left
                          · rintro w' ⟨s0, s1, s2, s3, s4⟩
                            go_simp
                            with_reducible rfl
                          rotate_left
                          · simp only [Act.put, List.setIfInBounds_toArray, List.set_cons_zero, List.set_cons_succ, i64_w, i32_w]
                            rfl
                          refine one_ (i := 10) (N := some 75) #[true, true, true, true, true, true, true, true, true, true, true, true, false, false, false, false, false, false, false, false, false, false] rfl rfl (one_of HT_.out (by kernel_rfl)) (by decide) (fun K hK => ?_)
                          refine goes_ Tryd.func41 (by kernel_rfl) rfl #[.agg #[.int .u32 a0_0, .int .u32 a0_1, .int .u8 a0_2, .int .u16 a0_3, .int .u16 a0_4], .int .i64 a2, .bool true] (by rfl) rfl rfl (by (try simp only [List.map_toArray, List.map_cons, List.map_nil]); first | done | rfl | (simp only [List.length_drop, List.length_take]; rfl)) ?_
                          with_reducible refine (hdr_With.calls kj39 a0_0 a0_1 a0_2 a0_3 a0_4 a2 true t532 t533 t534 t535 t536 _ A47.out).mono ?_
                          rintro e w53 ⟨rfl, hb⟩
                          refine ⟨_, rfl, ?_⟩
                          have n0_ := Aside0.mk (Kd.R_below (by (with_reducible repeat (first | apply Kd.R_alloc | apply Kd.R_drewN | apply Kd.R_drew)); exact HO_7.out) hb)
                          have n1_ := Aside0.mk (blk_below (g := gb511) (o := .cells #[.int .u32 a0_0, .int .u32 a0_1, .int .u8 a0_2, .int .u16 a0_3, .int .u16 a0_4] 67 (0, 0)) (by (with_reducible repeat (first | refine blk_drewN ?_ _ | refine blk_drew ?_ | refine blk_alloc ?_ _)); exact BK511.out) hb)
                          have n2_ := Aside0.mk (blk_below (g := gb512) (o := .cells #[.int .u32 a1_0, .int .u32 a1_1, .int .u8 a1_2, .int .u16 a1_3, .int .u16 a1_4] 67 (0, 0)) (by (with_reducible repeat (first | refine blk_drewN ?_ _ | refine blk_drew ?_ | refine blk_alloc ?_ _)); exact BK512.out) hb)
                          have n3_ := Aside0.mk (below_step (by repeat (first | (with_reducible first | exact HB.out | apply below_alloc | apply pw_below_drewN | apply below_drew1 | refine below_set ?_ GE511.out | refine below_set ?_ GE512.out) | exact HB.out)) hb)
                          clear HO_7
                          clear BK511
                          clear BK512
                          clear HB
                          have HO_7 := n0_
                          have BK511 := n1_
                          have BK512 := n2_
                          have HB := n3_
                          clear n0_ n1_ n2_ n3_
                          (try clear hb)
                          (try clear hb2)
                          (try clear hk)
                          (try clear hi)
                          refine hK.out _ _ ⟨(blk_cell BK511.out 0).trans rfl, (blk_cell BK511.out 1).trans rfl, (blk_cell BK511.out 2).trans rfl, (blk_cell BK511.out 3).trans rfl, (blk_cell BK511.out 4).trans rfl⟩ (fun hHeld => ?_)
                          clear hK K
                          refine norm_ (a' := ?_) ?_ ?_
                          rotate_left
                          · show Act.put _ (some 75) _ = _
                            simp only [Act.put, List.setIfInBounds_toArray, List.set_cons_zero, List.set_cons_succ, i64_w, i32_w]
                            rfl
                          refine pure_ (i := 12) (N := some 77) (v := ?_) (a' := ?_) #[true, true, true, true, true, true, true, true, true, true, true, true, true, false, false, false, false, false, false, false, false, false] rfl rfl (any_of HT_.out (by kernel_rfl)) (fun _ _ _ h => h) (Or.inl ⟨by rfl, ?_⟩) ?_ ?_
                          rotate_left
                          · intro w'
                            go_simp
                            with_reducible rfl
                          rotate_left
                          · simp only [Act.put, List.setIfInBounds_toArray, List.set_cons_zero, List.set_cons_succ, i64_w, i32_w]
                            rfl
                          refine pure_ (i := 13) (N := some 78) (v := ?_) (a' := ?_) #[true, true, true, true, true, true, true, true, true, true, true, true, true, true, false, false, false, false, false, false, false, false] rfl rfl (any_of HT_.out (by kernel_rfl)) (fun _ _ _ h => h) (Or.inl ⟨by rfl, ?_⟩) ?_ ?_
                          rotate_left
                          · intro w'
                            go_simp
                            with_reducible rfl
                          rotate_left
                          · simp only [Act.put, List.setIfInBounds_toArray, List.set_cons_zero, List.set_cons_succ, i64_w, i32_w]
                            rfl
                          refine pure_ (i := 14) (N := some 79) (v := ?_) (a' := ?_) #[true, true, true, true, true, true, true, true, true, true, true, true, true, true, true, false, false, false, false, false, false, false] rfl rfl (any_of HT_.out (by kernel_rfl)) (fun _ _ _ h => h) (Or.inl ⟨by rfl, ?_⟩) ?_ ?_
                          rotate_left
                          · intro w'
                            go_simp
                            with_reducible rfl
                          rotate_left
                          · simp only [Act.put, List.setIfInBounds_toArray, List.set_cons_zero, List.set_cons_succ, i64_w, i32_w]
                            rfl
                          refine pure_ (i := 16) (N := some 81) (v := ?_) (a' := ?_) #[true, true, true, true, true, true, true, true, true, true, true, true, true, true, true, false, true, false, false, false, false, false] rfl rfl (any_of HT_.out (by kernel_rfl)) (fun _ _ _ h => h) (Or.inl ⟨by rfl, ?_⟩) ?_ ?_
                          rotate_left
                          · intro w'
                            go_simp
                            with_reducible rfl
                          rotate_left
                          · simp only [Act.put, List.setIfInBounds_toArray, List.set_cons_zero, List.set_cons_succ, i64_w, i32_w]
                            rfl
                          refine take_ (i := 15) (N := some 80) (v := ?_) (a' := ?_) #[true, true, true, true, true, true, true, true, true, true, true, true, true, true, true, true, true, false, false, false, false, false] rfl rfl (take_ofW HT_.out HW_.out (by kernel_rfl)) (fun _ _ _ h => h) (Or.inl ⟨by rfl, ?_⟩) hHeld ?_ ?_
                          rotate_left
                          · rintro w' ⟨s0, s1, s2, s3, s4⟩
                            go_simp
                            with_reducible rfl
                          rotate_left
                          · simp only [Act.put, List.setIfInBounds_toArray, List.set_cons_zero, List.set_cons_succ, i64_w, i32_w]
                            rfl
                          refine take_ (i := 18) (N := some 83) (v := ?_) (a' := ?_) #[true, true, true, true, true, true, true, true, true, true, true, true, true, true, true, true, true, false, true, false, false, false] rfl rfl (take_ofW HT_.out HW_.out (by kernel_rfl)) (fun _ _ _ h => h) (Or.inl ⟨by rfl, ?_⟩) hHeld ?_ ?_
                          rotate_left
                          · rintro w' ⟨s0, s1, s2, s3, s4⟩
                            go_simp
                            with_reducible rfl
                          rotate_left
                          · simp only [Act.put, List.setIfInBounds_toArray, List.set_cons_zero, List.set_cons_succ, i64_w, i32_w]
                            rfl
                          refine one_ (i := 17) (N := some 82) #[true, true, true, true, true, true, true, true, true, true, true, true, true, true, true, true, true, true, true, false, false, false] rfl rfl (one_of HT_.out (by kernel_rfl)) (by decide) (fun K hK => ?_)
                          refine goes_ Tryd.func41 (by kernel_rfl) rfl #[.agg #[.int .u32 a0_0, .int .u32 a0_1, .int .u8 a0_2, .int .u16 a0_3, .int .u16 a0_4], .int .i64 a2, .bool false] (by rfl) rfl rfl (by (try simp only [List.map_toArray, List.map_cons, List.map_nil]); first | done | rfl | (simp only [List.length_drop, List.length_take]; rfl)) ?_
                          with_reducible refine (hdr_With.calls kj39 a0_0 a0_1 a0_2 a0_3 a0_4 a2 false t537 t538 t539 t540 t541 _ A49.out).mono ?_
                          rintro e w54 ⟨rfl, hb⟩
                          refine ⟨_, rfl, ?_⟩
                          have n0_ := Aside0.mk (Kd.R_below (by (with_reducible repeat (first | apply Kd.R_alloc | apply Kd.R_drewN | apply Kd.R_drew)); exact HO_7.out) hb)
                          have n1_ := Aside0.mk (blk_below (g := gb511) (o := .cells #[.int .u32 a0_0, .int .u32 a0_1, .int .u8 a0_2, .int .u16 a0_3, .int .u16 a0_4] 67 (0, 0)) (by (with_reducible repeat (first | refine blk_drewN ?_ _ | refine blk_drew ?_ | refine blk_alloc ?_ _)); exact BK511.out) hb)
                          have n2_ := Aside0.mk (blk_below (g := gb512) (o := .cells #[.int .u32 a1_0, .int .u32 a1_1, .int .u8 a1_2, .int .u16 a1_3, .int .u16 a1_4] 67 (0, 0)) (by (with_reducible repeat (first | refine blk_drewN ?_ _ | refine blk_drew ?_ | refine blk_alloc ?_ _)); exact BK512.out) hb)
                          have n3_ := Aside0.mk (below_step (by repeat (first | (with_reducible first | exact HB.out | apply below_alloc | apply pw_below_drewN | apply below_drew1 | refine below_set ?_ GE511.out | refine below_set ?_ GE512.out) | exact HB.out)) hb)
                          clear HO_7
                          clear BK511
                          clear BK512
                          clear HB
                          have HO_7 := n0_
                          have BK511 := n1_
                          have BK512 := n2_
                          have HB := n3_
                          clear n0_ n1_ n2_ n3_
                          (try clear hb)
                          (try clear hb2)
                          (try clear hk)
                          (try clear hi)
                          refine hK.out _ _ ⟨(blk_cell BK511.out 0).trans rfl, (blk_cell BK511.out 1).trans rfl, (blk_cell BK511.out 2).trans rfl, (blk_cell BK511.out 3).trans rfl, (blk_cell BK511.out 4).trans rfl⟩ (fun hHeld => ?_)
                          clear hK K
                          refine norm_ (a' := ?_) ?_ ?_
                          rotate_left
                          · show Act.put _ (some 82) _ = _
                            simp only [Act.put, List.setIfInBounds_toArray, List.set_cons_zero, List.set_cons_succ, i64_w, i32_w]
                            rfl
                          refine pure_ (i := 19) (N := some 84) (v := ?_) (a' := ?_) #[true, true, true, true, true, true, true, true, true, true, true, true, true, true, true, true, true, true, true, true, false, false] rfl rfl (any_of HT_.out (by kernel_rfl)) (fun _ _ _ h => h) (Or.inl ⟨by rfl, ?_⟩) ?_ ?_
                          rotate_left
                          · intro w'
                            go_simp
                            with_reducible rfl
                          rotate_left
                          · simp only [Act.put, List.setIfInBounds_toArray, List.set_cons_zero, List.set_cons_succ, i64_w, i32_w]
                            rfl
                          refine pure_ (i := 20) (N := some 85) (v := ?_) (a' := ?_) #[true, true, true, true, true, true, true, true, true, true, true, true, true, true, true, true, true, true, true, true, true, false] rfl rfl (any_of HT_.out (by kernel_rfl)) (fun _ _ _ h => h) (Or.inl ⟨by rfl, ?_⟩) ?_ ?_
                          rotate_left
                          · intro w'
                            go_simp
                            with_reducible rfl
                          rotate_left
                          · simp only [Act.put, List.setIfInBounds_toArray, List.set_cons_zero, List.set_cons_succ, i64_w, i32_w]
                            rfl
                          refine pure_ (i := 21) (N := some 6) (v := ?_) (a' := ?_) #[true, true, true, true, true, true, true, true, true, true, true, true, true, true, true, true, true, true, true, true, true, true] rfl rfl (any_of HT_.out (by kernel_rfl)) (fun _ _ _ h => h) (Or.inl ⟨by rfl, ?_⟩) ?_ ?_
                          rotate_left
                          · intro w'
                            go_simp
                            with_reducible rfl
                          rotate_left
                          · simp only [Act.put, List.setIfInBounds_toArray, List.set_cons_zero, List.set_cons_succ, i64_w, i32_w]
                            rfl
                          refine done_ (done_of HT_.out (by kernel_rfl)) ?_
                          try go_wp2
                          go_ret
                          exact ⟨by first | rfl | (simp [errW_none, errW_some] <;> rfl) | (simp [*, errW_none, errW_some] <;> rfl), by repeat (first | (with_reducible first | exact HB.out | apply below_alloc | apply pw_below_drewN | apply below_drew1 | refine below_set ?_ GE511.out | refine below_set ?_ GE512.out) | exact HB.out)⟩
                        · rw [if_neg c48] at H
                          have c48b0 : (t532 == a0_0 && (t533 == a0_1 && (t534 == a0_2 && (t535 == a0_3 && (t536 == a0_4))))) = false := by simpa using c48
                          (try (have c48b1 : decide (t532 = a0_0 && (t533 == a0_1 && (t534 == a0_2 && (t535 == a0_3 && (t536 == a0_4))))) = false := by simpa using c48))
                          (try (have c48b2 : (t532 == a0_0 && (t533 == a0_1 && (t534 == a0_2 && (t535 == a0_3 && (t536 == a0_4))))) = false := by simpa using c48))
                          (try (have c48b3 : ¬ (t532 = a0_0 && (t533 == a0_1 && (t534 == a0_2 && (t535 == a0_3 && (t536 == a0_4))))) := by simpa using c48))
                          clear c48
                          exact absurd ((Option.some.inj H).trans hT.out) (by decide)
                    · replace c44 := Bool.eq_false_iff.mpr c44
                      subst c44
                      have H1 : (some false) = some r := by rw [if_neg (show ¬ (false = true) by decide)] at H; exact H
                      clear H
                      have H := H1
                      clear H1
                      exact absurd ((Option.some.inj H).trans hT.out) (by decide)
                  · replace c42 := Bool.eq_false_iff.mpr c42
                    subst c42
                    have H1 : (if 0 ≤ a2 then (if a2 < (t513.length : Int) then ((some (t513.set (a2 : Int).toNat true : List Bool)).bind fun y543 => ((crossbuckref02_Back.f kj39 y543).bind fun bt544 => ((crossbucklaw02_awake.f kj39).bind fun t551 => (if t551 = true then ((hdr_With.f kj39 a0_0 a0_1 a0_2 a0_3 a0_4 a2 true).bind fun bt552 => (if (bt552.1 == bt544.1 && (bt552.2.1 == bt544.2.1 && (bt552.2.2.1 == bt544.2.2.1 && (bt552.2.2.2.1 == bt544.2.2.2.1 && (bt552.2.2.2.2 == bt544.2.2.2.2))))) = true then ((hdr_With.f kj39 a0_0 a0_1 a0_2 a0_3 a0_4 a2 false).bind fun bt557 => ((crossbuckref02_Back.f kj39 (y543.set (a2 : Int).toNat false)).bind fun bt562 => (if (bt557.1 == bt562.1 && (bt557.2.1 == bt562.2.1 && (bt557.2.2.1 == bt562.2.2.1 && (bt557.2.2.2.1 == bt562.2.2.2.1 && (bt557.2.2.2.2 == bt562.2.2.2.2))))) = true then ((hdr_With.f kj39 a0_0 a0_1 a0_2 a0_3 a0_4 a2 (rdOf false t513 a2)).bind fun bt567 => (some (bt567.1 == a0_0 && (bt567.2.1 == a0_1 && (bt567.2.2.1 == a0_2 && (bt567.2.2.2.1 == a0_3 && (bt567.2.2.2.2 == a0_4))))))) else (some false)))) else (some false))) else (some false))))) else (none)) else (none)) = some r := by rw [if_neg (show ¬ (false = true) by decide)] at H; exact H
                    clear H
                    have H := H1
                    clear H1
                    by_cases c55 : 0 ≤ a2
                    · rw [if_pos c55] at H
                      have c55b0 : decide (0 ≤ a2) = true := decide_eq_true c55
                      clear c55
                      by_cases c56 : a2 < (t513.length : Int)
                      · rw [if_pos c56] at H
                        have c56b0 : decide (a2 < (t513.length : Int)) = true := decide_eq_true c56
                        clear c56
                        obtain ⟨y543, hy543⟩ : ∃ y_ : List Bool, y_ = (t513.set (a2 : Int).toNat true) := ⟨_, rfl⟩
                        replace H : ((crossbuckref02_Back.f kj39 y543).bind fun bt544 => ((crossbucklaw02_awake.f kj39).bind fun t551 => (if t551 = true then ((hdr_With.f kj39 a0_0 a0_1 a0_2 a0_3 a0_4 a2 true).bind fun bt552 => (if (bt552.1 == bt544.1 && (bt552.2.1 == bt544.2.1 && (bt552.2.2.1 == bt544.2.2.1 && (bt552.2.2.2.1 == bt544.2.2.2.1 && (bt552.2.2.2.2 == bt544.2.2.2.2))))) = true then ((hdr_With.f kj39 a0_0 a0_1 a0_2 a0_3 a0_4 a2 false).bind fun bt557 => ((crossbuckref02_Back.f kj39 (y543.set (a2 : Int).toNat false)).bind fun bt562 => (if (bt557.1 == bt562.1 && (bt557.2.1 == bt562.2.1 && (bt557.2.2.1 == bt562.2.2.1 && (bt557.2.2.2.1 == bt562.2.2.2.1 && (bt557.2.2.2.2 == bt562.2.2.2.2))))) = true then ((hdr_With.f kj39 a0_0 a0_1 a0_2 a0_3 a0_4 a2 (rdOf false t513 a2)).bind fun bt567 => (some (bt567.1 == a0_0 && (bt567.2.1 == a0_1 && (bt567.2.2.1 == a0_2 && (bt567.2.2.2.1 == a0_3 && (bt567.2.2.2.2 == a0_4))))))) else (some false)))) else (some false))) else (some false)))) = some r := by first | (rw [hy543]; with_reducible exact H) | (have H2_ := (Option.bind_some _ _).symm.trans H; rw [hy543]; with_reducible exact H2_) | (have H2_ := (Option.bind_some _ _).symm.trans H; with_reducible exact H2_) | with_reducible exact H | (rw [hy543]; exact H) | exact H
                        have Ny543 := Aside0.mk hy543
                        clear hy543
                        replace H := Option.bind_eq_some_iff.mp H
                        obtain ⟨⟨t544, t545, t546, t547, t548⟩, A580, H⟩ := H
                        replace H : ((crossbucklaw02_awake.f kj39).bind fun t551 => (if t551 = true then ((hdr_With.f kj39 a0_0 a0_1 a0_2 a0_3 a0_4 a2 true).bind fun bt552 => (if (bt552.1 == t544 && (bt552.2.1 == t545 && (bt552.2.2.1 == t546 && (bt552.2.2.2.1 == t547 && (bt552.2.2.2.2 == t548))))) = true then ((hdr_With.f kj39 a0_0 a0_1 a0_2 a0_3 a0_4 a2 false).bind fun bt557 => ((crossbuckref02_Back.f kj39 (y543.set (a2 : Int).toNat false)).bind fun bt562 => (if (bt557.1 == bt562.1 && (bt557.2.1 == bt562.2.1 && (bt557.2.2.1 == bt562.2.2.1 && (bt557.2.2.2.1 == bt562.2.2.2.1 && (bt557.2.2.2.2 == bt562.2.2.2.2))))) = true then ((hdr_With.f kj39 a0_0 a0_1 a0_2 a0_3 a0_4 a2 (rdOf false t513 a2)).bind fun bt567 => (some (bt567.1 == a0_0 && (bt567.2.1 == a0_1 && (bt567.2.2.1 == a0_2 && (bt567.2.2.2.1 == a0_3 && (bt567.2.2.2.2 == a0_4))))))) else (some false)))) else (some false))) else (some false))) = some r := H
                        have A58 := Aside0.mk A580
                        clear A580
                        obtain ⟨y550, hy550⟩ : ∃ y_ : List Bool, y_ = (y543.set (a2 : Int).toNat false) := ⟨_, rfl⟩
                        replace H : ((crossbucklaw02_awake.f kj39).bind fun t551 => (if t551 = true then ((hdr_With.f kj39 a0_0 a0_1 a0_2 a0_3 a0_4 a2 true).bind fun bt552 => (if (bt552.1 == t544 && (bt552.2.1 == t545 && (bt552.2.2.1 == t546 && (bt552.2.2.2.1 == t547 && (bt552.2.2.2.2 == t548))))) = true then ((hdr_With.f kj39 a0_0 a0_1 a0_2 a0_3 a0_4 a2 false).bind fun bt557 => ((crossbuckref02_Back.f kj39 y550).bind fun bt562 => (if (bt557.1 == bt562.1 && (bt557.2.1 == bt562.2.1 && (bt557.2.2.1 == bt562.2.2.1 && (bt557.2.2.2.1 == bt562.2.2.2.1 && (bt557.2.2.2.2 == bt562.2.2.2.2))))) = true then ((hdr_With.f kj39 a0_0 a0_1 a0_2 a0_3 a0_4 a2 (rdOf false t513 a2)).bind fun bt567 => (some (bt567.1 == a0_0 && (bt567.2.1 == a0_1 && (bt567.2.2.1 == a0_2 && (bt567.2.2.2.1 == a0_3 && (bt567.2.2.2.2 == a0_4))))))) else (some false)))) else (some false))) else (some false))) = some r := by first | (rw [hy550]; with_reducible exact H) | (have H2_ := (Option.bind_some _ _).symm.trans H; rw [hy550]; with_reducible exact H2_) | (have H2_ := (Option.bind_some _ _).symm.trans H; with_reducible exact H2_) | with_reducible exact H | (rw [hy550]; exact H) | exact H
                        have Ny550 := Aside0.mk hy550
                        clear hy550
                        replace H := Option.bind_eq_some_iff.mp H
                        obtain ⟨t551, A600, H⟩ := H
                        replace H : (if t551 = true then ((hdr_With.f kj39 a0_0 a0_1 a0_2 a0_3 a0_4 a2 true).bind fun bt552 => (if (bt552.1 == t544 && (bt552.2.1 == t545 && (bt552.2.2.1 == t546 && (bt552.2.2.2.1 == t547 && (bt552.2.2.2.2 == t548))))) = true then ((hdr_With.f kj39 a0_0 a0_1 a0_2 a0_3 a0_4 a2 false).bind fun bt557 => ((crossbuckref02_Back.f kj39 y550).bind fun bt562 => (if (bt557.1 == bt562.1 && (bt557.2.1 == bt562.2.1 && (bt557.2.2.1 == bt562.2.2.1 && (bt557.2.2.2.1 == bt562.2.2.2.1 && (bt557.2.2.2.2 == bt562.2.2.2.2))))) = true then ((hdr_With.f kj39 a0_0 a0_1 a0_2 a0_3 a0_4 a2 (rdOf false t513 a2)).bind fun bt567 => (some (bt567.1 == a0_0 && (bt567.2.1 == a0_1 && (bt567.2.2.1 == a0_2 && (bt567.2.2.2.1 == a0_3 && (bt567.2.2.2.2 == a0_4))))))) else (some false)))) else (some false))) else (some false)) = some r := H
                        have A60 := Aside0.mk A600
                        clear A600
                        by_cases c61 : t551 = true
                        · subst c61
                          have H1 : ((hdr_With.f kj39 a0_0 a0_1 a0_2 a0_3 a0_4 a2 true).bind fun bt552 => (if (bt552.1 == t544 && (bt552.2.1 == t545 && (bt552.2.2.1 == t546 && (bt552.2.2.2.1 == t547 && (bt552.2.2.2.2 == t548))))) = true then ((hdr_With.f kj39 a0_0 a0_1 a0_2 a0_3 a0_4 a2 false).bind fun bt557 => ((crossbuckref02_Back.f kj39 y550).bind fun bt562 => (if (bt557.1 == bt562.1 && (bt557.2.1 == bt562.2.1 && (bt557.2.2.1 == bt562.2.2.1 && (bt557.2.2.2.1 == bt562.2.2.2.1 && (bt557.2.2.2.2 == bt562.2.2.2.2))))) = true then ((hdr_With.f kj39 a0_0 a0_1 a0_2 a0_3 a0_4 a2 (rdOf false t513 a2)).bind fun bt567 => (some (bt567.1 == a0_0 && (bt567.2.1 == a0_1 && (bt567.2.2.1 == a0_2 && (bt567.2.2.2.1 == a0_3 && (bt567.2.2.2.2 == a0_4))))))) else (some false)))) else (some false))) = some r := by rw [if_pos rfl] at H; exact H
                          clear H
                          have H := H1
                          clear H1
                          replace H := Option.bind_eq_some_iff.mp H
                          obtain ⟨⟨t552, t553, t554, t555, t556⟩, A620, H⟩ := H
                          replace H : (if (t552 == t544 && (t553 == t545 && (t554 == t546 && (t555 == t547 && (t556 == t548))))) = true then ((hdr_With.f kj39 a0_0 a0_1 a0_2 a0_3 a0_4 a2 false).bind fun bt557 => ((crossbuckref02_Back.f kj39 y550).bind fun bt562 => (if (bt557.1 == bt562.1 && (bt557.2.1 == bt562.2.1 && (bt557.2.2.1 == bt562.2.2.1 && (bt557.2.2.2.1 == bt562.2.2.2.1 && (bt557.2.2.2.2 == bt562.2.2.2.2))))) = true then ((hdr_With.f kj39 a0_0 a0_1 a0_2 a0_3 a0_4 a2 (rdOf false t513 a2)).bind fun bt567 => (some (bt567.1 == a0_0 && (bt567.2.1 == a0_1 && (bt567.2.2.1 == a0_2 && (bt567.2.2.2.1 == a0_3 && (bt567.2.2.2.2 == a0_4))))))) else (some false)))) else (some false)) = some r := H
                          have A62 := Aside0.mk A620
                          clear A620
                          by_cases c63 : (t552 == t544 && (t553 == t545 && (t554 == t546 && (t555 == t547 && (t556 == t548))))) = true
                          · rw [if_pos c63] at H
                            have c63b0 : (t552 == t544 && (t553 == t545 && (t554 == t546 && (t555 == t547 && (t556 == t548))))) = true := c63
                            (try (have c63b1 : decide (t552 = t544 && (t553 == t545 && (t554 == t546 && (t555 == t547 && (t556 == t548))))) = true := by simpa using c63))
                            (try (have c63b2 : (t552 == t544 && (t553 == t545 && (t554 == t546 && (t555 == t547 && (t556 == t548))))) = true := by simpa using c63))
                            clear c63
                            replace H := Option.bind_eq_some_iff.mp H
                            obtain ⟨⟨t557, t558, t559, t560, t561⟩, A640, H⟩ := H
                            replace H : ((crossbuckref02_Back.f kj39 y550).bind fun bt562 => (if (t557 == bt562.1 && (t558 == bt562.2.1 && (t559 == bt562.2.2.1 && (t560 == bt562.2.2.2.1 && (t561 == bt562.2.2.2.2))))) = true then ((hdr_With.f kj39 a0_0 a0_1 a0_2 a0_3 a0_4 a2 (rdOf false t513 a2)).bind fun bt567 => (some (bt567.1 == a0_0 && (bt567.2.1 == a0_1 && (bt567.2.2.1 == a0_2 && (bt567.2.2.2.1 == a0_3 && (bt567.2.2.2.2 == a0_4))))))) else (some false))) = some r := H
                            have A64 := Aside0.mk A640
                            clear A640
                            replace H := Option.bind_eq_some_iff.mp H
                            obtain ⟨⟨t562, t563, t564, t565, t566⟩, A650, H⟩ := H
                            replace H : (if (t557 == t562 && (t558 == t563 && (t559 == t564 && (t560 == t565 && (t561 == t566))))) = true then ((hdr_With.f kj39 a0_0 a0_1 a0_2 a0_3 a0_4 a2 (rdOf false t513 a2)).bind fun bt567 => (some (bt567.1 == a0_0 && (bt567.2.1 == a0_1 && (bt567.2.2.1 == a0_2 && (bt567.2.2.2.1 == a0_3 && (bt567.2.2.2.2 == a0_4))))))) else (some false)) = some r := H
                            have A65 := Aside0.mk A650
                            clear A650
                            by_cases c66 : (t557 == t562 && (t558 == t563 && (t559 == t564 && (t560 == t565 && (t561 == t566))))) = true
                            · rw [if_pos c66] at H
                              have c66b0 : (t557 == t562 && (t558 == t563 && (t559 == t564 && (t560 == t565 && (t561 == t566))))) = true := c66
                              (try (have c66b1 : decide (t557 = t562 && (t558 == t563 && (t559 == t564 && (t560 == t565 && (t561 == t566))))) = true := by simpa using c66))
                              (try (have c66b2 : (t557 == t562 && (t558 == t563 && (t559 == t564 && (t560 == t565 && (t561 == t566))))) = true := by simpa using c66))
                              clear c66
                              replace H := Option.bind_eq_some_iff.mp H
                              obtain ⟨⟨t567, t568, t569, t570, t571⟩, A670, H⟩ := H
                              replace H : (some (t567 == a0_0 && (t568 == a0_1 && (t569 == a0_2 && (t570 == a0_3 && (t571 == a0_4)))))) = some r := H
                              have A67 := Aside0.mk A670
                              clear A670
                              obtain rfl := Option.some.inj H
                              have p542 : 0 ≤ (a2 : Int) := of_decide_eq_true (by first | (with_reducible assumption) | assumption)
                              have q542 : a2 < (t513.length : Int) := of_decide_eq_true (by first | (with_reducible assumption) | assumption)
                              obtain ⟨ad542, e542, hx542_0⟩ := Kd.at_bool (Kd.R_reads' HO_7.out).2.2 a2 p542 q542
                              cases e542
                              replace p542 := eq_true p542
                              replace q542 := eq_true q542
                              have p57 : 0 ≤ (a2 : Int) := of_decide_eq_true (by first | (with_reducible assumption) | assumption)
                              have q57 : (a2 : Int) < ((t513.length : Int) : Int) := of_decide_eq_true (by first | (with_reducible assumption) | assumption)
                              obtain ⟨go57, co57, eo57, gb57, gl57, cl57, HG57⟩ := Kd.R_form HO_7.out (by omega)
                              (first | cases eo57 | (injection eo57 with ea_ en_ ec_; (first | subst ea_ | (injection ea_ with ea_; subst ea_)); subst ec_; clear en_))
                              have GB57 := Aside0.mk gb57
                              have GG57 := Aside0.mk HG57
                              clear gb57 gl57 HG57
                              (first | simp only [add_plain] at hx542_0 | skip)
                              obtain ⟨hx57_0, hf57_0⟩ := Kd.R_celln false HO_7.out (a2 : Int) p57 q57
                              replace p57 := eq_true p57
                              replace q57 := eq_true q57
                              have HP68 := Kd.R_putg HO_7.out (a2 : Int) true
                              try go_wp2_with (first | ((with_reducible refine gate_store (t := 4) (p := 92) rfl ?_); refine store_event (t := 4) (p := 92) (v := ?vo_w69) (w1 := (wc.setCell ⟨go57, (a2 : Int).toNat, none⟩ (.bool true))) ?hg ?ho ?hn ?hr ?_; (case ho => rfl); (case hg => rfl); (case hn => rfl); (case hr => first | (go_simp; done) | (go_simp; rfl)); intro w69 hw; have hg : wc.grownBy w69 (some go57) := (by rw [hw]; exact HP68.2); have hp_ : Kd.R Kd.bool 4 w69 w.heap.size (fun _ => True) (.slice (some ⟨go57, 0, none⟩) t513.length co11) y543 := (by rw [hw, Ny543.out]; exact HP68.1); clear HP68; have n0_ := Aside0.mk (hp_); have n1_ := Aside0.mk (blk_grown (g := gb511) (o := .cells #[.int .u32 a0_0, .int .u32 a0_1, .int .u8 a0_2, .int .u16 a0_3, .int .u16 a0_4] 67 (0, 0)) (by (with_reducible repeat (first | refine blk_drewN ?_ _ | refine blk_drew ?_ | refine blk_alloc ?_ _)); exact BK511.out) hg (Kd.R_ne HO_7.out BK511.out (by decide))); have n2_ := Aside0.mk (blk_grown (g := gb512) (o := .cells #[.int .u32 a1_0, .int .u32 a1_1, .int .u8 a1_2, .int .u16 a1_3, .int .u16 a1_4] 67 (0, 0)) (by (with_reducible repeat (first | refine blk_drewN ?_ _ | refine blk_drew ?_ | refine blk_alloc ?_ _)); exact BK512.out) hg (Kd.R_ne HO_7.out BK512.out (by decide))); have n3_ := Aside0.mk ((by rw [hw]; exact below_set (HB.out) GB57.out : Below w.heap.size w w69)); clear HO_7; clear BK511; clear BK512; clear HB; have HO_7 := n0_; have BK511 := n1_; have BK512 := n2_; have HB := n3_; clear n0_ n1_ n2_ n3_; clear hg hw hp_) | ((with_reducible refine gate_callee (f := 40) rfl ?_); refine goesL_ (some 94) rfl rfl Tryd.func40 (by kernel_rfl) rfl #[.slice (some ⟨go57, 0, none⟩) y543.length co11] rfl (by (try simp only [List.map_toArray, List.map_cons, List.map_nil]); first | done | (rw [show y543.length = t513.length from (Kd.R_reads' HO_7.out).1.symm] <;> rfl) | rfl | (simp only [List.length_drop, List.length_take]; rfl)) ?_; (with_reducible refine (crossbuckref02_Back.calls kj39 _ _ y543 t544 t545 t546 t547 t548 _ ?side1 ?side2 A58.out).mono ?_); (case side1 => repeat (first | exact (Kd.R_reads' HO_7.out).2.2 | (with_reducible refine Kd.C_alloc ?_ _) | (with_reducible refine Kd.C_drewN ?_ _) | (with_reducible refine Kd.C_drew ?_))); (case side2 => rw [show y543.length = t513.length from (Kd.R_reads' HO_7.out).1.symm]; exact (Kd.R_reads' HO_7.out).2.1); rintro e w70 ⟨rfl, hb⟩; refine ⟨_, rfl, ?_⟩; have n0_ := Aside0.mk (Kd.R_below (by (with_reducible repeat (first | apply Kd.R_alloc | apply Kd.R_drewN | apply Kd.R_drew)); exact HO_7.out) hb); have n1_ := Aside0.mk (blk_below (g := gb511) (o := .cells #[.int .u32 a0_0, .int .u32 a0_1, .int .u8 a0_2, .int .u16 a0_3, .int .u16 a0_4] 67 (0, 0)) (by (with_reducible repeat (first | refine blk_drewN ?_ _ | refine blk_drew ?_ | refine blk_alloc ?_ _)); exact BK511.out) hb); have n2_ := Aside0.mk (blk_below (g := gb512) (o := .cells #[.int .u32 a1_0, .int .u32 a1_1, .int .u8 a1_2, .int .u16 a1_3, .int .u16 a1_4] 67 (0, 0)) (by (with_reducible repeat (first | refine blk_drewN ?_ _ | refine blk_drew ?_ | refine blk_alloc ?_ _)); exact BK512.out) hb); have n3_ := Aside0.mk (below_step (by repeat (first | (with_reducible first | exact HB.out | apply below_alloc | apply pw_below_drewN | apply below_drew1 | refine below_set ?_ GE511.out | refine below_set ?_ GE512.out) | exact HB.out)) hb); clear HO_7; clear BK511; clear BK512; clear HB; have HO_7 := n0_; have BK511 := n1_; have BK512 := n2_; have HB := n3_; clear n0_ n1_ n2_ n3_; (try clear hb); (try clear hb2); (try clear hk); (try clear hi)) | ((with_reducible refine gate_dst (N := 12) rfl ?_); refine box_event ?hg (N := 12) ?hd (cs := #[.int .u32 0, .int .u32 0, .int .u8 0, .int .u16 0, .int .u16 0]) (t := 67) ?hr ?_; (case hd => rfl); (case hg => rfl); (case hr => first | (go_simp; done) | (go_simp; rfl)); intro gb549 hg w71 hbox hb; have n0_ := Aside0.mk (Kd.R_below (by (with_reducible repeat (first | apply Kd.R_alloc | apply Kd.R_drewN | apply Kd.R_drew)); exact HO_7.out) hb); have n1_ := Aside0.mk (blk_below (g := gb511) (o := .cells #[.int .u32 a0_0, .int .u32 a0_1, .int .u8 a0_2, .int .u16 a0_3, .int .u16 a0_4] 67 (0, 0)) (by (with_reducible repeat (first | refine blk_drewN ?_ _ | refine blk_drew ?_ | refine blk_alloc ?_ _)); exact BK511.out) hb); have n2_ := Aside0.mk (blk_below (g := gb512) (o := .cells #[.int .u32 a1_0, .int .u32 a1_1, .int .u8 a1_2, .int .u16 a1_3, .int .u16 a1_4] 67 (0, 0)) (by (with_reducible repeat (first | refine blk_drewN ?_ _ | refine blk_drew ?_ | refine blk_alloc ?_ _)); exact BK512.out) hb); have n3_ := Aside0.mk (below_step (by repeat (first | (with_reducible first | exact HB.out | apply below_alloc | apply pw_below_drewN | apply below_drew1 | refine below_set ?_ GE511.out | refine below_set ?_ GE512.out) | exact HB.out)) hb); have n4_ := Aside0.mk (hbox); have n5_ := Aside0.mk ((by rw [hg]; exact (below_size (by repeat (first | (with_reducible first | exact HB.out | apply below_alloc | apply pw_below_drewN | apply below_drew1 | refine below_set ?_ GE511.out | refine below_set ?_ GE512.out) | exact HB.out))) : w.heap.size ≤ gb549)); have n6_ := Aside0.mk ((by rw [hg]; exact (below_size (by repeat (first | (with_reducible first | exact HB.out | apply below_alloc | apply pw_below_drewN | apply below_drew1 | refine below_set ?_ GE511.out | refine below_set ?_ GE512.out) | exact HB.out))) : w.heap.size ≤ gb549)); have n7_ := Aside0.mk ((by rw [hg]; exact Nat.ne_of_lt (blk_lt (g := gb511) (o := .cells #[.int .u32 a0_0, .int .u32 a0_1, .int .u8 a0_2, .int .u16 a0_3, .int .u16 a0_4] 67 (0, 0)) (by (with_reducible repeat (first | refine blk_drewN ?_ _ | refine blk_drew ?_ | refine blk_alloc ?_ _)); exact BK511.out)) : gb511 ≠ gb549)); have n8_ := Aside0.mk ((by rw [hg]; exact Nat.ne_of_gt (blk_lt (g := gb511) (o := .cells #[.int .u32 a0_0, .int .u32 a0_1, .int .u8 a0_2, .int .u16 a0_3, .int .u16 a0_4] 67 (0, 0)) (by (with_reducible repeat (first | refine blk_drewN ?_ _ | refine blk_drew ?_ | refine blk_alloc ?_ _)); exact BK511.out)) : gb549 ≠ gb511)); have n9_ := Aside0.mk ((by rw [hg]; exact Nat.ne_of_lt (blk_lt (g := gb512) (o := .cells #[.int .u32 a1_0, .int .u32 a1_1, .int .u8 a1_2, .int .u16 a1_3, .int .u16 a1_4] 67 (0, 0)) (by (with_reducible repeat (first | refine blk_drewN ?_ _ | refine blk_drew ?_ | refine blk_alloc ?_ _)); exact BK512.out)) : gb512 ≠ gb549)); have n10_ := Aside0.mk ((by rw [hg]; exact Nat.ne_of_gt (blk_lt (g := gb512) (o := .cells #[.int .u32 a1_0, .int .u32 a1_1, .int .u8 a1_2, .int .u16 a1_3, .int .u16 a1_4] 67 (0, 0)) (by (with_reducible repeat (first | refine blk_drewN ?_ _ | refine blk_drew ?_ | refine blk_alloc ?_ _)); exact BK512.out)) : gb549 ≠ gb512)); clear HO_7; clear BK511; clear BK512; clear HB; have HO_7 := n0_; have BK511 := n1_; have BK512 := n2_; have HB := n3_; have BK549 := n4_; have GW549 := n5_; have GE549 := n6_; have NB511_549 := n7_; have NB549_511 := n8_; have NB512_549 := n9_; have NB549_512 := n10_; clear n0_ n1_ n2_ n3_ n4_ n5_ n6_ n7_ n8_ n9_ n10_; clear hb hbox hg; have hnb72 := NB549_511.out; have hnc72 := NB511_549.out; have hnb73 := NB549_512.out; have hnc73 := NB512_549.out; have hcz74_0 : w71.cell? ⟨gb549, 0, none⟩ = some (.int .u32 0) := (blk_cell BK549.out 0).trans rfl; have hcz74_1 : w71.cell? ⟨gb549, 1, none⟩ = some (.int .u32 0) := (blk_cell BK549.out 1).trans rfl; have hcz74_2 : w71.cell? ⟨gb549, 2, none⟩ = some (.int .u8 0) := (blk_cell BK549.out 2).trans rfl; have hcz74_3 : w71.cell? ⟨gb549, 3, none⟩ = some (.int .u16 0) := (blk_cell BK549.out 3).trans rfl; have hcz74_4 : w71.cell? ⟨gb549, 4, none⟩ = some (.int .u16 0) := (blk_cell BK549.out 4).trans rfl; have hfz74_0 := blk_frozen BK549.out 0; have hfz74_1 := blk_frozen BK549.out 1; have hfz74_2 := blk_frozen BK549.out 2; have hfz74_3 := blk_frozen BK549.out 3; have hfz74_4 := blk_frozen BK549.out 4) | ((with_reducible refine gate_store (t := 67) (p := 12) rfl ?_); refine store_event (t := 67) (p := 12) (v := ?vo_w75) (w1 := (((((w71.setCell ⟨gb549, 0, none⟩ (.int .u32 t544)).setCell ⟨gb549, 1, none⟩ (.int .u32 t545)).setCell ⟨gb549, 2, none⟩ (.int .u8 t546)).setCell ⟨gb549, 3, none⟩ (.int .u16 t547)).setCell ⟨gb549, 4, none⟩ (.int .u16 t548))) ?hg ?ho ?hn ?hr ?_; (case ho => rfl); (case hg => rfl); (case hn => rfl); (case hr => first | (go_simp; done) | (go_simp; rfl)); intro w75 hw; have n0_ : Aside0 (Kd.R Kd.bool 4 w75 w.heap.size (fun _ => True) (.slice (some ⟨go57, 0, none⟩) t513.length co11) y543) := ⟨(by rw [hw]; exact (by (with_reducible repeat (first | apply Kd.R_alloc | apply Kd.R_drewN | apply Kd.R_drew)); exact Kd.R_mono (Kd.R_far (p := ⟨gb549, 4, none⟩) (Kd.R_far (p := ⟨gb549, 3, none⟩) (Kd.R_far (p := ⟨gb549, 2, none⟩) (Kd.R_far (p := ⟨gb549, 1, none⟩) (Kd.R_far (p := ⟨gb549, 0, none⟩) (Kd.R_types HO_7.out BK549.out (by decide)) (fun _ hk => hk.2) (.int .u32 t544)) (fun _ hk => hk.2) (.int .u32 t545)) (fun _ hk => hk.2) (.int .u8 t546)) (fun _ hk => hk.2) (.int .u16 t547)) (fun _ hk => hk.2) (.int .u16 t548)) (fun _ hk => trivial)))⟩; have n1_ : Aside0 (w75.heap[gb511]? = some (.cells #[.int .u32 a0_0, .int .u32 a0_1, .int .u8 a0_2, .int .u16 a0_3, .int .u16 a0_4] 67 (0, 0))) := ⟨(by rw [hw]; exact (by (with_reducible repeat (first | refine blk_drewN ?_ _ | refine blk_drew ?_ | refine blk_alloc ?_ _)); refine blk_far ?_ NB511_549.out _; (with_reducible repeat (first | refine blk_drewN ?_ _ | refine blk_drew ?_ | refine blk_alloc ?_ _)); refine blk_far ?_ NB511_549.out _; (with_reducible repeat (first | refine blk_drewN ?_ _ | refine blk_drew ?_ | refine blk_alloc ?_ _)); refine blk_far ?_ NB511_549.out _; (with_reducible repeat (first | refine blk_drewN ?_ _ | refine blk_drew ?_ | refine blk_alloc ?_ _)); refine blk_far ?_ NB511_549.out _; (with_reducible repeat (first | refine blk_drewN ?_ _ | refine blk_drew ?_ | refine blk_alloc ?_ _)); refine blk_far ?_ NB511_549.out _; (with_reducible repeat (first | refine blk_drewN ?_ _ | refine blk_drew ?_ | refine blk_alloc ?_ _)); exact BK511.out))⟩; have n2_ : Aside0 (w75.heap[gb512]? = some (.cells #[.int .u32 a1_0, .int .u32 a1_1, .int .u8 a1_2, .int .u16 a1_3, .int .u16 a1_4] 67 (0, 0))) := ⟨(by rw [hw]; exact (by (with_reducible repeat (first | refine blk_drewN ?_ _ | refine blk_drew ?_ | refine blk_alloc ?_ _)); refine blk_far ?_ NB512_549.out _; (with_reducible repeat (first | refine blk_drewN ?_ _ | refine blk_drew ?_ | refine blk_alloc ?_ _)); refine blk_far ?_ NB512_549.out _; (with_reducible repeat (first | refine blk_drewN ?_ _ | refine blk_drew ?_ | refine blk_alloc ?_ _)); refine blk_far ?_ NB512_549.out _; (with_reducible repeat (first | refine blk_drewN ?_ _ | refine blk_drew ?_ | refine blk_alloc ?_ _)); refine blk_far ?_ NB512_549.out _; (with_reducible repeat (first | refine blk_drewN ?_ _ | refine blk_drew ?_ | refine blk_alloc ?_ _)); refine blk_far ?_ NB512_549.out _; (with_reducible repeat (first | refine blk_drewN ?_ _ | refine blk_drew ?_ | refine blk_alloc ?_ _)); exact BK512.out))⟩; have n3_ : Aside0 (w75.heap[gb549]? = some (.cells #[.int .u32 t544, .int .u32 t545, .int .u8 t546, .int .u16 t547, .int .u16 t548] 67 (0, 0))) := ⟨(by rw [hw]; exact (by (with_reducible repeat (first | refine blk_drewN ?_ _ | refine blk_drew ?_ | refine blk_alloc ?_ _)); refine blk_put (cs := #[.int .u32 t544, .int .u32 t545, .int .u8 t546, .int .u16 t547, .int .u16 0]) ?_ 4 _ rfl; (with_reducible repeat (first | refine blk_drewN ?_ _ | refine blk_drew ?_ | refine blk_alloc ?_ _)); refine blk_put (cs := #[.int .u32 t544, .int .u32 t545, .int .u8 t546, .int .u16 0, .int .u16 0]) ?_ 3 _ rfl; (with_reducible repeat (first | refine blk_drewN ?_ _ | refine blk_drew ?_ | refine blk_alloc ?_ _)); refine blk_put (cs := #[.int .u32 t544, .int .u32 t545, .int .u8 0, .int .u16 0, .int .u16 0]) ?_ 2 _ rfl; (with_reducible repeat (first | refine blk_drewN ?_ _ | refine blk_drew ?_ | refine blk_alloc ?_ _)); refine blk_put (cs := #[.int .u32 t544, .int .u32 0, .int .u8 0, .int .u16 0, .int .u16 0]) ?_ 1 _ rfl; (with_reducible repeat (first | refine blk_drewN ?_ _ | refine blk_drew ?_ | refine blk_alloc ?_ _)); refine blk_put (cs := #[.int .u32 0, .int .u32 0, .int .u8 0, .int .u16 0, .int .u16 0]) ?_ 0 _ rfl; (with_reducible repeat (first | refine blk_drewN ?_ _ | refine blk_drew ?_ | refine blk_alloc ?_ _)); exact BK549.out))⟩; have n4_ : Aside0 (Below w.heap.size w w75) := ⟨(by rw [hw]; exact (by repeat (first | (with_reducible first | exact HB.out | apply below_alloc | apply pw_below_drewN | apply below_drew1 | refine below_set ?_ GE511.out | refine below_set ?_ GE512.out | refine below_set ?_ GE549.out) | exact HB.out)))⟩; clear hw; clear HO_7; clear BK511; clear BK512; clear BK549; clear HB; have HO_7 := n0_; have BK511 := n1_; have BK512 := n2_; have BK549 := n3_; have HB := n4_; clear n0_ n1_ n2_ n3_ n4_; have p59 : 0 ≤ (a2 : Int) := of_decide_eq_true (by first | (with_reducible assumption) | assumption); have q59 : (a2 : Int) < ((t513.length : Int) : Int) := of_decide_eq_true (by first | (with_reducible assumption) | assumption); obtain ⟨hx59_0, hf59_0⟩ := Kd.R_celln false HO_7.out (a2 : Int) p59 q59; replace p59 := eq_true p59; replace q59 := eq_true q59; obtain ⟨hy76_, hz76_⟩ := Kd.R_celln false HO_7.out (a2 : Int) (of_decide_eq_true (by first | (with_reducible assumption) | assumption)) (of_decide_eq_true (by first | (with_reducible assumption) | assumption)); have HP76 := Kd.R_putg HO_7.out (a2 : Int) false) | ((with_reducible refine gate_store (t := 4) (p := 97) rfl ?_); refine store_event (t := 4) (p := 97) (v := ?vo_w77) (w1 := (w75.setCell ⟨go57, (a2 : Int).toNat, none⟩ (.bool false))) ?hg ?ho ?hn ?hr ?_; (case ho => rfl); (case hg => rfl); (case hn => rfl); (case hr => first | (go_simp; done) | (go_simp; rfl)); intro w77 hw; have hg : w75.grownBy w77 (some go57) := (by rw [hw]; exact HP76.2); have hp_ : Kd.R Kd.bool 4 w77 w.heap.size (fun _ => True) (.slice (some ⟨go57, 0, none⟩) t513.length co11) y550 := (by rw [hw, Ny550.out]; exact HP76.1); clear HP76; have n0_ := Aside0.mk (hp_); have n1_ := Aside0.mk (blk_grown (g := gb511) (o := .cells #[.int .u32 a0_0, .int .u32 a0_1, .int .u8 a0_2, .int .u16 a0_3, .int .u16 a0_4] 67 (0, 0)) (by (with_reducible repeat (first | refine blk_drewN ?_ _ | refine blk_drew ?_ | refine blk_alloc ?_ _)); exact BK511.out) hg (Kd.R_ne HO_7.out BK511.out (by decide))); have n2_ := Aside0.mk (blk_grown (g := gb512) (o := .cells #[.int .u32 a1_0, .int .u32 a1_1, .int .u8 a1_2, .int .u16 a1_3, .int .u16 a1_4] 67 (0, 0)) (by (with_reducible repeat (first | refine blk_drewN ?_ _ | refine blk_drew ?_ | refine blk_alloc ?_ _)); exact BK512.out) hg (Kd.R_ne HO_7.out BK512.out (by decide))); have n3_ := Aside0.mk (blk_grown (g := gb549) (o := .cells #[.int .u32 t544, .int .u32 t545, .int .u8 t546, .int .u16 t547, .int .u16 t548] 67 (0, 0)) (by (with_reducible repeat (first | refine blk_drewN ?_ _ | refine blk_drew ?_ | refine blk_alloc ?_ _)); exact BK549.out) hg (Kd.R_ne HO_7.out BK549.out (by decide))); have n4_ := Aside0.mk ((by rw [hw]; exact below_set (HB.out) GB57.out : Below w.heap.size w w77)); clear HO_7; clear BK511; clear BK512; clear BK549; clear HB; have HO_7 := n0_; have BK511 := n1_; have BK512 := n2_; have BK549 := n3_; have HB := n4_; clear n0_ n1_ n2_ n3_ n4_; clear hg hw hp_))
                              have n0_ := Aside0.mk (Kd.R_drew HO_7.out)
                              have n1_ := Aside0.mk (blk_drew BK511.out)
                              have n2_ := Aside0.mk (blk_drew BK512.out)
                              have n3_ := Aside0.mk (blk_drew BK549.out)
                              have n4_ := Aside0.mk (below_drew1 HB.out)
                              clear HO_7
                              clear BK511
                              clear BK512
                              clear BK549
                              clear HB
                              have HO_7 := n0_
                              have BK511 := n1_
                              have BK512 := n2_
                              have BK549 := n3_
                              have HB := n4_
                              clear n0_ n1_ n2_ n3_ n4_
                              refine start_ (n := 25) (S := fun w' => w'.cell? ⟨gb511, 0, none⟩ = some (.int .u32 a0_0) ∧ w'.cell? ⟨gb511, 1, none⟩ = some (.int .u32 a0_1) ∧ w'.cell? ⟨gb511, 2, none⟩ = some (.int .u8 a0_2) ∧ w'.cell? ⟨gb511, 3, none⟩ = some (.int .u16 a0_3) ∧ w'.cell? ⟨gb511, 4, none⟩ = some (.int .u16 a0_4) ∧ w'.cell? ⟨gb549, 0, none⟩ = some (.int .u32 t544) ∧ w'.cell? ⟨gb549, 1, none⟩ = some (.int .u32 t545) ∧ w'.cell? ⟨gb549, 2, none⟩ = some (.int .u8 t546) ∧ w'.cell? ⟨gb549, 3, none⟩ = some (.int .u16 t547) ∧ w'.cell? ⟨gb549, 4, none⟩ = some (.int .u16 t548)) (ds := []) #[false, false, false, false, false, false, false, false, false, false, false, false, false, false, false, false, false, false, false, false, false, false, false, false, false] (by kernel_rfl) rfl rfl ⟨(blk_cell BK511.out 0).trans rfl, (blk_cell BK511.out 1).trans rfl, (blk_cell BK511.out 2).trans rfl, (blk_cell BK511.out 3).trans rfl, (blk_cell BK511.out 4).trans rfl, (blk_cell BK549.out 0).trans rfl, (blk_cell BK549.out 1).trans rfl, (blk_cell BK549.out 2).trans rfl, (blk_cell BK549.out 3).trans rfl, (blk_cell BK549.out 4).trans rfl⟩ (fun hHeld => ?_); refine with_tabW crossbucklaw02_HdrBits.tab21 crossbucklaw02_HdrBits.bits21 (fun HT_ HW_ => ?_)
                              generalize w77.drew = w78 at HO_7 BK511 BK512 BK549 HB hHeld ⊢
                              refine one_ (i := 0) (N := some 98) #[true, false, false, false, false, false, false, false, false, false, false, false, false, false, false, false, false, false, false, false, false, false, false, false, false] rfl rfl (one_of HT_.out (by kernel_rfl)) (by decide) (fun K hK => ?_)
                              refine goes_ Tryd.func31 (by kernel_rfl) rfl #[] (by rfl) rfl rfl (by (try simp only [List.map_toArray, List.map_cons, List.map_nil]); first | done | rfl | (simp only [List.length_drop, List.length_take]; rfl)) ?_
                              with_reducible refine (crossbucklaw02_awake.calls kj39  true _ (Hand.Good.below false true hGG.out (by repeat (first | (with_reducible first | exact HB.out | apply below_alloc | apply pw_below_drewN | apply below_drew1 | refine below_set ?_ GE511.out | refine below_set ?_ GE512.out | refine below_set ?_ GE549.out) | exact HB.out)) rfl rfl) A60.out).mono ?_
                              rintro e w79 ⟨rfl, hb⟩
                              refine ⟨_, rfl, ?_⟩
                              have n0_ := Aside0.mk (Kd.R_below (by (with_reducible repeat (first | apply Kd.R_alloc | apply Kd.R_drewN | apply Kd.R_drew)); exact HO_7.out) hb)
                              have n1_ := Aside0.mk (blk_below (g := gb511) (o := .cells #[.int .u32 a0_0, .int .u32 a0_1, .int .u8 a0_2, .int .u16 a0_3, .int .u16 a0_4] 67 (0, 0)) (by (with_reducible repeat (first | refine blk_drewN ?_ _ | refine blk_drew ?_ | refine blk_alloc ?_ _)); exact BK511.out) hb)
                              have n2_ := Aside0.mk (blk_below (g := gb512) (o := .cells #[.int .u32 a1_0, .int .u32 a1_1, .int .u8 a1_2, .int .u16 a1_3, .int .u16 a1_4] 67 (0, 0)) (by (with_reducible repeat (first | refine blk_drewN ?_ _ | refine blk_drew ?_ | refine blk_alloc ?_ _)); exact BK512.out) hb)
                              have n3_ := Aside0.mk (blk_below (g := gb549) (o := .cells #[.int .u32 t544, .int .u32 t545, .int .u8 t546, .int .u16 t547, .int .u16 t548] 67 (0, 0)) (by (with_reducible repeat (first | refine blk_drewN ?_ _ | refine blk_drew ?_ | refine blk_alloc ?_ _)); exact BK549.out) hb)
                              have n4_ := Aside0.mk (below_step (by repeat (first | (with_reducible first | exact HB.out | apply below_alloc | apply pw_below_drewN | apply below_drew1 | refine below_set ?_ GE511.out | refine below_set ?_ GE512.out | refine below_set ?_ GE549.out) | exact HB.out)) hb)
                              clear HO_7
                              clear BK511
                              clear BK512
                              clear BK549
                              clear HB
                              have HO_7 := n0_
                              have BK511 := n1_
                              have BK512 := n2_
                              have BK549 := n3_
                              have HB := n4_
                              clear n0_ n1_ n2_ n3_ n4_
                              (try clear hb)
                              (try clear hb2)
                              (try clear hk)
                              (try clear hi)
                              refine hK.out _ _ ⟨(blk_cell BK511.out 0).trans rfl, (blk_cell BK511.out 1).trans rfl, (blk_cell BK511.out 2).trans rfl, (blk_cell BK511.out 3).trans rfl, (blk_cell BK511.out 4).trans rfl, (blk_cell BK549.out 0).trans rfl, (blk_cell BK549.out 1).trans rfl, (blk_cell BK549.out 2).trans rfl, (blk_cell BK549.out 3).trans rfl, (blk_cell BK549.out 4).trans rfl⟩ (fun hHeld => ?_)
                              clear hK K
                              refine norm_ (a' := ?_) ?_ ?_
                              rotate_left
                              · show Act.put _ (some 98) _ = _
                                simp only [Act.put, List.setIfInBounds_toArray, List.set_cons_zero, List.set_cons_succ, i64_w, i32_w]
                                rfl
                              refine pure_ (i := 1) (N := some 99) (v := ?_) (a' := ?_) #[true, true, false, false, false, false, false, false, false, false, false, false, false, false, false, false, false, false, false, false, false, false, false, false, false] rfl rfl (any_of HT_.out (by kernel_rfl)) (fun _ _ _ h => h) (Or.inl ⟨by rfl, ?_⟩) ?_ ?_
                              rotate_left
                              · intro w'
                                go_simp
                                with_reducible rfl
                              rotate_left
                              · simp only [Act.put, List.setIfInBounds_toArray, List.set_cons_zero, List.set_cons_succ, i64_w, i32_w]
                                rfl
                              refine pure_ (i := 3) (N := some 101) (v := ?_) (a' := ?_) #[true, true, false, true, false, false, false, false, false, false, false, false, false, false, false, false, false, false, false, false, false, false, false, false, false] rfl rfl (any_of HT_.out (by kernel_rfl)) (fun _ _ _ h => h) (Or.inl ⟨by rfl, ?_⟩) ?_ ?_
                              rotate_left
                              · intro w'
                                go_simp
                                with_reducible rfl
                              rotate_left
                              · simp only [Act.put, List.setIfInBounds_toArray, List.set_cons_zero, List.set_cons_succ, i64_w, i32_w]
                                rfl
                              refine take_ (i := 2) (N := some 100) (v := ?_) (a' := ?_) #[true, true, true, true, false, false, false, false, false, false, false, false, false, false, false, false, false, false, false, false, false, false, false, false, false] rfl rfl (take_ofW HT_.out HW_.out (by kernel_rfl)) (fun _ _ _ h => h) (Or.inl ⟨by rfl, ?_⟩) hHeld ?_ ?_
                              rotate_left
                              · rintro w' ⟨s0, s1, s2, s3, s4, s5, s6, s7, s8, s9⟩
                                go_simp
                                with_reducible rfl
                              rotate_left
                              · simp only [Act.put, List.setIfInBounds_toArray, List.set_cons_zero, List.set_cons_succ, i64_w, i32_w]
                                rfl
                              refine take_ (i := 5) (N := some 103) (v := ?_) (a' := ?_) #[true, true, true, true, false, true, false, false, false, false, false, false, false, false, false, false, false, false, false, false, false, false, false, false, false] rfl rfl (take_ofW HT_.out HW_.out (by kernel_rfl)) (fun _ _ _ h => h) (Or.inl ⟨by rfl, ?_⟩) hHeld ?_ ?_
                              rotate_left
                              · rintro w' ⟨s0, s1, s2, s3, s4, s5, s6, s7, s8, s9⟩
                                go_simp
                                with_reducible rfl
                              rotate_left
                              · simp only [Act.put, List.setIfInBounds_toArray, List.set_cons_zero, List.set_cons_succ, i64_w, i32_w]
                                rfl
                              refine one_ (i := 4) (N := some 102) #[true, true, true, true, true, true, false, false, false, false, false, false, false, false, false, false, false, false, false, false, false, false, false, false, false] rfl rfl (one_of HT_.out (by kernel_rfl)) (by decide) (fun K hK => ?_)
                              refine goes_ Tryd.func41 (by kernel_rfl) rfl #[.agg #[.int .u32 a0_0, .int .u32 a0_1, .int .u8 a0_2, .int .u16 a0_3, .int .u16 a0_4], .int .i64 a2, .bool true] (by rfl) rfl rfl (by (try simp only [List.map_toArray, List.map_cons, List.map_nil]); first | done | rfl | (simp only [List.length_drop, List.length_take]; rfl)) ?_
                              with_reducible refine (hdr_With.calls kj39 a0_0 a0_1 a0_2 a0_3 a0_4 a2 true t552 t553 t554 t555 t556 _ A62.out).mono ?_
                              rintro e w80 ⟨rfl, hb⟩
                              refine ⟨_, rfl, ?_⟩
                              have n0_ := Aside0.mk (Kd.R_below (by (with_reducible repeat (first | apply Kd.R_alloc | apply Kd.R_drewN | apply Kd.R_drew)); exact HO_7.out) hb)
                              have n1_ := Aside0.mk (blk_below (g := gb511) (o := .cells #[.int .u32 a0_0, .int .u32 a0_1, .int .u8 a0_2, .int .u16 a0_3, .int .u16 a0_4] 67 (0, 0)) (by (with_reducible repeat (first | refine blk_drewN ?_ _ | refine blk_drew ?_ | refine blk_alloc ?_ _)); exact BK511.out) hb)
                              have n2_ := Aside0.mk (blk_below (g := gb512) (o := .cells #[.int .u32 a1_0, .int .u32 a1_1, .int .u8 a1_2, .int .u16 a1_3, .int .u16 a1_4] 67 (0, 0)) (by (with_reducible repeat (first | refine blk_drewN ?_ _ | refine blk_drew ?_ | refine blk_alloc ?_ _)); exact BK512.out) hb)
                              have n3_ := Aside0.mk (blk_below (g := gb549) (o := .cells #[.int .u32 t544, .int .u32 t545, .int .u8 t546, .int .u16 t547, .int .u16 t548] 67 (0, 0)) (by (with_reducible repeat (first | refine blk_drewN ?_ _ | refine blk_drew ?_ | refine blk_alloc ?_ _)); exact BK549.out) hb)
                              have n4_ := Aside0.mk (below_step (by repeat (first | (with_reducible first | exact HB.out | apply below_alloc | apply pw_below_drewN | apply below_drew1 | refine below_set ?_ GE511.out | refine below_set ?_ GE512.out | refine below_set ?_ GE549.out) | exact HB.out)) hb)
                              clear HO_7
                              clear BK511
                              clear BK512
                              clear BK549
                              clear HB
                              have HO_7 := n0_
                              have BK511 := n1_
                              have BK512 := n2_
                              have BK549 := n3_
                              have HB := n4_
                              clear n0_ n1_ n2_ n3_ n4_
                              (try clear hb)
                              (try clear hb2)
                              (try clear hk)
                              (try clear hi)
                              refine hK.out _ _ ⟨(blk_cell BK511.out 0).trans rfl, (blk_cell BK511.out 1).trans rfl, (blk_cell BK511.out 2).trans rfl, (blk_cell BK511.out 3).trans rfl, (blk_cell BK511.out 4).trans rfl, (blk_cell BK549.out 0).trans rfl, (blk_cell BK549.out 1).trans rfl, (blk_cell BK549.out 2).trans rfl, (blk_cell BK549.out 3).trans rfl, (blk_cell BK549.out 4).trans rfl⟩ (fun hHeld => ?_)
                              clear hK K
                              refine norm_ (a' := ?_) ?_ ?_
                              rotate_left
                              · show Act.put _ (some 102) _ = _
                                simp only [Act.put, List.setIfInBounds_toArray, List.set_cons_zero, List.set_cons_succ, i64_w, i32_w]
                                rfl
                              refine pure_ (i := 6) (N := some 104) (v := ?_) (a' := ?_) #[true, true, true, true, true, true, true, false, false, false, false, false, false, false, false, false, false, false, false, false, false, false, false, false, false] rfl rfl (any_of HT_.out (by kernel_rfl)) (fun _ _ _ h => h) (Or.inl ⟨by rfl, ?_⟩) ?_ ?_
                              rotate_left
                              · intro w'
                                go_simp
                                with_reducible rfl
                              rotate_left
                              · simp only [Act.put, List.setIfInBounds_toArray, List.set_cons_zero, List.set_cons_succ, i64_w, i32_w]
                                rfl
                              refine pure_ (i := 7) (N := some 105) (v := ?_) (a' := ?_) #[true, true, true, true, true, true, true, true, false, false, false, false, false, false, false, false, false, false, false, false, false, false, false, false, false] rfl rfl (any_of HT_.out (by kernel_rfl)) (fun _ _ _ h => h) (Or.inl ⟨by rfl, ?_⟩) ?_ ?_
                              rotate_left
                              · intro w'
                                go_simp
                                with_reducible rfl
                              rotate_left
                              · simp only [Act.put, List.setIfInBounds_toArray, List.set_cons_zero, List.set_cons_succ, i64_w, i32_w]
                                rfl
                              refine pure_ (i := 8) (N := some 106) (v := ?_) (a' := ?_) #[true, true, true, true, true, true, true, true, true, false, false, false, false, false, false, false, false, false, false, false, false, false, false, false, false] rfl rfl (any_of HT_.out (by kernel_rfl)) (fun _ _ _ h => h) (Or.inl ⟨by rfl, ?_⟩) ?_ ?_
                              rotate_left
                              · intro w'
                                go_simp
                                with_reducible rfl
                              rotate_left
                              · simp only [Act.put, List.setIfInBounds_toArray, List.set_cons_zero, List.set_cons_succ, i64_w, i32_w]
                                rfl
                              refine pure_ (i := 10) (N := some 108) (v := ?_) (a' := ?_) #[true, true, true, true, true, true, true, true, true, false, true, false, false, false, false, false, false, false, false, false, false, false, false, false, false] rfl rfl (any_of HT_.out (by kernel_rfl)) (fun _ _ _ h => h) (Or.inl ⟨by rfl, ?_⟩) ?_ ?_
                              rotate_left
                              · intro w'
                                go_simp
                                with_reducible rfl
                              rotate_left
                              · simp only [Act.put, List.setIfInBounds_toArray, List.set_cons_zero, List.set_cons_succ, i64_w, i32_w]
                                rfl
                              refine pure_ (i := 12) (N := some 110) (v := ?_) (a' := ?_) #[true, true, true, true, true, true, true, true, true, false, true, false, true, false, false, false, false, false, false, false, false, false, false, false, false] rfl rfl (any_of HT_.out (by kernel_rfl)) (fun _ _ _ h => h) (Or.inl ⟨by rfl, ?_⟩) ?_ ?_
                              rotate_left
                              · intro w'
                                go_simp
                                with_reducible rfl
                              rotate_left
                              · simp only [Act.put, List.setIfInBounds_toArray, List.set_cons_zero, List.set_cons_succ, i64_w, i32_w]
                                rfl
                              refine take_ (i := 9) (N := some 107) (v := ?_) (a' := ?_) #[true, true, true, true, true, true, true, true, true, true, true, false, true, false, false, false, false, false, false, false, false, false, false, false, false] rfl rfl (take_ofW HT_.out HW_.out (by kernel_rfl)) (fun _ _ _ h => h) (Or.inl ⟨by rfl, ?_⟩) hHeld ?_ ?_
                              rotate_left
                              · rintro w' ⟨s0, s1, s2, s3, s4, s5, s6, s7, s8, s9⟩
                                go_simp
                                with_reducible rfl
                              rotate_left
                              · simp only [Act.put, List.setIfInBounds_toArray, List.set_cons_zero, List.set_cons_succ, i64_w, i32_w]
                                rfl
                              refine one_ (i := 11) (N := some 109) #[true, true, true, true, true, true, true, true, true, true, true, true, true, false, false, false, false, false, false, false, false, false, false, false, false] rfl rfl (one_of HT_.out (by kernel_rfl)) (by decide) (fun K hK => ?_)
                              refine goes_ Tryd.func41 (by kernel_rfl) rfl #[.agg #[.int .u32 a0_0, .int .u32 a0_1, .int .u8 a0_2, .int .u16 a0_3, .int .u16 a0_4], .int .i64 a2, .bool false] (by rfl) rfl rfl (by (try simp only [List.map_toArray, List.map_cons, List.map_nil]); first | done | rfl | (simp only [List.length_drop, List.length_take]; rfl)) ?_
                              with_reducible refine (hdr_With.calls kj39 a0_0 a0_1 a0_2 a0_3 a0_4 a2 false t557 t558 t559 t560 t561 _ A64.out).mono ?_
                              rintro e w81 ⟨rfl, hb⟩
                              refine ⟨_, rfl, ?_⟩
                              have n0_ := Aside0.mk (Kd.R_below (by (with_reducible repeat (first | apply Kd.R_alloc | apply Kd.R_drewN | apply Kd.R_drew)); exact HO_7.out) hb)
                              have n1_ := Aside0.mk (blk_below (g := gb511) (o := .cells #[.int .u32 a0_0, .int .u32 a0_1, .int .u8 a0_2, .int .u16 a0_3, .int .u16 a0_4] 67 (0, 0)) (by (with_reducible repeat (first | refine blk_drewN ?_ _ | refine blk_drew ?_ | refine blk_alloc ?_ _)); exact BK511.out) hb)
                              have n2_ := Aside0.mk (blk_below (g := gb512) (o := .cells #[.int .u32 a1_0, .int .u32 a1_1, .int .u8 a1_2, .int .u16 a1_3, .int .u16 a1_4] 67 (0, 0)) (by (with_reducible repeat (first | refine blk_drewN ?_ _ | refine blk_drew ?_ | refine blk_alloc ?_ _)); exact BK512.out) hb)
                              have n3_ := Aside0.mk (blk_below (g := gb549) (o := .cells #[.int .u32 t544, .int .u32 t545, .int .u8 t546, .int .u16 t547, .int .u16 t548] 67 (0, 0)) (by (with_reducible repeat (first | refine blk_drewN ?_ _ | refine blk_drew ?_ | refine blk_alloc ?_ _)); exact BK549.out) hb)
                              have n4_ := Aside0.mk (below_step (by repeat (first | (with_reducible first | exact HB.out | apply below_alloc | apply pw_below_drewN | apply below_drew1 | refine below_set ?_ GE511.out | refine below_set ?_ GE512.out | refine below_set ?_ GE549.out) | exact HB.out)) hb)
                              clear HO_7
                              clear BK511
                              clear BK512
                              clear BK549
                              clear HB
                              have HO_7 := n0_
                              have BK511 := n1_
                              have BK512 := n2_
                              have BK549 := n3_
                              have HB := n4_
                              clear n0_ n1_ n2_ n3_ n4_
                              (try clear hb)
                              (try clear hb2)
                              (try clear hk)
                              (try clear hi)
                              refine hK.out _ _ ⟨(blk_cell BK511.out 0).trans rfl, (blk_cell BK511.out 1).trans rfl, (blk_cell BK511.out 2).trans rfl, (blk_cell BK511.out 3).trans rfl, (blk_cell BK511.out 4).trans rfl, (blk_cell BK549.out 0).trans rfl, (blk_cell BK549.out 1).trans rfl, (blk_cell BK549.out 2).trans rfl, (blk_cell BK549.out 3).trans rfl, (blk_cell BK549.out 4).trans rfl⟩ (fun hHeld => ?_)
                              clear hK K
                              refine norm_ (a' := ?_) ?_ ?_
                              rotate_left
                              · show Act.put _ (some 109) _ = _
                                simp only [Act.put, List.setIfInBounds_toArray, List.set_cons_zero, List.set_cons_succ, i64_w, i32_w]
                                rfl
                              refine one_ (i := 13) (N := some 111) #[true, true, true, true, true, true, true, true, true, true, true, true, true, true, false, false, false, false, false, false, false, false, false, false, false] rfl rfl (one_of HT_.out (by kernel_rfl)) (by decide) (fun K hK => ?_)
                              refine goes_ Tryd.func40 (by kernel_rfl) rfl #[.slice (some ⟨go57, 0, none⟩) y550.length co11] (by rfl) rfl rfl (by (try simp only [List.map_toArray, List.map_cons, List.map_nil]); first | done | (rw [show y550.length = t513.length from (Kd.R_reads' HO_7.out).1.symm] <;> rfl) | rfl | (simp only [List.length_drop, List.length_take]; rfl)) ?_
                              with_reducible refine (crossbuckref02_Back.calls kj39 _ _ y550 t562 t563 t564 t565 t566 _ ?side1 ?side2 A65.out).mono ?_
                              (case side1 => repeat (first | exact (Kd.R_reads' HO_7.out).2.2 | (with_reducible refine Kd.C_alloc ?_ _) | (with_reducible refine Kd.C_drewN ?_ _) | (with_reducible refine Kd.C_drew ?_)))
                              (case side2 => rw [show y550.length = t513.length from (Kd.R_reads' HO_7.out).1.symm]; exact (Kd.R_reads' HO_7.out).2.1)
                              rintro e w82 ⟨rfl, hb⟩
                              refine ⟨_, rfl, ?_⟩
                              have n0_ := Aside0.mk (Kd.R_below (by (with_reducible repeat (first | apply Kd.R_alloc | apply Kd.R_drewN | apply Kd.R_drew)); exact HO_7.out) hb)
                              have n1_ := Aside0.mk (blk_below (g := gb511) (o := .cells #[.int .u32 a0_0, .int .u32 a0_1, .int .u8 a0_2, .int .u16 a0_3, .int .u16 a0_4] 67 (0, 0)) (by (with_reducible repeat (first | refine blk_drewN ?_ _ | refine blk_drew ?_ | refine blk_alloc ?_ _)); exact BK511.out) hb)
                              have n2_ := Aside0.mk (blk_below (g := gb512) (o := .cells #[.int .u32 a1_0, .int .u32 a1_1, .int .u8 a1_2, .int .u16 a1_3, .int .u16 a1_4] 67 (0, 0)) (by (with_reducible repeat (first | refine blk_drewN ?_ _ | refine blk_drew ?_ | refine blk_alloc ?_ _)); exact BK512.out) hb)
                              have n3_ := Aside0.mk (blk_below (g := gb549) (o := .cells #[.int .u32 t544, .int .u32 t545, .int .u8 t546, .int .u16 t547, .int .u16 t548] 67 (0, 0)) (by (with_reducible repeat (first | refine blk_drewN ?_ _ | refine blk_drew ?_ | refine blk_alloc ?_ _)); exact BK549.out) hb)
                              have n4_ := Aside0.mk (below_step (by repeat (first | (with_reducible first | exact HB.out | apply below_alloc | apply pw_below_drewN | apply below_drew1 | refine below_set ?_ GE511.out | refine below_set ?_ GE512.out | refine below_set ?_ GE549.out) | exact HB.out)) hb)
                              clear HO_7
                              clear BK511
                              clear BK512
                              clear BK549
                              clear HB
                              have HO_7 := n0_
                              have BK511 := n1_
                              have BK512 := n2_
                              have BK549 := n3_
                              have HB := n4_
                              clear n0_ n1_ n2_ n3_ n4_
                              (try clear hb)
                              (try clear hb2)
                              (try clear hk)
                              (try clear hi)
                              refine hK.out _ _ ⟨(blk_cell BK511.out 0).trans rfl, (blk_cell BK511.out 1).trans rfl, (blk_cell BK511.out 2).trans rfl, (blk_cell BK511.out 3).trans rfl, (blk_cell BK511.out 4).trans rfl, (blk_cell BK549.out 0).trans rfl, (blk_cell BK549.out 1).trans rfl, (blk_cell BK549.out 2).trans rfl, (blk_cell BK549.out 3).trans rfl, (blk_cell BK549.out 4).trans rfl⟩ (fun hHeld => ?_)
                              clear hK K
                              refine norm_ (a' := ?_) ?_ ?_
                              rotate_left
                              · show Act.put _ (some 111) _ = _
                                simp only [Act.put, List.setIfInBounds_toArray, List.set_cons_zero, List.set_cons_succ, i64_w, i32_w]
                                rfl
                              refine pure_ (i := 14) (N := some 112) (v := ?_) (a' := ?_) #[true, true, true, true, true, true, true, true, true, true, true, true, true, true, true, false, false, false, false, false, false, false, false, false, false] rfl rfl (any_of HT_.out (by kernel_rfl)) (fun _ _ _ h => h) (Or.inl ⟨by rfl, ?_⟩) ?_ ?_
                              rotate_left
                              · intro w'
                                go_simp
                                with_reducible rfl
                              rotate_left
                              · simp only [Act.put, List.setIfInBounds_toArray, List.set_cons_zero, List.set_cons_succ, i64_w, i32_w]
                                rfl
                              refine pure_ (i := 15) (N := some 113) (v := ?_) (a' := ?_) #[true, true, true, true, true, true, true, true, true, true, true, true, true, true, true, true, false, false, false, false, false, false, false, false, false] rfl rfl (any_of HT_.out (by kernel_rfl)) (fun _ _ _ h => h) (Or.inl ⟨by rfl, ?_⟩) ?_ ?_
                              rotate_left
                              · intro w'
                                go_simp
                                with_reducible rfl
                              rotate_left
                              · simp only [Act.put, List.setIfInBounds_toArray, List.set_cons_zero, List.set_cons_succ, i64_w, i32_w]
                                rfl
                              refine pure_ (i := 16) (N := some 114) (v := ?_) (a' := ?_) #[true, true, true, true, true, true, true, true, true, true, true, true, true, true, true, true, true, false, false, false, false, false, false, false, false] rfl rfl (any_of HT_.out (by kernel_rfl)) (fun _ _ _ h => h) (Or.inl ⟨by rfl, ?_⟩) ?_ ?_
                              rotate_left
                              · intro w'
                                go_simp
                                with_reducible rfl
                              rotate_left
                              · simp only [Act.put, List.setIfInBounds_toArray, List.set_cons_zero, List.set_cons_succ, i64_w, i32_w]
                                rfl
                              refine pure_ (i := 18) (N := some 116) (v := ?_) (a' := ?_) #[true, true, true, true, true, true, true, true, true, true, true, true, true, true, true, true, true, false, true, false, false, false, false, false, false] rfl rfl (any_of HT_.out (by kernel_rfl)) (fun _ _ _ h => h) (Or.inl ⟨by rfl, ?_⟩) ?_ ?_
                              rotate_left
                              · intro w'
                                go_simp
                                with_reducible rfl
                              rotate_left
                              · simp only [Act.put, List.setIfInBounds_toArray, List.set_cons_zero, List.set_cons_succ, i64_w, i32_w]
                                rfl
                              refine pure_ (i := 19) (N := some 117) (v := ?_) (a' := ?_) #[true, true, true, true, true, true, true, true, true, true, true, true, true, true, true, true, true, false, true, true, false, false, false, false, false] rfl rfl (any_of HT_.out (by kernel_rfl)) (fun _ _ _ h => h) (Or.inl ⟨by rfl, ?_⟩) ?_ ?_
                              rotate_left
                              · intro w'
                                go_simp
                                with_reducible rfl
                              rotate_left
                              · simp only [Act.put, List.setIfInBounds_toArray, List.set_cons_zero, List.set_cons_succ, i64_w, i32_w]
                                rfl
                              refine take_ (i := 17) (N := some 115) (v := ?_) (a' := ?_) #[true, true, true, true, true, true, true, true, true, true, true, true, true, true, true, true, true, true, true, true, false, false, false, false, false] rfl rfl (take_ofW HT_.out HW_.out (by kernel_rfl)) (fun _ _ _ h => h) (Or.inl ⟨by rfl, ?_⟩) hHeld ?_ ?_
                              rotate_left
                              · rintro w' ⟨s0, s1, s2, s3, s4, s5, s6, s7, s8, s9⟩
                                go_simp
                                with_reducible rfl
                              rotate_left
                              · simp only [Act.put, List.setIfInBounds_toArray, List.set_cons_zero, List.set_cons_succ, i64_w, i32_w]
                                rfl
                              refine take_ (i := 21) (N := some 119) (v := ?_) (a' := ?_) #[true, true, true, true, true, true, true, true, true, true, true, true, true, true, true, true, true, true, true, true, false, true, false, false, false] rfl rfl (take_ofW HT_.out HW_.out (by kernel_rfl)) (fun _ _ _ h => h) (Or.inl ⟨by rfl, ?_⟩) hHeld ?_ ?_
                              rotate_left
                              · rintro w' ⟨s0, s1, s2, s3, s4, s5, s6, s7, s8, s9⟩
                                go_simp
                                with_reducible rfl
                              rotate_left
                              · simp only [Act.put, List.setIfInBounds_toArray, List.set_cons_zero, List.set_cons_succ, i64_w, i32_w]
                                rfl
                              refine one_ (i := 20) (N := some 118) #[true, true, true, true, true, true, true, true, true, true, true, true, true, true, true, true, true, true, true, true, true, true, false, false, false] rfl rfl (one_of HT_.out (by kernel_rfl)) (by decide) (fun K hK => ?_)
                              refine goes_ Tryd.func41 (by kernel_rfl) rfl #[.agg #[.int .u32 a0_0, .int .u32 a0_1, .int .u8 a0_2, .int .u16 a0_3, .int .u16 a0_4], .int .i64 a2, .bool (rdOf false t513 a2)] (by rfl) rfl rfl (by (try simp only [List.map_toArray, List.map_cons, List.map_nil]); first | done | rfl | (simp only [List.length_drop, List.length_take]; rfl)) ?_
                              with_reducible refine (hdr_With.calls kj39 a0_0 a0_1 a0_2 a0_3 a0_4 a2 (rdOf false t513 a2) t567 t568 t569 t570 t571 _ A67.out).mono ?_
                              rintro e w83 ⟨rfl, hb⟩
                              refine ⟨_, rfl, ?_⟩
                              have n0_ := Aside0.mk (Kd.R_below (by (with_reducible repeat (first | apply Kd.R_alloc | apply Kd.R_drewN | apply Kd.R_drew)); exact HO_7.out) hb)
                              have n1_ := Aside0.mk (blk_below (g := gb511) (o := .cells #[.int .u32 a0_0, .int .u32 a0_1, .int .u8 a0_2, .int .u16 a0_3, .int .u16 a0_4] 67 (0, 0)) (by (with_reducible repeat (first | refine blk_drewN ?_ _ | refine blk_drew ?_ | refine blk_alloc ?_ _)); exact BK511.out) hb)
                              have n2_ := Aside0.mk (blk_below (g := gb512) (o := .cells #[.int .u32 a1_0, .int .u32 a1_1, .int .u8 a1_2, .int .u16 a1_3, .int .u16 a1_4] 67 (0, 0)) (by (with_reducible repeat (first | refine blk_drewN ?_ _ | refine blk_drew ?_ | refine blk_alloc ?_ _)); exact BK512.out) hb)
                              have n3_ := Aside0.mk (blk_below (g := gb549) (o := .cells #[.int .u32 t544, .int .u32 t545, .int .u8 t546, .int .u16 t547, .int .u16 t548] 67 (0, 0)) (by (with_reducible repeat (first | refine blk_drewN ?_ _ | refine blk_drew ?_ | refine blk_alloc ?_ _)); exact BK549.out) hb)
                              have n4_ := Aside0.mk (below_step (by repeat (first | (with_reducible first | exact HB.out | apply below_alloc | apply pw_below_drewN | apply below_drew1 | refine below_set ?_ GE511.out | refine below_set ?_ GE512.out | refine below_set ?_ GE549.out) | exact HB.out)) hb)
                              clear HO_7
                              clear BK511
                              clear BK512
                              clear BK549
                              clear HB
                              have HO_7 := n0_
                              have BK511 := n1_
                              have BK512 := n2_
                              have BK549 := n3_
                              have HB := n4_
                              clear n0_ n1_ n2_ n3_ n4_
                              (try clear hb)
                              (try clear hb2)
                              (try clear hk)
                              (try clear hi)
                              refine hK.out _ _ ⟨(blk_cell BK511.out 0).trans rfl, (blk_cell BK511.out 1).trans rfl, (blk_cell BK511.out 2).trans rfl, (blk_cell BK511.out 3).trans rfl, (blk_cell BK511.out 4).trans rfl, (blk_cell BK549.out 0).trans rfl, (blk_cell BK549.out 1).trans rfl, (blk_cell BK549.out 2).trans rfl, (blk_cell BK549.out 3).trans rfl, (blk_cell BK549.out 4).trans rfl⟩ (fun hHeld => ?_)
                              clear hK K
                              refine norm_ (a' := ?_) ?_ ?_
                              rotate_left
                              · show Act.put _ (some 118) _ = _
                                simp only [Act.put, List.setIfInBounds_toArray, List.set_cons_zero, List.set_cons_succ, i64_w, i32_w]
                                rfl
                              refine pure_ (i := 22) (N := some 120) (v := ?_) (a' := ?_) #[true, true, true, true, true, true, true, true, true, true, true, true, true, true, true, true, true, true, true, true, true, true, true, false, false] rfl rfl (any_of HT_.out (by kernel_rfl)) (fun _ _ _ h => h) (Or.inl ⟨by rfl, ?_⟩) ?_ ?_
                              rotate_left
                              · intro w'
                                go_simp
                                with_reducible rfl
                              rotate_left
                              · simp only [Act.put, List.setIfInBounds_toArray, List.set_cons_zero, List.set_cons_succ, i64_w, i32_w]
                                rfl
                              refine pure_ (i := 23) (N := some 121) (v := ?_) (a' := ?_) #[true, true, true, true, true, true, true, true, true, true, true, true, true, true, true, true, true, true, true, true, true, true, true, true, false] rfl rfl (any_of HT_.out (by kernel_rfl)) (fun _ _ _ h => h) (Or.inl ⟨by rfl, ?_⟩) ?_ ?_
                              rotate_left
                              · intro w'
                                go_simp
                                with_reducible rfl
                              rotate_left
                              · simp only [Act.put, List.setIfInBounds_toArray, List.set_cons_zero, List.set_cons_succ, i64_w, i32_w]
                                rfl
                              refine pure_ (i := 24) (N := some 6) (v := ?_) (a' := ?_) #[true, true, true, true, true, true, true, true, true, true, true, true, true, true, true, true, true, true, true, true, true, true, true, true, true] rfl rfl (any_of HT_.out (by kernel_rfl)) (fun _ _ _ h => h) (Or.inl ⟨by rfl, ?_⟩) ?_ ?_
                              rotate_left
                              · intro w'
                                go_simp
                                with_reducible rfl
                              rotate_left
                              · simp only [Act.put, List.setIfInBounds_toArray, List.set_cons_zero, List.set_cons_succ, i64_w, i32_w]
                                rfl
                              refine done_ (done_of HT_.out (by kernel_rfl)) ?_
                              try go_wp2
                              go_ret
                              exact ⟨by first | rfl | (simp [errW_none, errW_some] <;> rfl) | (simp [*, errW_none, errW_some] <;> rfl), by repeat (first | (with_reducible first | exact HB.out | apply below_alloc | apply pw_below_drewN | apply below_drew1 | refine below_set ?_ GE511.out | refine below_set ?_ GE512.out | refine below_set ?_ GE549.out) | exact HB.out)⟩
                            · rw [if_neg c66] at H
                              have c66b0 : (t557 == t562 && (t558 == t563 && (t559 == t564 && (t560 == t565 && (t561 == t566))))) = false := by simpa using c66
                              (try (have c66b1 : decide (t557 = t562 && (t558 == t563 && (t559 == t564 && (t560 == t565 && (t561 == t566))))) = false := by simpa using c66))
                              (try (have c66b2 : (t557 == t562 && (t558 == t563 && (t559 == t564 && (t560 == t565 && (t561 == t566))))) = false := by simpa using c66))
                              (try (have c66b3 : ¬ (t557 = t562 && (t558 == t563 && (t559 == t564 && (t560 == t565 && (t561 == t566))))) := by simpa using c66))
                              clear c66
                              exact absurd ((Option.some.inj H).trans hT.out) (by decide)
                          · rw [if_neg c63] at H
                            have c63b0 : (t552 == t544 && (t553 == t545 && (t554 == t546 && (t555 == t547 && (t556 == t548))))) = false := by simpa using c63
                            (try (have c63b1 : decide (t552 = t544 && (t553 == t545 && (t554 == t546 && (t555 == t547 && (t556 == t548))))) = false := by simpa using c63))
                            (try (have c63b2 : (t552 == t544 && (t553 == t545 && (t554 == t546 && (t555 == t547 && (t556 == t548))))) = false := by simpa using c63))
                            (try (have c63b3 : ¬ (t552 = t544 && (t553 == t545 && (t554 == t546 && (t555 == t547 && (t556 == t548))))) := by simpa using c63))
                            clear c63
                            exact absurd ((Option.some.inj H).trans hT.out) (by decide)
                        · replace c61 := Bool.eq_false_iff.mpr c61
                          subst c61
                          have H1 : (some false) = some r := by rw [if_neg (show ¬ (false = true) by decide)] at H; exact H
                          clear H
                          have H := H1
                          clear H1
                          exact absurd ((Option.some.inj H).trans hT.out) (by decide)
                      · rw [if_neg c56] at H
                        exact absurd H (by simp)
                    · rw [if_neg c55] at H
                      exact absurd H (by simp)

end Go.Proofs.YtloclimoffhbhaaDoor.PAll
