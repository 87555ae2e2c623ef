-- Written by wip/myprint.py (this session's own driver); Lean checks it.
import Derived.Test.YtloclimoffhbhaaDoorPAllx0
import Derived.Test.YtloclimoffhbhaaDoorPAllx4
import Derived.Test.YtloclimoffhbhaaDoorPAllx89
import Derived.Test.YtloclimoffhbhaaDoorPAllx90
import Derived.Test.YtloclimoffhbhaaDoorPAllx110
import Derived.Test.YtloclimoffhbhaaDoorPAllx113
namespace Go.Proofs.YtloclimoffhbhaaDoor.PAll
open Go.RowKit Go.Proofs.YtloclimoffhbhaaDoorW.PrintWords Go.Proofs.YtloclimoffhbhaaDoorW.PrintLast Go.Proofs.YtloclimoffhbhaaDoorW.PrintMore
attribute [local go_sem] max2_int min2_int max_two min_two max_three min_three max_four min_four   -- for this text's walks alone
set_option linter.unusedVariables false
set_option linter.unusedSimpArgs false

attribute [local go_sem high] eqA67
/-! ### crossbucklaw02_HdrTurns: function 8 -/
def crossbucklaw02_HdrTurns.j0 : Nat → Int → Int → Int → Bool → Int → Int → Int → Int → Int → Int → Int → Int → Int → Int → Option (Bool)
  | 0, _, _, _, _, _, _, _, _, _, _, _, _, _, _ => none
  | k + 1, x9, x10, x11, x65, x573000, x573001, x573002, x573003, x573004, x574000, x574001, x574002, x574003, x574004 => if x65 = true then (some false) else ((crossbucklaw02_awake.f k).bind fun t596 => (if t596 = true then ((hdr_Compare.f k x574000 x574001 x574002 x574003 x574004 x573000 x573001 x573002 x573003 x573004).bind fun t597 => (if t597 = (wrap64 (-x9)) then (if ((x9 == 0) == (x573000 == x574000 && (x573001 == x574001 && (x573002 == x574002 && (x573003 == x574003 && (x573004 == x574004)))))) = true then (if x9 > 0 then (some true) else (if x10 > 0 then (some true) else (some (decide (x11 ≤ 0))))) else (some false)) else (some false))) else (some false)))
def crossbucklaw02_HdrTurns.f (k : Nat) (a0_0 : Int) (a0_1 : Int) (a0_2 : Int) (a0_3 : Int) (a0_4 : Int) (a1_0 : Int) (a1_1 : Int) (a1_2 : Int) (a1_3 : Int) (a1_4 : Int) (a2_0 : Int) (a2_1 : Int) (a2_2 : Int) (a2_3 : Int) (a2_4 : Int) (a3 : Int) : Option (Bool) := (hdr_Compare.f k a0_0 a0_1 a0_2 a0_3 a0_4 a1_0 a1_1 a1_2 a1_3 a1_4).bind fun t575 => ((hdr_Compare.f k a1_0 a1_1 a1_2 a1_3 a1_4 a2_0 a2_1 a2_2 a2_3 a2_4).bind fun t576 => ((hdr_Compare.f k a0_0 a0_1 a0_2 a0_3 a0_4 a2_0 a2_1 a2_2 a2_3 a2_4).bind fun t577 => ((hdr_Bit.f k a0_0 a0_1 a0_2 a0_3 a0_4 (wrap64 (Int.tmod a3 104))).bind fun t578 => ((hdr_With.f k a0_0 a0_1 a0_2 a0_3 a0_4 (wrap64 (Int.tmod a3 104)) (!t578)).bind fun bt579 => ((hdr_Bit.f k bt579.1 bt579.2.1 bt579.2.2.1 bt579.2.2.2.1 bt579.2.2.2.2 (wrap64 (Int.tmod a3 104))).bind fun t585 => ((hdr_Bit.f k a0_0 a0_1 a0_2 a0_3 a0_4 (wrap64 (Int.tmod a3 104))).bind fun t586 => (if (t585 == t586) = true then (crossbucklaw02_HdrTurns.j0 k t575 t576 t577 true a0_0 a0_1 a0_2 a0_3 a0_4 a1_0 a1_1 a1_2 a1_3 a1_4) else ((hdr_Bit.f k a0_0 a0_1 a0_2 a0_3 a0_4 (wrap64 (Int.tmod a3 104))).bind fun t587 => ((hdr_With.f k bt579.1 bt579.2.1 bt579.2.2.1 bt579.2.2.2.1 bt579.2.2.2.2 (wrap64 (Int.tmod a3 104)) t587).bind fun bt588 => (if (!(bt588.1 == a0_0) || (!(bt588.2.1 == a0_1) || (!(bt588.2.2.1 == a0_2) || (!(bt588.2.2.2.1 == a0_3) || (!(bt588.2.2.2.2 == a0_4)))))) = true then (crossbucklaw02_HdrTurns.j0 k t575 t576 t577 true a0_0 a0_1 a0_2 a0_3 a0_4 a1_0 a1_1 a1_2 a1_3 a1_4) else ((hdr_Compare.f k bt579.1 bt579.2.1 bt579.2.2.1 bt579.2.2.2.1 bt579.2.2.2.2 a0_0 a0_1 a0_2 a0_3 a0_4).bind fun t593 => (if t593 = 0 then (crossbucklaw02_HdrTurns.j0 k t575 t576 t577 true a0_0 a0_1 a0_2 a0_3 a0_4 a1_0 a1_1 a1_2 a1_3 a1_4) else ((hdr_Compare.f k bt579.1 bt579.2.1 bt579.2.2.1 bt579.2.2.2.1 bt579.2.2.2.2 a0_0 a0_1 a0_2 a0_3 a0_4).bind fun t594 => ((hdr_Bit.f k bt579.1 bt579.2.1 bt579.2.2.1 bt579.2.2.2.1 bt579.2.2.2.2 (wrap64 (Int.tmod a3 104))).bind fun t595 => (crossbucklaw02_HdrTurns.j0 k t575 t576 t577 ((decide (t594 > 0)) != t595) a0_0 a0_1 a0_2 a0_3 a0_4 a1_0 a1_1 a1_2 a1_3 a1_4)))))))))))))))
theorem crossbucklaw02_HdrTurns.mono_l : ∀ k, (∀ y0 y1 y2 y3 y4 y5 y6 y7 y8 y9 y10 y11 y12 y13, LeO (crossbucklaw02_HdrTurns.j0 k y0 y1 y2 y3 y4 y5 y6 y7 y8 y9 y10 y11 y12 y13) (crossbucklaw02_HdrTurns.j0 (k + 1) y0 y1 y2 y3 y4 y5 y6 y7 y8 y9 y10 y11 y12 y13))
  | 0 => fun _ _ _ _ _ _ _ _ _ _ _ _ _ _ r h => by simp [crossbucklaw02_HdrTurns.j0] at h
  | k + 1 => by
    have ih0 := crossbucklaw02_HdrTurns.mono_l k
    · intro y0 y1 y2 y3 y4 y5 y6 y7 y8 y9 y10 y11 y12 y13
      unfold crossbucklaw02_HdrTurns.j0
      repeat' first
      | (with_reducible exact ih0 _ _ _ _ _ _ _ _ _ _ _ _ _ _)
      | (with_reducible exact crossbucklaw02_awake.mono _)
      | (with_reducible exact hdr_Bit.mono _ _ _ _ _ _ _)
      | (with_reducible exact hdr_Compare.mono _ _ _ _ _ _ _ _ _ _ _)
      | (with_reducible exact hdr_With.mono _ _ _ _ _ _ _ _)
      | (with_reducible exact LeO.refl _)
      | (with_reducible exact LeO.none _)
      | (with_reducible refine LeO.ite ?_ ?_)
      | (with_reducible refine LeO.bind ?_ (fun _ => ?_))
      | exact ih0 _ _ _ _ _ _ _ _ _ _ _ _ _ _
      | exact crossbucklaw02_awake.mono _
      | exact hdr_Bit.mono _ _ _ _ _ _ _
      | exact hdr_Compare.mono _ _ _ _ _ _ _ _ _ _ _
      | exact hdr_With.mono _ _ _ _ _ _ _ _
      | exact LeO.none _
      | refine LeO.ite ?_ ?_
      | refine LeO.bind ?_ (fun _ => ?_)
theorem crossbucklaw02_HdrTurns.mono : ∀ a0 a1 a2 a3 a4 a5 a6 a7 a8 a9 a10 a11 a12 a13 a14 a15 k, LeO (crossbucklaw02_HdrTurns.f k a0 a1 a2 a3 a4 a5 a6 a7 a8 a9 a10 a11 a12 a13 a14 a15) (crossbucklaw02_HdrTurns.f (k + 1) a0 a1 a2 a3 a4 a5 a6 a7 a8 a9 a10 a11 a12 a13 a14 a15) := by
  intro a0 a1 a2 a3 a4 a5 a6 a7 a8 a9 a10 a11 a12 a13 a14 a15 k
  have ih0 := crossbucklaw02_HdrTurns.mono_l k
  unfold crossbucklaw02_HdrTurns.f
  repeat' first
      | (with_reducible exact ih0 _ _ _ _ _ _ _ _ _ _ _ _ _ _)
      | (with_reducible exact crossbucklaw02_awake.mono _)
      | (with_reducible exact hdr_Bit.mono _ _ _ _ _ _ _)
      | (with_reducible exact hdr_Compare.mono _ _ _ _ _ _ _ _ _ _ _)
      | (with_reducible exact hdr_With.mono _ _ _ _ _ _ _ _)
      | (with_reducible exact LeO.refl _)
      | (with_reducible exact LeO.none _)
      | (with_reducible refine LeO.ite ?_ ?_)
      | (with_reducible refine LeO.bind ?_ (fun _ => ?_))
      | exact ih0 _ _ _ _ _ _ _ _ _ _ _ _ _ _
      | exact crossbucklaw02_awake.mono _
      | exact hdr_Bit.mono _ _ _ _ _ _ _
      | exact hdr_Compare.mono _ _ _ _ _ _ _ _ _ _ _
      | exact hdr_With.mono _ _ _ _ _ _ _ _
      | exact LeO.none _
      | refine LeO.ite ?_ ?_
      | refine LeO.bind ?_ (fun _ => ?_)
def crossbucklaw02_HdrTurns.T1 : Bool × List (List Nat × List Nat) := (true, [([], []), ([], []), ([0, 1], [0, 1]), ([], []), ([], []), ([3, 4, 2], [3, 4]), ([], []), ([], []), ([6, 7, 5], [6, 7]), ([2, 8, 0, 1, 2], [2]), ([5, 9, 0, 1, 2, 3, 4, 5, 9], [5]), ([8, 10, 0, 1, 2, 3, 4, 5, 6, 7, 8, 9, 10], [8])])
def crossbucklaw02_HdrTurns.B1 : List Nat := [0, 0, 3, 0, 0, 31, 0, 0, 255, 511, 1023, 2047]
theorem crossbucklaw02_HdrTurns.tab1 : rtab .any (opsOf Tryd.f8 1) = crossbucklaw02_HdrTurns.T1 := by kernel_rfl
theorem crossbucklaw02_HdrTurns.bits1 : waitsOk crossbucklaw02_HdrTurns.T1.2 crossbucklaw02_HdrTurns.B1 = true := by kernel_rfl
def crossbucklaw02_HdrTurns.T3 : Bool × List (List Nat × List Nat) := (true, [([], []), ([], []), ([], []), ([], []), ([2, 3], [2, 3]), ([4], [4]), ([0, 1, 5, 4], [0, 1, 5]), ([], []), ([7, 6, 6, 0, 1, 2, 3, 4, 5, 6, 7], [6, 7])])
def crossbucklaw02_HdrTurns.B3 : List Nat := [0, 0, 0, 0, 12, 28, 63, 0, 255]
theorem crossbucklaw02_HdrTurns.tab3 : rtab .any (opsOf Tryd.f8 3) = crossbucklaw02_HdrTurns.T3 := by kernel_rfl
theorem crossbucklaw02_HdrTurns.bits3 : waitsOk crossbucklaw02_HdrTurns.T3.2 crossbucklaw02_HdrTurns.B3 = true := by kernel_rfl
def crossbucklaw02_HdrTurns.T4 : Bool × List (List Nat × List Nat) := (true, [([], []), ([], []), ([0, 1], [0, 1]), ([], []), ([], []), ([3, 4, 2], [3, 4]), ([2, 5], [2, 5]), ([6, 5], [6]), ([7], [7]), ([7], [7]), ([7], [7]), ([7], [7]), ([10, 11, 7, 7], [7, 10, 11]), ([8, 9, 12, 12, 7], [7, 8, 9, 12]), ([7], [7]), ([13, 14, 7], [7, 13, 14]), ([7, 15], [7, 15]), ([16, 13], [16]), ([17], [17]), ([17], [17]), ([18, 19, 17, 17], [17, 18, 19]), ([20, 17], [17, 20]), ([17, 21], [17, 21]), ([22, 20], [22]), ([23], [23]), ([23], [23]), ([24, 25, 23, 23], [23, 24, 25]), ([26, 23], [23, 26]), ([23], [23]), ([23], [23]), ([28, 29, 26, 23], [23, 28, 29]), ([27, 30, 23], [23, 27, 30]), ([23, 31], [23, 31])])
def crossbucklaw02_HdrTurns.B4 : List Nat := [0, 0, 3, 0, 0, 31, 63, 127, 255, 255, 255, 255, 3327, 8191, 255, 32767, 65535, 131071, 262143, 262143, 1048575, 2097151, 4194303, 8388607, 16777215, 16777215, 67108863, 134217727, 16777215, 16777215, 939524095, 2147483647, 4294967295]
theorem crossbucklaw02_HdrTurns.tab4 : rtab .any (opsOf Tryd.f8 4) = crossbucklaw02_HdrTurns.T4 := by kernel_rfl
theorem crossbucklaw02_HdrTurns.bits4 : waitsOk crossbucklaw02_HdrTurns.T4.2 crossbucklaw02_HdrTurns.B4 = true := by kernel_rfl
set_option maxHeartbeats 8000000 in
set_option maxRecDepth 100000 in
theorem crossbucklaw02_HdrTurns.calls (k : Nat) (a0_0 : Int) (a0_1 : Int) (a0_2 : Int) (a0_3 : Int) (a0_4 : Int) (a1_0 : Int) (a1_1 : Int) (a1_2 : Int) (a1_3 : Int) (a1_4 : Int) (a2_0 : Int) (a2_1 : Int) (a2_2 : Int) (a2_3 : Int) (a2_4 : Int) (a3 : Int) (r : Bool) (w : World) (hG : Hand.Good false true w) (h : crossbucklaw02_HdrTurns.f k a0_0 a0_1 a0_2 a0_3 a0_4 a1_0 a1_1 a1_2 a1_3 a1_4 a2_0 a2_1 a2_2 a2_3 a2_4 a3 = some r) (hT : Aside0 (r = true)) :
    Calls Tryd.prog 8 #[.agg #[.int .u32 a0_0, .int .u32 a0_1, .int .u8 a0_2, .int .u16 a0_3, .int .u16 a0_4], .agg #[.int .u32 a1_0, .int .u32 a1_1, .int .u8 a1_2, .int .u16 a1_3, .int .u16 a1_4], .agg #[.int .u32 a2_0, .int .u32 a2_1, .int .u8 a2_2, .int .u16 a2_3, .int .u16 a2_4], .int .u8 a3] w fun e w' => e = .returned (.bool r) ∧ Below w.heap.size w w' := by
  have hu67 := Tryd.underlying67
  have HB := Aside0.mk (Below.refl w.heap.size w)
  have hGG := Aside0.mk hG
  clear hG
  have H : ((hdr_Compare.f k a0_0 a0_1 a0_2 a0_3 a0_4 a1_0 a1_1 a1_2 a1_3 a1_4).bind fun t575 => ((hdr_Compare.f k a1_0 a1_1 a1_2 a1_3 a1_4 a2_0 a2_1 a2_2 a2_3 a2_4).bind fun t576 => ((hdr_Compare.f k a0_0 a0_1 a0_2 a0_3 a0_4 a2_0 a2_1 a2_2 a2_3 a2_4).bind fun t577 => ((hdr_Bit.f k a0_0 a0_1 a0_2 a0_3 a0_4 (wrap64 (Int.tmod a3 104))).bind fun t578 => ((hdr_With.f k a0_0 a0_1 a0_2 a0_3 a0_4 (wrap64 (Int.tmod a3 104)) (!t578)).bind fun bt579 => ((hdr_Bit.f k bt579.1 bt579.2.1 bt579.2.2.1 bt579.2.2.2.1 bt579.2.2.2.2 (wrap64 (Int.tmod a3 104))).bind fun t585 => ((hdr_Bit.f k a0_0 a0_1 a0_2 a0_3 a0_4 (wrap64 (Int.tmod a3 104))).bind fun t586 => (if (t585 == t586) = true then (crossbucklaw02_HdrTurns.j0 k t575 t576 t577 true a0_0 a0_1 a0_2 a0_3 a0_4 a1_0 a1_1 a1_2 a1_3 a1_4) else ((hdr_Bit.f k a0_0 a0_1 a0_2 a0_3 a0_4 (wrap64 (Int.tmod a3 104))).bind fun t587 => ((hdr_With.f k bt579.1 bt579.2.1 bt579.2.2.1 bt579.2.2.2.1 bt579.2.2.2.2 (wrap64 (Int.tmod a3 104)) t587).bind fun bt588 => (if (!(bt588.1 == a0_0) || (!(bt588.2.1 == a0_1) || (!(bt588.2.2.1 == a0_2) || (!(bt588.2.2.2.1 == a0_3) || (!(bt588.2.2.2.2 == a0_4)))))) = true then (crossbucklaw02_HdrTurns.j0 k t575 t576 t577 true a0_0 a0_1 a0_2 a0_3 a0_4 a1_0 a1_1 a1_2 a1_3 a1_4) else ((hdr_Compare.f k bt579.1 bt579.2.1 bt579.2.2.1 bt579.2.2.2.1 bt579.2.2.2.2 a0_0 a0_1 a0_2 a0_3 a0_4).bind fun t593 => (if t593 = 0 then (crossbucklaw02_HdrTurns.j0 k t575 t576 t577 true a0_0 a0_1 a0_2 a0_3 a0_4 a1_0 a1_1 a1_2 a1_3 a1_4) else ((hdr_Compare.f k bt579.1 bt579.2.1 bt579.2.2.1 bt579.2.2.2.1 bt579.2.2.2.2 a0_0 a0_1 a0_2 a0_3 a0_4).bind fun t594 => ((hdr_Bit.f k bt579.1 bt579.2.1 bt579.2.2.1 bt579.2.2.2.1 bt579.2.2.2.2 (wrap64 (Int.tmod a3 104))).bind fun t595 => (crossbucklaw02_HdrTurns.j0 k t575 t576 t577 ((decide (t594 > 0)) != t595) a0_0 a0_1 a0_2 a0_3 a0_4 a1_0 a1_1 a1_2 a1_3 a1_4)))))))))))))))) = some r := h
  clear h
  replace H := Option.bind_eq_some_iff.mp H
  obtain ⟨t575, A50, H⟩ := H
  replace H : ((hdr_Compare.f k a1_0 a1_1 a1_2 a1_3 a1_4 a2_0 a2_1 a2_2 a2_3 a2_4).bind fun t576 => ((hdr_Compare.f k a0_0 a0_1 a0_2 a0_3 a0_4 a2_0 a2_1 a2_2 a2_3 a2_4).bind fun t577 => ((hdr_Bit.f k a0_0 a0_1 a0_2 a0_3 a0_4 (wrap64 (Int.tmod a3 104))).bind fun t578 => ((hdr_With.f k a0_0 a0_1 a0_2 a0_3 a0_4 (wrap64 (Int.tmod a3 104)) (!t578)).bind fun bt579 => ((hdr_Bit.f k bt579.1 bt579.2.1 bt579.2.2.1 bt579.2.2.2.1 bt579.2.2.2.2 (wrap64 (Int.tmod a3 104))).bind fun t585 => ((hdr_Bit.f k a0_0 a0_1 a0_2 a0_3 a0_4 (wrap64 (Int.tmod a3 104))).bind fun t586 => (if (t585 == t586) = true then (crossbucklaw02_HdrTurns.j0 k t575 t576 t577 true a0_0 a0_1 a0_2 a0_3 a0_4 a1_0 a1_1 a1_2 a1_3 a1_4) else ((hdr_Bit.f k a0_0 a0_1 a0_2 a0_3 a0_4 (wrap64 (Int.tmod a3 104))).bind fun t587 => ((hdr_With.f k bt579.1 bt579.2.1 bt579.2.2.1 bt579.2.2.2.1 bt579.2.2.2.2 (wrap64 (Int.tmod a3 104)) t587).bind fun bt588 => (if (!(bt588.1 == a0_0) || (!(bt588.2.1 == a0_1) || (!(bt588.2.2.1 == a0_2) || (!(bt588.2.2.2.1 == a0_3) || (!(bt588.2.2.2.2 == a0_4)))))) = true then (crossbucklaw02_HdrTurns.j0 k t575 t576 t577 true a0_0 a0_1 a0_2 a0_3 a0_4 a1_0 a1_1 a1_2 a1_3 a1_4) else ((hdr_Compare.f k bt579.1 bt579.2.1 bt579.2.2.1 bt579.2.2.2.1 bt579.2.2.2.2 a0_0 a0_1 a0_2 a0_3 a0_4).bind fun t593 => (if t593 = 0 then (crossbucklaw02_HdrTurns.j0 k t575 t576 t577 true a0_0 a0_1 a0_2 a0_3 a0_4 a1_0 a1_1 a1_2 a1_3 a1_4) else ((hdr_Compare.f k bt579.1 bt579.2.1 bt579.2.2.1 bt579.2.2.2.1 bt579.2.2.2.2 a0_0 a0_1 a0_2 a0_3 a0_4).bind fun t594 => ((hdr_Bit.f k bt579.1 bt579.2.1 bt579.2.2.1 bt579.2.2.2.1 bt579.2.2.2.2 (wrap64 (Int.tmod a3 104))).bind fun t595 => (crossbucklaw02_HdrTurns.j0 k t575 t576 t577 ((decide (t594 > 0)) != t595) a0_0 a0_1 a0_2 a0_3 a0_4 a1_0 a1_1 a1_2 a1_3 a1_4))))))))))))))) = some r := H
  have A5 := Aside0.mk A50
  clear A50
  replace H := Option.bind_eq_some_iff.mp H
  obtain ⟨t576, A60, H⟩ := H
  replace H : ((hdr_Compare.f k a0_0 a0_1 a0_2 a0_3 a0_4 a2_0 a2_1 a2_2 a2_3 a2_4).bind fun t577 => ((hdr_Bit.f k a0_0 a0_1 a0_2 a0_3 a0_4 (wrap64 (Int.tmod a3 104))).bind fun t578 => ((hdr_With.f k a0_0 a0_1 a0_2 a0_3 a0_4 (wrap64 (Int.tmod a3 104)) (!t578)).bind fun bt579 => ((hdr_Bit.f k bt579.1 bt579.2.1 bt579.2.2.1 bt579.2.2.2.1 bt579.2.2.2.2 (wrap64 (Int.tmod a3 104))).bind fun t585 => ((hdr_Bit.f k a0_0 a0_1 a0_2 a0_3 a0_4 (wrap64 (Int.tmod a3 104))).bind fun t586 => (if (t585 == t586) = true then (crossbucklaw02_HdrTurns.j0 k t575 t576 t577 true a0_0 a0_1 a0_2 a0_3 a0_4 a1_0 a1_1 a1_2 a1_3 a1_4) else ((hdr_Bit.f k a0_0 a0_1 a0_2 a0_3 a0_4 (wrap64 (Int.tmod a3 104))).bind fun t587 => ((hdr_With.f k bt579.1 bt579.2.1 bt579.2.2.1 bt579.2.2.2.1 bt579.2.2.2.2 (wrap64 (Int.tmod a3 104)) t587).bind fun bt588 => (if (!(bt588.1 == a0_0) || (!(bt588.2.1 == a0_1) || (!(bt588.2.2.1 == a0_2) || (!(bt588.2.2.2.1 == a0_3) || (!(bt588.2.2.2.2 == a0_4)))))) = true then (crossbucklaw02_HdrTurns.j0 k t575 t576 t577 true a0_0 a0_1 a0_2 a0_3 a0_4 a1_0 a1_1 a1_2 a1_3 a1_4) else ((hdr_Compare.f k bt579.1 bt579.2.1 bt579.2.2.1 bt579.2.2.2.1 bt579.2.2.2.2 a0_0 a0_1 a0_2 a0_3 a0_4).bind fun t593 => (if t593 = 0 then (crossbucklaw02_HdrTurns.j0 k t575 t576 t577 true a0_0 a0_1 a0_2 a0_3 a0_4 a1_0 a1_1 a1_2 a1_3 a1_4) else ((hdr_Compare.f k bt579.1 bt579.2.1 bt579.2.2.1 bt579.2.2.2.1 bt579.2.2.2.2 a0_0 a0_1 a0_2 a0_3 a0_4).bind fun t594 => ((hdr_Bit.f k bt579.1 bt579.2.1 bt579.2.2.1 bt579.2.2.2.1 bt579.2.2.2.2 (wrap64 (Int.tmod a3 104))).bind fun t595 => (crossbucklaw02_HdrTurns.j0 k t575 t576 t577 ((decide (t594 > 0)) != t595) a0_0 a0_1 a0_2 a0_3 a0_4 a1_0 a1_1 a1_2 a1_3 a1_4)))))))))))))) = some r := H
  have A6 := Aside0.mk A60
  clear A60
  replace H := Option.bind_eq_some_iff.mp H
  obtain ⟨t577, A70, H⟩ := H
  replace H : ((hdr_Bit.f k a0_0 a0_1 a0_2 a0_3 a0_4 (wrap64 (Int.tmod a3 104))).bind fun t578 => ((hdr_With.f k a0_0 a0_1 a0_2 a0_3 a0_4 (wrap64 (Int.tmod a3 104)) (!t578)).bind fun bt579 => ((hdr_Bit.f k bt579.1 bt579.2.1 bt579.2.2.1 bt579.2.2.2.1 bt579.2.2.2.2 (wrap64 (Int.tmod a3 104))).bind fun t585 => ((hdr_Bit.f k a0_0 a0_1 a0_2 a0_3 a0_4 (wrap64 (Int.tmod a3 104))).bind fun t586 => (if (t585 == t586) = true then (crossbucklaw02_HdrTurns.j0 k t575 t576 t577 true a0_0 a0_1 a0_2 a0_3 a0_4 a1_0 a1_1 a1_2 a1_3 a1_4) else ((hdr_Bit.f k a0_0 a0_1 a0_2 a0_3 a0_4 (wrap64 (Int.tmod a3 104))).bind fun t587 => ((hdr_With.f k bt579.1 bt579.2.1 bt579.2.2.1 bt579.2.2.2.1 bt579.2.2.2.2 (wrap64 (Int.tmod a3 104)) t587).bind fun bt588 => (if (!(bt588.1 == a0_0) || (!(bt588.2.1 == a0_1) || (!(bt588.2.2.1 == a0_2) || (!(bt588.2.2.2.1 == a0_3) || (!(bt588.2.2.2.2 == a0_4)))))) = true then (crossbucklaw02_HdrTurns.j0 k t575 t576 t577 true a0_0 a0_1 a0_2 a0_3 a0_4 a1_0 a1_1 a1_2 a1_3 a1_4) else ((hdr_Compare.f k bt579.1 bt579.2.1 bt579.2.2.1 bt579.2.2.2.1 bt579.2.2.2.2 a0_0 a0_1 a0_2 a0_3 a0_4).bind fun t593 => (if t593 = 0 then (crossbucklaw02_HdrTurns.j0 k t575 t576 t577 true a0_0 a0_1 a0_2 a0_3 a0_4 a1_0 a1_1 a1_2 a1_3 a1_4) else ((hdr_Compare.f k bt579.1 bt579.2.1 bt579.2.2.1 bt579.2.2.2.1 bt579.2.2.2.2 a0_0 a0_1 a0_2 a0_3 a0_4).bind fun t594 => ((hdr_Bit.f k bt579.1 bt579.2.1 bt579.2.2.1 bt579.2.2.2.1 bt579.2.2.2.2 (wrap64 (Int.tmod a3 104))).bind fun t595 => (crossbucklaw02_HdrTurns.j0 k t575 t576 t577 ((decide (t594 > 0)) != t595) a0_0 a0_1 a0_2 a0_3 a0_4 a1_0 a1_1 a1_2 a1_3 a1_4))))))))))))) = some r := H
  have A7 := Aside0.mk A70
  clear A70
  replace H := Option.bind_eq_some_iff.mp H
  obtain ⟨t578, A80, H⟩ := H
  replace H : ((hdr_With.f k a0_0 a0_1 a0_2 a0_3 a0_4 (wrap64 (Int.tmod a3 104)) (!t578)).bind fun bt579 => ((hdr_Bit.f k bt579.1 bt579.2.1 bt579.2.2.1 bt579.2.2.2.1 bt579.2.2.2.2 (wrap64 (Int.tmod a3 104))).bind fun t585 => ((hdr_Bit.f k a0_0 a0_1 a0_2 a0_3 a0_4 (wrap64 (Int.tmod a3 104))).bind fun t586 => (if (t585 == t586) = true then (crossbucklaw02_HdrTurns.j0 k t575 t576 t577 true a0_0 a0_1 a0_2 a0_3 a0_4 a1_0 a1_1 a1_2 a1_3 a1_4) else ((hdr_Bit.f k a0_0 a0_1 a0_2 a0_3 a0_4 (wrap64 (Int.tmod a3 104))).bind fun t587 => ((hdr_With.f k bt579.1 bt579.2.1 bt579.2.2.1 bt579.2.2.2.1 bt579.2.2.2.2 (wrap64 (Int.tmod a3 104)) t587).bind fun bt588 => (if (!(bt588.1 == a0_0) || (!(bt588.2.1 == a0_1) || (!(bt588.2.2.1 == a0_2) || (!(bt588.2.2.2.1 == a0_3) || (!(bt588.2.2.2.2 == a0_4)))))) = true then (crossbucklaw02_HdrTurns.j0 k t575 t576 t577 true a0_0 a0_1 a0_2 a0_3 a0_4 a1_0 a1_1 a1_2 a1_3 a1_4) else ((hdr_Compare.f k bt579.1 bt579.2.1 bt579.2.2.1 bt579.2.2.2.1 bt579.2.2.2.2 a0_0 a0_1 a0_2 a0_3 a0_4).bind fun t593 => (if t593 = 0 then (crossbucklaw02_HdrTurns.j0 k t575 t576 t577 true a0_0 a0_1 a0_2 a0_3 a0_4 a1_0 a1_1 a1_2 a1_3 a1_4) else ((hdr_Compare.f k bt579.1 bt579.2.1 bt579.2.2.1 bt579.2.2.2.1 bt579.2.2.2.2 a0_0 a0_1 a0_2 a0_3 a0_4).bind fun t594 => ((hdr_Bit.f k bt579.1 bt579.2.1 bt579.2.2.1 bt579.2.2.2.1 bt579.2.2.2.2 (wrap64 (Int.tmod a3 104))).bind fun t595 => (crossbucklaw02_HdrTurns.j0 k t575 t576 t577 ((decide (t594 > 0)) != t595) a0_0 a0_1 a0_2 a0_3 a0_4 a1_0 a1_1 a1_2 a1_3 a1_4)))))))))))) = some r := H
  have A8 := Aside0.mk A80
  clear A80
  replace H := Option.bind_eq_some_iff.mp H
  obtain ⟨⟨t579, t580, t581, t582, t583⟩, A90, H⟩ := H
  replace H : ((hdr_Bit.f k t579 t580 t581 t582 t583 (wrap64 (Int.tmod a3 104))).bind fun t585 => ((hdr_Bit.f k a0_0 a0_1 a0_2 a0_3 a0_4 (wrap64 (Int.tmod a3 104))).bind fun t586 => (if (t585 == t586) = true then (crossbucklaw02_HdrTurns.j0 k t575 t576 t577 true a0_0 a0_1 a0_2 a0_3 a0_4 a1_0 a1_1 a1_2 a1_3 a1_4) else ((hdr_Bit.f k a0_0 a0_1 a0_2 a0_3 a0_4 (wrap64 (Int.tmod a3 104))).bind fun t587 => ((hdr_With.f k t579 t580 t581 t582 t583 (wrap64 (Int.tmod a3 104)) t587).bind fun bt588 => (if (!(bt588.1 == a0_0) || (!(bt588.2.1 == a0_1) || (!(bt588.2.2.1 == a0_2) || (!(bt588.2.2.2.1 == a0_3) || (!(bt588.2.2.2.2 == a0_4)))))) = true then (crossbucklaw02_HdrTurns.j0 k t575 t576 t577 true a0_0 a0_1 a0_2 a0_3 a0_4 a1_0 a1_1 a1_2 a1_3 a1_4) else ((hdr_Compare.f k t579 t580 t581 t582 t583 a0_0 a0_1 a0_2 a0_3 a0_4).bind fun t593 => (if t593 = 0 then (crossbucklaw02_HdrTurns.j0 k t575 t576 t577 true a0_0 a0_1 a0_2 a0_3 a0_4 a1_0 a1_1 a1_2 a1_3 a1_4) else ((hdr_Compare.f k t579 t580 t581 t582 t583 a0_0 a0_1 a0_2 a0_3 a0_4).bind fun t594 => ((hdr_Bit.f k t579 t580 t581 t582 t583 (wrap64 (Int.tmod a3 104))).bind fun t595 => (crossbucklaw02_HdrTurns.j0 k t575 t576 t577 ((decide (t594 > 0)) != t595) a0_0 a0_1 a0_2 a0_3 a0_4 a1_0 a1_1 a1_2 a1_3 a1_4))))))))))) = some r := H
  have A9 := Aside0.mk A90
  clear A90
  have HC10 := Aside0.mk H
  clear H
  go_enter Tryd.func8, Tryd.ntmps8
  try go_wp2_with (first | ((with_reducible refine gate_dst (N := 4) rfl ?_); refine box_event ?hg (N := 4) ?hd (cs := #[.int .u32 a0_0, .int .u32 a0_1, .int .u8 a0_2, .int .u16 a0_3, .int .u16 a0_4]) (t := 67) ?hr ?_; (case hd => rfl); (case hg => rfl); (case hr => first | (go_simp; done) | (go_simp; rfl)); intro gb572 hg w11 hbox hb; have n0_ := Aside0.mk (below_step (by repeat (first | (with_reducible first | exact HB.out | apply below_alloc | apply pw_below_drewN | apply below_drew1) | exact HB.out)) hb); have n1_ := Aside0.mk (hbox); have n2_ := Aside0.mk ((by rw [hg]; exact (below_size (by repeat (first | (with_reducible first | exact HB.out | apply below_alloc | apply pw_below_drewN | apply below_drew1) | exact HB.out))) : w.heap.size ≤ gb572)); have n3_ := Aside0.mk ((by rw [hg]; exact (below_size (by repeat (first | (with_reducible first | exact HB.out | apply below_alloc | apply pw_below_drewN | apply below_drew1) | exact HB.out))) : w.heap.size ≤ gb572)); clear HB; have HB := n0_; have BK572 := n1_; have GW572 := n2_; have GE572 := n3_; clear n0_ n1_ n2_ n3_; clear hb hbox hg) | ((with_reducible refine gate_dst (N := 5) rfl ?_); refine box_event ?hg (N := 5) ?hd (cs := #[.int .u32 a1_0, .int .u32 a1_1, .int .u8 a1_2, .int .u16 a1_3, .int .u16 a1_4]) (t := 67) ?hr ?_; (case hd => rfl); (case hg => rfl); (case hr => first | (go_simp; done) | (go_simp; rfl)); intro gb573 hg w12 hbox hb; have n0_ := Aside0.mk (blk_below (g := gb572) (o := .cells #[.int .u32 a0_0, .int .u32 a0_1, .int .u8 a0_2, .int .u16 a0_3, .int .u16 a0_4] 67 (0, 0)) (by (with_reducible repeat (first | refine blk_drewN ?_ _ | refine blk_drew ?_ | refine blk_alloc ?_ _)); exact BK572.out) hb); have n1_ := Aside0.mk (below_step (by repeat (first | (with_reducible first | exact HB.out | apply below_alloc | apply pw_below_drewN | apply below_drew1 | refine below_set ?_ GE572.out) | exact HB.out)) hb); have n2_ := Aside0.mk (hbox); have n3_ := Aside0.mk ((by rw [hg]; exact (below_size (by repeat (first | (with_reducible first | exact HB.out | apply below_alloc | apply pw_below_drewN | apply below_drew1 | refine below_set ?_ GE572.out) | exact HB.out))) : w.heap.size ≤ gb573)); have n4_ := Aside0.mk ((by rw [hg]; exact (below_size (by repeat (first | (with_reducible first | exact HB.out | apply below_alloc | apply pw_below_drewN | apply below_drew1 | refine below_set ?_ GE572.out) | exact HB.out))) : w.heap.size ≤ gb573)); have n5_ := Aside0.mk ((by rw [hg]; exact Nat.ne_of_lt (blk_lt (g := gb572) (o := .cells #[.int .u32 a0_0, .int .u32 a0_1, .int .u8 a0_2, .int .u16 a0_3, .int .u16 a0_4] 67 (0, 0)) (by (with_reducible repeat (first | refine blk_drewN ?_ _ | refine blk_drew ?_ | refine blk_alloc ?_ _)); exact BK572.out)) : gb572 ≠ gb573)); have n6_ := Aside0.mk ((by rw [hg]; exact Nat.ne_of_gt (blk_lt (g := gb572) (o := .cells #[.int .u32 a0_0, .int .u32 a0_1, .int .u8 a0_2, .int .u16 a0_3, .int .u16 a0_4] 67 (0, 0)) (by (with_reducible repeat (first | refine blk_drewN ?_ _ | refine blk_drew ?_ | refine blk_alloc ?_ _)); exact BK572.out)) : gb573 ≠ gb572)); clear BK572; clear HB; have BK572 := n0_; have HB := n1_; have BK573 := n2_; have GW573 := n3_; have GE573 := n4_; have NB572_573 := n5_; have NB573_572 := n6_; clear n0_ n1_ n2_ n3_ n4_ n5_ n6_; clear hb hbox hg) | ((with_reducible refine gate_dst (N := 6) rfl ?_); refine box_event ?hg (N := 6) ?hd (cs := #[.int .u32 a2_0, .int .u32 a2_1, .int .u8 a2_2, .int .u16 a2_3, .int .u16 a2_4]) (t := 67) ?hr ?_; (case hd => rfl); (case hg => rfl); (case hr => first | (go_simp; done) | (go_simp; rfl)); intro gb574 hg w13 hbox hb; have n0_ := Aside0.mk (blk_below (g := gb572) (o := .cells #[.int .u32 a0_0, .int .u32 a0_1, .int .u8 a0_2, .int .u16 a0_3, .int .u16 a0_4] 67 (0, 0)) (by (with_reducible repeat (first | refine blk_drewN ?_ _ | refine blk_drew ?_ | refine blk_alloc ?_ _)); exact BK572.out) hb); have n1_ := Aside0.mk (blk_below (g := gb573) (o := .cells #[.int .u32 a1_0, .int .u32 a1_1, .int .u8 a1_2, .int .u16 a1_3, .int .u16 a1_4] 67 (0, 0)) (by (with_reducible repeat (first | refine blk_drewN ?_ _ | refine blk_drew ?_ | refine blk_alloc ?_ _)); exact BK573.out) hb); have n2_ := Aside0.mk (below_step (by repeat (first | (with_reducible first | exact HB.out | apply below_alloc | apply pw_below_drewN | apply below_drew1 | refine below_set ?_ GE572.out | refine below_set ?_ GE573.out) | exact HB.out)) hb); have n3_ := Aside0.mk (hbox); have n4_ := Aside0.mk ((by rw [hg]; exact (below_size (by repeat (first | (with_reducible first | exact HB.out | apply below_alloc | apply pw_below_drewN | apply below_drew1 | refine below_set ?_ GE572.out | refine below_set ?_ GE573.out) | exact HB.out))) : w.heap.size ≤ gb574)); have n5_ := Aside0.mk ((by rw [hg]; exact (below_size (by repeat (first | (with_reducible first | exact HB.out | apply below_alloc | apply pw_below_drewN | apply below_drew1 | refine below_set ?_ GE572.out | refine below_set ?_ GE573.out) | exact HB.out))) : w.heap.size ≤ gb574)); have n6_ := Aside0.mk ((by rw [hg]; exact Nat.ne_of_lt (blk_lt (g := gb572) (o := .cells #[.int .u32 a0_0, .int .u32 a0_1, .int .u8 a0_2, .int .u16 a0_3, .int .u16 a0_4] 67 (0, 0)) (by (with_reducible repeat (first | refine blk_drewN ?_ _ | refine blk_drew ?_ | refine blk_alloc ?_ _)); exact BK572.out)) : gb572 ≠ gb574)); have n7_ := Aside0.mk ((by rw [hg]; exact Nat.ne_of_gt (blk_lt (g := gb572) (o := .cells #[.int .u32 a0_0, .int .u32 a0_1, .int .u8 a0_2, .int .u16 a0_3, .int .u16 a0_4] 67 (0, 0)) (by (with_reducible repeat (first | refine blk_drewN ?_ _ | refine blk_drew ?_ | refine blk_alloc ?_ _)); exact BK572.out)) : gb574 ≠ gb572)); have n8_ := Aside0.mk ((by rw [hg]; exact Nat.ne_of_lt (blk_lt (g := gb573) (o := .cells #[.int .u32 a1_0, .int .u32 a1_1, .int .u8 a1_2, .int .u16 a1_3, .int .u16 a1_4] 67 (0, 0)) (by (with_reducible repeat (first | refine blk_drewN ?_ _ | refine blk_drew ?_ | refine blk_alloc ?_ _)); exact BK573.out)) : gb573 ≠ gb574)); have n9_ := Aside0.mk ((by rw [hg]; exact Nat.ne_of_gt (blk_lt (g := gb573) (o := .cells #[.int .u32 a1_0, .int .u32 a1_1, .int .u8 a1_2, .int .u16 a1_3, .int .u16 a1_4] 67 (0, 0)) (by (with_reducible repeat (first | refine blk_drewN ?_ _ | refine blk_drew ?_ | refine blk_alloc ?_ _)); exact BK573.out)) : gb574 ≠ gb573)); clear BK572; clear BK573; clear HB; have BK572 := n0_; have BK573 := n1_; have HB := n2_; have BK574 := n3_; have GW574 := n4_; have GE574 := n5_; have NB572_574 := n6_; have NB574_572 := n7_; have NB573_574 := n8_; have NB574_573 := n9_; clear n0_ n1_ n2_ n3_ n4_ n5_ n6_ n7_ n8_ n9_; clear hb hbox hg))
  have n0_ := Aside0.mk (blk_drew BK572.out)
  have n1_ := Aside0.mk (blk_drew BK573.out)
  have n2_ := Aside0.mk (blk_drew BK574.out)
  have n3_ := Aside0.mk (below_drew1 HB.out)
  clear BK572
  clear BK573
  clear BK574
  clear HB
  have BK572 := n0_
  have BK573 := n1_
  have BK574 := n2_
  have HB := n3_
  clear n0_ n1_ n2_ n3_
  refine start_ (n := 12) (S := fun w' => w'.cell? ⟨gb572, 0, none⟩ = some (.int .u32 a0_0) ∧ w'.cell? ⟨gb572, 1, none⟩ = some (.int .u32 a0_1) ∧ w'.cell? ⟨gb572, 2, none⟩ = some (.int .u8 a0_2) ∧ w'.cell? ⟨gb572, 3, none⟩ = some (.int .u16 a0_3) ∧ w'.cell? ⟨gb572, 4, none⟩ = some (.int .u16 a0_4) ∧ w'.cell? ⟨gb573, 0, none⟩ = some (.int .u32 a1_0) ∧ w'.cell? ⟨gb573, 1, none⟩ = some (.int .u32 a1_1) ∧ w'.cell? ⟨gb573, 2, none⟩ = some (.int .u8 a1_2) ∧ w'.cell? ⟨gb573, 3, none⟩ = some (.int .u16 a1_3) ∧ w'.cell? ⟨gb573, 4, none⟩ = some (.int .u16 a1_4) ∧ w'.cell? ⟨gb574, 0, none⟩ = some (.int .u32 a2_0) ∧ w'.cell? ⟨gb574, 1, none⟩ = some (.int .u32 a2_1) ∧ w'.cell? ⟨gb574, 2, none⟩ = some (.int .u8 a2_2) ∧ w'.cell? ⟨gb574, 3, none⟩ = some (.int .u16 a2_3) ∧ w'.cell? ⟨gb574, 4, none⟩ = some (.int .u16 a2_4)) (ds := []) #[false, false, false, false, false, false, false, false, false, false, false, false] (by kernel_rfl) rfl rfl ⟨(blk_cell BK572.out 0).trans rfl, (blk_cell BK572.out 1).trans rfl, (blk_cell BK572.out 2).trans rfl, (blk_cell BK572.out 3).trans rfl, (blk_cell BK572.out 4).trans rfl, (blk_cell BK573.out 0).trans rfl, (blk_cell BK573.out 1).trans rfl, (blk_cell BK573.out 2).trans rfl, (blk_cell BK573.out 3).trans rfl, (blk_cell BK573.out 4).trans rfl, (blk_cell BK574.out 0).trans rfl, (blk_cell BK574.out 1).trans rfl, (blk_cell BK574.out 2).trans rfl, (blk_cell BK574.out 3).trans rfl, (blk_cell BK574.out 4).trans rfl⟩ (fun hHeld => ?_); refine with_tabW crossbucklaw02_HdrTurns.tab1 crossbucklaw02_HdrTurns.bits1 (fun HT_ HW_ => ?_)
  generalize w13.drew = w14 at BK572 BK573 BK574 HB hHeld ⊢
  refine take_ (i := 0) (N := some 14) (v := ?_) (a' := ?_) #[true, false, false, false, false, false, false, false, false, false, false, false] rfl rfl (take_ofW HT_.out HW_.out (by kernel_rfl)) (fun _ _ _ h => h) (Or.inl ⟨by rfl, ?_⟩) hHeld ?_ ?_
  rotate_left
  · rintro w' ⟨s0, s1, s2, s3, s4, s5, s6, s7, s8, s9, s10, s11, s12, s13, s14⟩
    go_simp
    with_reducible rfl
  rotate_left
  · simp only [Act.put, List.setIfInBounds_toArray, List.set_cons_zero, List.set_cons_succ, i64_w, i32_w]
    rfl
  refine take_ (i := 1) (N := some 15) (v := ?_) (a' := ?_) #[true, true, false, false, false, false, false, false, false, false, false, false] rfl rfl (take_ofW HT_.out HW_.out (by kernel_rfl)) (fun _ _ _ h => h) (Or.inl ⟨by rfl, ?_⟩) hHeld ?_ ?_
  rotate_left
  · rintro w' ⟨s0, s1, s2, s3, s4, s5, s6, s7, s8, s9, s10, s11, s12, s13, s14⟩
    go_simp
    with_reducible rfl
  rotate_left
  · simp only [Act.put, List.setIfInBounds_toArray, List.set_cons_zero, List.set_cons_succ, i64_w, i32_w]
    rfl
  refine take_ (i := 3) (N := some 17) (v := ?_) (a' := ?_) #[true, true, false, true, false, false, false, false, false, false, false, false] rfl rfl (take_ofW HT_.out HW_.out (by kernel_rfl)) (fun _ _ _ h => h) (Or.inl ⟨by rfl, ?_⟩) hHeld ?_ ?_
  rotate_left
  · rintro w' ⟨s0, s1, s2, s3, s4, s5, s6, s7, s8, s9, s10, s11, s12, s13, s14⟩
    go_simp
    with_reducible rfl
  rotate_left
  · simp only [Act.put, List.setIfInBounds_toArray, List.set_cons_zero, List.set_cons_succ, i64_w, i32_w]
    rfl
  refine take_ (i := 4) (N := some 18) (v := ?_) (a' := ?_) #[true, true, false, true, true, false, false, false, false, false, false, false] rfl rfl (take_ofW HT_.out HW_.out (by kernel_rfl)) (fun _ _ _ h => h) (Or.inl ⟨by rfl, ?_⟩) hHeld ?_ ?_
  rotate_left
  · rintro w' ⟨s0, s1, s2, s3, s4, s5, s6, s7, s8, s9, s10, s11, s12, s13, s14⟩
    go_simp
    with_reducible rfl
  rotate_left
  · simp only [Act.put, List.setIfInBounds_toArray, List.set_cons_zero, List.set_cons_succ, i64_w, i32_w]
    rfl
  refine take_ (i := 6) (N := some 20) (v := ?_) (a' := ?_) #[true, true, false, true, true, false, true, false, false, false, false, false] rfl rfl (take_ofW HT_.out HW_.out (by kernel_rfl)) (fun _ _ _ h => h) (Or.inl ⟨by rfl, ?_⟩) hHeld ?_ ?_
  rotate_left
  · rintro w' ⟨s0, s1, s2, s3, s4, s5, s6, s7, s8, s9, s10, s11, s12, s13, s14⟩
    go_simp
    with_reducible rfl
  rotate_left
  · simp only [Act.put, List.setIfInBounds_toArray, List.set_cons_zero, List.set_cons_succ, i64_w, i32_w]
    rfl
  refine take_ (i := 7) (N := some 21) (v := ?_) (a' := ?_) #[true, true, false, true, true, false, true, true, false, false, false, false] rfl rfl (take_ofW HT_.out HW_.out (by kernel_rfl)) (fun _ _ _ h => h) (Or.inl ⟨by rfl, ?_⟩) hHeld ?_ ?_
  rotate_left
  · rintro w' ⟨s0, s1, s2, s3, s4, s5, s6, s7, s8, s9, s10, s11, s12, s13, s14⟩
    go_simp
    with_reducible rfl
  rotate_left
  · simp only [Act.put, List.setIfInBounds_toArray, List.set_cons_zero, List.set_cons_succ, i64_w, i32_w]
    rfl
  refine one_ (i := 2) (N := some 16) #[true, true, true, true, true, false, true, true, false, false, false, false] rfl rfl (one_of HT_.out (by kernel_rfl)) (by decide) (fun K hK => ?_)
  refine goes_ Tryd.func39 (by kernel_rfl) rfl #[.agg #[.int .u32 a0_0, .int .u32 a0_1, .int .u8 a0_2, .int .u16 a0_3, .int .u16 a0_4], .agg #[.int .u32 a1_0, .int .u32 a1_1, .int .u8 a1_2, .int .u16 a1_3, .int .u16 a1_4]] (by rfl) rfl rfl (by (try simp only [List.map_toArray, List.map_cons, List.map_nil]); first | done | rfl | (simp only [List.length_drop, List.length_take]; rfl)) ?_
  with_reducible refine (hdr_Compare.calls k a0_0 a0_1 a0_2 a0_3 a0_4 a1_0 a1_1 a1_2 a1_3 a1_4 t575 _ A5.out).mono ?_
  rintro e w15 ⟨rfl, hb⟩
  refine ⟨_, rfl, ?_⟩
  have n0_ := Aside0.mk (blk_below (g := gb572) (o := .cells #[.int .u32 a0_0, .int .u32 a0_1, .int .u8 a0_2, .int .u16 a0_3, .int .u16 a0_4] 67 (0, 0)) (by (with_reducible repeat (first | refine blk_drewN ?_ _ | refine blk_drew ?_ | refine blk_alloc ?_ _)); exact BK572.out) hb)
  have n1_ := Aside0.mk (blk_below (g := gb573) (o := .cells #[.int .u32 a1_0, .int .u32 a1_1, .int .u8 a1_2, .int .u16 a1_3, .int .u16 a1_4] 67 (0, 0)) (by (with_reducible repeat (first | refine blk_drewN ?_ _ | refine blk_drew ?_ | refine blk_alloc ?_ _)); exact BK573.out) hb)
  have n2_ := Aside0.mk (blk_below (g := gb574) (o := .cells #[.int .u32 a2_0, .int .u32 a2_1, .int .u8 a2_2, .int .u16 a2_3, .int .u16 a2_4] 67 (0, 0)) (by (with_reducible repeat (first | refine blk_drewN ?_ _ | refine blk_drew ?_ | refine blk_alloc ?_ _)); exact BK574.out) hb)
  have n3_ := Aside0.mk (below_step (by repeat (first | (with_reducible first | exact HB.out | apply below_alloc | apply pw_below_drewN | apply below_drew1 | refine below_set ?_ GE572.out | refine below_set ?_ GE573.out | refine below_set ?_ GE574.out) | exact HB.out)) hb)
  clear BK572
  clear BK573
  clear BK574
  clear HB
  have BK572 := n0_
  have BK573 := n1_
  have BK574 := n2_
  have HB := n3_
  clear n0_ n1_ n2_ n3_
  (try clear hb)
  (try clear hb2)
  (try clear hk)
  (try clear hi)
  refine hK.out _ _ ⟨(blk_cell BK572.out 0).trans rfl, (blk_cell BK572.out 1).trans rfl, (blk_cell BK572.out 2).trans rfl, (blk_cell BK572.out 3).trans rfl, (blk_cell BK572.out 4).trans rfl, (blk_cell BK573.out 0).trans rfl, (blk_cell BK573.out 1).trans rfl, (blk_cell BK573.out 2).trans rfl, (blk_cell BK573.out 3).trans rfl, (blk_cell BK573.out 4).trans rfl, (blk_cell BK574.out 0).trans rfl, (blk_cell BK574.out 1).trans rfl, (blk_cell BK574.out 2).trans rfl, (blk_cell BK574.out 3).trans rfl, (blk_cell BK574.out 4).trans rfl⟩ (fun hHeld => ?_)
  clear hK K
  refine norm_ (a' := ?_) ?_ ?_
  rotate_left
  · show Act.put _ (some 16) _ = _
    simp only [Act.put, List.setIfInBounds_toArray, List.set_cons_zero, List.set_cons_succ, i64_w, i32_w]
    rfl
  refine one_ (i := 5) (N := some 19) #[true, true, true, true, true, true, true, true, false, false, false, false] rfl rfl (one_of HT_.out (by kernel_rfl)) (by decide) (fun K hK => ?_)
  refine goes_ Tryd.func39 (by kernel_rfl) rfl #[.agg #[.int .u32 a1_0, .int .u32 a1_1, .int .u8 a1_2, .int .u16 a1_3, .int .u16 a1_4], .agg #[.int .u32 a2_0, .int .u32 a2_1, .int .u8 a2_2, .int .u16 a2_3, .int .u16 a2_4]] (by rfl) rfl rfl (by (try simp only [List.map_toArray, List.map_cons, List.map_nil]); first | done | rfl | (simp only [List.length_drop, List.length_take]; rfl)) ?_
  with_reducible refine (hdr_Compare.calls k a1_0 a1_1 a1_2 a1_3 a1_4 a2_0 a2_1 a2_2 a2_3 a2_4 t576 _ A6.out).mono ?_
  rintro e w16 ⟨rfl, hb⟩
  refine ⟨_, rfl, ?_⟩
  have n0_ := Aside0.mk (blk_below (g := gb572) (o := .cells #[.int .u32 a0_0, .int .u32 a0_1, .int .u8 a0_2, .int .u16 a0_3, .int .u16 a0_4] 67 (0, 0)) (by (with_reducible repeat (first | refine blk_drewN ?_ _ | refine blk_drew ?_ | refine blk_alloc ?_ _)); exact BK572.out) hb)
  have n1_ := Aside0.mk (blk_below (g := gb573) (o := .cells #[.int .u32 a1_0, .int .u32 a1_1, .int .u8 a1_2, .int .u16 a1_3, .int .u16 a1_4] 67 (0, 0)) (by (with_reducible repeat (first | refine blk_drewN ?_ _ | refine blk_drew ?_ | refine blk_alloc ?_ _)); exact BK573.out) hb)
  have n2_ := Aside0.mk (blk_below (g := gb574) (o := .cells #[.int .u32 a2_0, .int .u32 a2_1, .int .u8 a2_2, .int .u16 a2_3, .int .u16 a2_4] 67 (0, 0)) (by (with_reducible repeat (first | refine blk_drewN ?_ _ | refine blk_drew ?_ | refine blk_alloc ?_ _)); exact BK574.out) hb)
  have n3_ := Aside0.mk (below_step (by repeat (first | (with_reducible first | exact HB.out | apply below_alloc | apply pw_below_drewN | apply below_drew1 | refine below_set ?_ GE572.out | refine below_set ?_ GE573.out | refine below_set ?_ GE574.out) | exact HB.out)) hb)
  clear BK572
  clear BK573
  clear BK574
  clear HB
  have BK572 := n0_
  have BK573 := n1_
  have BK574 := n2_
  have HB := n3_
  clear n0_ n1_ n2_ n3_
  (try clear hb)
  (try clear hb2)
  (try clear hk)
  (try clear hi)
  refine hK.out _ _ ⟨(blk_cell BK572.out 0).trans rfl, (blk_cell BK572.out 1).trans rfl, (blk_cell BK572.out 2).trans rfl, (blk_cell BK572.out 3).trans rfl, (blk_cell BK572.out 4).trans rfl, (blk_cell BK573.out 0).trans rfl, (blk_cell BK573.out 1).trans rfl, (blk_cell BK573.out 2).trans rfl, (blk_cell BK573.out 3).trans rfl, (blk_cell BK573.out 4).trans rfl, (blk_cell BK574.out 0).trans rfl, (blk_cell BK574.out 1).trans rfl, (blk_cell BK574.out 2).trans rfl, (blk_cell BK574.out 3).trans rfl, (blk_cell BK574.out 4).trans rfl⟩ (fun hHeld => ?_)
  clear hK K
  refine norm_ (a' := ?_) ?_ ?_
  rotate_left
  · show Act.put _ (some 19) _ = _
    simp only [Act.put, List.setIfInBounds_toArray, List.set_cons_zero, List.set_cons_succ, i64_w, i32_w]
    rfl
  refine one_ (i := 8) (N := some 22) #[true, true, true, true, true, true, true, true, true, false, false, false] rfl rfl (one_of HT_.out (by kernel_rfl)) (by decide) (fun K hK => ?_)
  refine goes_ Tryd.func39 (by kernel_rfl) rfl #[.agg #[.int .u32 a0_0, .int .u32 a0_1, .int .u8 a0_2, .int .u16 a0_3, .int .u16 a0_4], .agg #[.int .u32 a2_0, .int .u32 a2_1, .int .u8 a2_2, .int .u16 a2_3, .int .u16 a2_4]] (by rfl) rfl rfl (by (try simp only [List.map_toArray, List.map_cons, List.map_nil]); first | done | rfl | (simp only [List.length_drop, List.length_take]; rfl)) ?_
  with_reducible refine (hdr_Compare.calls k a0_0 a0_1 a0_2 a0_3 a0_4 a2_0 a2_1 a2_2 a2_3 a2_4 t577 _ A7.out).mono ?_
  rintro e w17 ⟨rfl, hb⟩
  refine ⟨_, rfl, ?_⟩
  have n0_ := Aside0.mk (blk_below (g := gb572) (o := .cells #[.int .u32 a0_0, .int .u32 a0_1, .int .u8 a0_2, .int .u16 a0_3, .int .u16 a0_4] 67 (0, 0)) (by (with_reducible repeat (first | refine blk_drewN ?_ _ | refine blk_drew ?_ | refine blk_alloc ?_ _)); exact BK572.out) hb)
  have n1_ := Aside0.mk (blk_below (g := gb573) (o := .cells #[.int .u32 a1_0, .int .u32 a1_1, .int .u8 a1_2, .int .u16 a1_3, .int .u16 a1_4] 67 (0, 0)) (by (with_reducible repeat (first | refine blk_drewN ?_ _ | refine blk_drew ?_ | refine blk_alloc ?_ _)); exact BK573.out) hb)
  have n2_ := Aside0.mk (blk_below (g := gb574) (o := .cells #[.int .u32 a2_0, .int .u32 a2_1, .int .u8 a2_2, .int .u16 a2_3, .int .u16 a2_4] 67 (0, 0)) (by (with_reducible repeat (first | refine blk_drewN ?_ _ | refine blk_drew ?_ | refine blk_alloc ?_ _)); exact BK574.out) hb)
  have n3_ := Aside0.mk (below_step (by repeat (first | (with_reducible first | exact HB.out | apply below_alloc | apply pw_below_drewN | apply below_drew1 | refine below_set ?_ GE572.out | refine below_set ?_ GE573.out | refine below_set ?_ GE574.out) | exact HB.out)) hb)
  clear BK572
  clear BK573
  clear BK574
  clear HB
  have BK572 := n0_
  have BK573 := n1_
  have BK574 := n2_
  have HB := n3_
  clear n0_ n1_ n2_ n3_
  (try clear hb)
  (try clear hb2)
  (try clear hk)
  (try clear hi)
  refine hK.out _ _ ⟨(blk_cell BK572.out 0).trans rfl, (blk_cell BK572.out 1).trans rfl, (blk_cell BK572.out 2).trans rfl, (blk_cell BK572.out 3).trans rfl, (blk_cell BK572.out 4).trans rfl, (blk_cell BK573.out 0).trans rfl, (blk_cell BK573.out 1).trans rfl, (blk_cell BK573.out 2).trans rfl, (blk_cell BK573.out 3).trans rfl, (blk_cell BK573.out 4).trans rfl, (blk_cell BK574.out 0).trans rfl, (blk_cell BK574.out 1).trans rfl, (blk_cell BK574.out 2).trans rfl, (blk_cell BK574.out 3).trans rfl, (blk_cell BK574.out 4).trans rfl⟩ (fun hHeld => ?_)
  clear hK K
  refine norm_ (a' := ?_) ?_ ?_
  rotate_left
  · show Act.put _ (some 22) _ = _
    simp only [Act.put, List.setIfInBounds_toArray, List.set_cons_zero, List.set_cons_succ, i64_w, i32_w]
    rfl
  refine pure_ (i := 9) (N := some 9) (v := ?_) (a' := ?_) #[true, true, true, true, true, true, true, true, true, true, false, false] rfl rfl (any_of HT_.out (by kernel_rfl)) (fun _ _ _ h => h) (Or.inl ⟨by rfl, ?_⟩) ?_ ?_
  rotate_left
  · intro w'
    go_simp
    with_reducible rfl
  rotate_left
  · simp only [Act.put, List.setIfInBounds_toArray, List.set_cons_zero, List.set_cons_succ, i64_w, i32_w]
    rfl
  refine pure_ (i := 10) (N := some 10) (v := ?_) (a' := ?_) #[true, true, true, true, true, true, true, true, true, true, true, false] rfl rfl (any_of HT_.out (by kernel_rfl)) (fun _ _ _ h => h) (Or.inl ⟨by rfl, ?_⟩) ?_ ?_
  rotate_left
  · intro w'
    go_simp
    with_reducible rfl
  rotate_left
  · simp only [Act.put, List.setIfInBounds_toArray, List.set_cons_zero, List.set_cons_succ, i64_w, i32_w]
    rfl
  refine pure_ (i := 11) (N := some 11) (v := ?_) (a' := ?_) #[true, true, true, true, true, true, true, true, true, true, true, true] rfl rfl (any_of HT_.out (by kernel_rfl)) (fun _ _ _ h => h) (Or.inl ⟨by rfl, ?_⟩) ?_ ?_
  rotate_left
  · intro w'
    go_simp
    with_reducible rfl
  rotate_left
  · simp only [Act.put, List.setIfInBounds_toArray, List.set_cons_zero, List.set_cons_succ, i64_w, i32_w]
    rfl
  refine done_ (done_of HT_.out (by kernel_rfl)) ?_
  try go_wp2
  have n0_ := Aside0.mk (blk_drew BK572.out)
  have n1_ := Aside0.mk (blk_drew BK573.out)
  have n2_ := Aside0.mk (blk_drew BK574.out)
  have n3_ := Aside0.mk (below_drew1 HB.out)
  clear BK572
  clear BK573
  clear BK574
  clear HB
  have BK572 := n0_
  have BK573 := n1_
  have BK574 := n2_
  have HB := n3_
  clear n0_ n1_ n2_ n3_
  refine start_ (n := 9) (S := fun w' => w'.cell? ⟨gb572, 0, none⟩ = some (.int .u32 a0_0) ∧ w'.cell? ⟨gb572, 1, none⟩ = some (.int .u32 a0_1) ∧ w'.cell? ⟨gb572, 2, none⟩ = some (.int .u8 a0_2) ∧ w'.cell? ⟨gb572, 3, none⟩ = some (.int .u16 a0_3) ∧ w'.cell? ⟨gb572, 4, none⟩ = some (.int .u16 a0_4)) (ds := []) #[false, false, false, false, false, false, false, false, false] (by kernel_rfl) rfl rfl ⟨(blk_cell BK572.out 0).trans rfl, (blk_cell BK572.out 1).trans rfl, (blk_cell BK572.out 2).trans rfl, (blk_cell BK572.out 3).trans rfl, (blk_cell BK572.out 4).trans rfl⟩ (fun hHeld => ?_); refine with_tabW crossbucklaw02_HdrTurns.tab3 crossbucklaw02_HdrTurns.bits3 (fun HT_ HW_ => ?_)
  generalize w17.drew = w18 at BK572 BK573 BK574 HB hHeld ⊢
  refine pure_ (i := 1) (N := some 27) (v := ?_) (a' := ?_) #[false, true, false, false, false, false, false, false, false] rfl rfl (any_of HT_.out (by kernel_rfl)) (fun _ _ _ h => h) (Or.inl ⟨by rfl, ?_⟩) ?_ ?_
  rotate_left
  · intro w'
    go_simp
    with_reducible rfl
  rotate_left
  · simp only [Act.put, List.setIfInBounds_toArray, List.set_cons_zero, List.set_cons_succ, i64_w, i32_w]
    rfl
  refine pure_ (i := 3) (N := some 29) (v := ?_) (a' := ?_) #[false, true, false, true, false, false, false, false, false] rfl rfl (any_of HT_.out (by kernel_rfl)) (fun _ _ _ h => h) (Or.inl ⟨by rfl, ?_⟩) ?_ ?_
  rotate_left
  · intro w'
    go_simp
    with_reducible rfl
  rotate_left
  · simp only [Act.put, List.setIfInBounds_toArray, List.set_cons_zero, List.set_cons_succ, i64_w, i32_w]
    rfl
  refine take_ (i := 0) (N := some 26) (v := ?_) (a' := ?_) #[true, true, false, true, false, false, false, false, false] rfl rfl (take_ofW HT_.out HW_.out (by kernel_rfl)) (fun _ _ _ h => h) (Or.inl ⟨by rfl, ?_⟩) hHeld ?_ ?_
  rotate_left
  · rintro w' ⟨s0, s1, s2, s3, s4⟩
    go_simp
    with_reducible rfl
  rotate_left
  · simp only [Act.put, List.setIfInBounds_toArray, List.set_cons_zero, List.set_cons_succ, i64_w, i32_w]
    rfl
  refine take_ (i := 2) (N := some 28) (v := ?_) (a' := ?_) #[true, true, true, true, false, false, false, false, false] rfl rfl (take_ofW HT_.out HW_.out (by kernel_rfl)) (fun _ _ _ h => h) (Or.inl ⟨by rfl, ?_⟩) hHeld ?_ ?_
  rotate_left
  · rintro w' ⟨s0, s1, s2, s3, s4⟩
    go_simp
    with_reducible rfl
  rotate_left
  · simp only [Act.put, List.setIfInBounds_toArray, List.set_cons_zero, List.set_cons_succ, i64_w, i32_w]
    rfl
  refine join_ (σ := Nat) 1 #[true, true, true, true, true, true, true, true, false] (fun s_ => [(30, .bool t578), (32, .agg #[.int .u32 t579, .int .u32 t580, .int .u8 t581, .int .u16 t582, .int .u16 t583]), (13, .pointer (some ⟨s_, 0, none⟩)), (31, .bool (!t578))]) (fun s_ w' => (w'.cell? ⟨gb572, 0, none⟩ = some (.int .u32 a0_0) ∧ w'.cell? ⟨gb572, 1, none⟩ = some (.int .u32 a0_1) ∧ w'.cell? ⟨gb572, 2, none⟩ = some (.int .u8 a0_2) ∧ w'.cell? ⟨gb572, 3, none⟩ = some (.int .u16 a0_3) ∧ w'.cell? ⟨gb572, 4, none⟩ = some (.int .u16 a0_4)) ∧ (w'.heap[gb572]? = some (.cells #[.int .u32 a0_0, .int .u32 a0_1, .int .u8 a0_2, .int .u16 a0_3, .int .u16 a0_4] 67 (0, 0))) ∧ (w'.heap[gb573]? = some (.cells #[.int .u32 a1_0, .int .u32 a1_1, .int .u8 a1_2, .int .u16 a1_3, .int .u16 a1_4] 67 (0, 0))) ∧ (w'.heap[gb574]? = some (.cells #[.int .u32 a2_0, .int .u32 a2_1, .int .u8 a2_2, .int .u16 a2_3, .int .u16 a2_4] 67 (0, 0))) ∧ (w'.heap[s_]? = some (.cells #[.int .u32 0, .int .u32 0, .int .u8 0, .int .u16 0, .int .u16 0] 67 (0, 0))) ∧ (w.heap.size ≤ s_) ∧ (w.heap.size ≤ s_) ∧ (gb572 ≠ s_) ∧ (s_ ≠ gb572) ∧ (gb573 ≠ s_) ∧ (s_ ≠ gb573) ∧ (gb574 ≠ s_) ∧ (s_ ≠ gb574) ∧ (Below w.heap.size w w')) ?_ ?_
  rotate_left
  · intro hCont
    refine two_ (i := 4) (j := 7) (Ni := some 30) (Nj := some 13) #[true, true, true, true, true, false, false, false, false] #[true, true, true, true, false, false, false, true, false] rfl rfl rfl rfl (two_of HT_.out (by kernel_rfl)) (by decide) (by decide) (fun K hK => ?_) (fun K hK => ?_)
    · skip
      refine goes_ Tryd.func38 (by kernel_rfl) rfl #[.agg #[.int .u32 a0_0, .int .u32 a0_1, .int .u8 a0_2, .int .u16 a0_3, .int .u16 a0_4], .int .i64 (wrap64 (Int.tmod a3 104))] (by rfl) rfl rfl (by (try simp only [List.map_toArray, List.map_cons, List.map_nil]); first | done | rfl | (simp only [List.length_drop, List.length_take]; rfl)) ?_
      with_reducible refine (hdr_Bit.calls k a0_0 a0_1 a0_2 a0_3 a0_4 (wrap64 (Int.tmod a3 104)) t578 _ A8.out).mono ?_
      rintro e w19 ⟨rfl, hb⟩
      refine ⟨_, rfl, ?_⟩
      have n0_ := Aside0.mk (blk_below (g := gb572) (o := .cells #[.int .u32 a0_0, .int .u32 a0_1, .int .u8 a0_2, .int .u16 a0_3, .int .u16 a0_4] 67 (0, 0)) (by (with_reducible repeat (first | refine blk_drewN ?_ _ | refine blk_drew ?_ | refine blk_alloc ?_ _)); exact BK572.out) hb)
      have n1_ := Aside0.mk (blk_below (g := gb573) (o := .cells #[.int .u32 a1_0, .int .u32 a1_1, .int .u8 a1_2, .int .u16 a1_3, .int .u16 a1_4] 67 (0, 0)) (by (with_reducible repeat (first | refine blk_drewN ?_ _ | refine blk_drew ?_ | refine blk_alloc ?_ _)); exact BK573.out) hb)
      have n2_ := Aside0.mk (blk_below (g := gb574) (o := .cells #[.int .u32 a2_0, .int .u32 a2_1, .int .u8 a2_2, .int .u16 a2_3, .int .u16 a2_4] 67 (0, 0)) (by (with_reducible repeat (first | refine blk_drewN ?_ _ | refine blk_drew ?_ | refine blk_alloc ?_ _)); exact BK574.out) hb)
      have n3_ := Aside0.mk (below_step (by repeat (first | (with_reducible first | exact HB.out | apply below_alloc | apply pw_below_drewN | apply below_drew1 | refine below_set ?_ GE572.out | refine below_set ?_ GE573.out | refine below_set ?_ GE574.out) | exact HB.out)) hb)
      clear BK572
      clear BK573
      clear BK574
      clear HB
      have BK572 := n0_
      have BK573 := n1_
      have BK574 := n2_
      have HB := n3_
      clear n0_ n1_ n2_ n3_
      (try clear hb)
      (try clear hb2)
      (try clear hk)
      (try clear hi)
      refine hK.out _ _ ⟨(blk_cell BK572.out 0).trans rfl, (blk_cell BK572.out 1).trans rfl, (blk_cell BK572.out 2).trans rfl, (blk_cell BK572.out 3).trans rfl, (blk_cell BK572.out 4).trans rfl⟩ (fun hHeld => ?_)
      clear hK K
      refine norm_ (a' := ?_) ?_ ?_
      rotate_left
      · show Act.put _ (some 30) _ = _
        simp only [Act.put, List.setIfInBounds_toArray, List.set_cons_zero, List.set_cons_succ, i64_w, i32_w]
        rfl
      refine pure_ (i := 5) (N := some 31) (v := ?_) (a' := ?_) #[true, true, true, true, true, true, false, false, false] rfl rfl (any_of HT_.out (by kernel_rfl)) (fun _ _ _ h => h) (Or.inl ⟨by rfl, ?_⟩) ?_ ?_
      rotate_left
      · intro w'
        go_simp
        with_reducible rfl
      rotate_left
      · simp only [Act.put, List.setIfInBounds_toArray, List.set_cons_zero, List.set_cons_succ, i64_w, i32_w]
        rfl
      refine two_ (i := 6) (j := 7) (Ni := some 32) (Nj := some 13) #[true, true, true, true, true, true, true, false, false] #[true, true, true, true, true, true, false, true, false] rfl rfl rfl rfl (two_of HT_.out (by kernel_rfl)) (by decide) (by decide) (fun K hK => ?_) (fun K hK => ?_)
      · skip
        refine goes_ Tryd.func41 (by kernel_rfl) rfl #[.agg #[.int .u32 a0_0, .int .u32 a0_1, .int .u8 a0_2, .int .u16 a0_3, .int .u16 a0_4], .int .i64 (wrap64 (Int.tmod a3 104)), .bool (!t578)] (by rfl) rfl rfl (by (try simp only [List.map_toArray, List.map_cons, List.map_nil]); first | done | rfl | (simp only [List.length_drop, List.length_take]; rfl)) ?_
        with_reducible refine (hdr_With.calls k a0_0 a0_1 a0_2 a0_3 a0_4 (wrap64 (Int.tmod a3 104)) (!t578) t579 t580 t581 t582 t583 _ A9.out).mono ?_
        rintro e w20 ⟨rfl, hb⟩
        refine ⟨_, rfl, ?_⟩
        have n0_ := Aside0.mk (blk_below (g := gb572) (o := .cells #[.int .u32 a0_0, .int .u32 a0_1, .int .u8 a0_2, .int .u16 a0_3, .int .u16 a0_4] 67 (0, 0)) (by (with_reducible repeat (first | refine blk_drewN ?_ _ | refine blk_drew ?_ | refine blk_alloc ?_ _)); exact BK572.out) hb)
        have n1_ := Aside0.mk (blk_below (g := gb573) (o := .cells #[.int .u32 a1_0, .int .u32 a1_1, .int .u8 a1_2, .int .u16 a1_3, .int .u16 a1_4] 67 (0, 0)) (by (with_reducible repeat (first | refine blk_drewN ?_ _ | refine blk_drew ?_ | refine blk_alloc ?_ _)); exact BK573.out) hb)
        have n2_ := Aside0.mk (blk_below (g := gb574) (o := .cells #[.int .u32 a2_0, .int .u32 a2_1, .int .u8 a2_2, .int .u16 a2_3, .int .u16 a2_4] 67 (0, 0)) (by (with_reducible repeat (first | refine blk_drewN ?_ _ | refine blk_drew ?_ | refine blk_alloc ?_ _)); exact BK574.out) hb)
        have n3_ := Aside0.mk (below_step (by repeat (first | (with_reducible first | exact HB.out | apply below_alloc | apply pw_below_drewN | apply below_drew1 | refine below_set ?_ GE572.out | refine below_set ?_ GE573.out | refine below_set ?_ GE574.out) | exact HB.out)) hb)
        clear BK572
        clear BK573
        clear BK574
        clear HB
        have BK572 := n0_
        have BK573 := n1_
        have BK574 := n2_
        have HB := n3_
        clear n0_ n1_ n2_ n3_
        (try clear hb)
        (try clear hb2)
        (try clear hk)
        (try clear hi)
        refine hK.out _ _ ⟨(blk_cell BK572.out 0).trans rfl, (blk_cell BK572.out 1).trans rfl, (blk_cell BK572.out 2).trans rfl, (blk_cell BK572.out 3).trans rfl, (blk_cell BK572.out 4).trans rfl⟩ (fun hHeld => ?_)
        clear hK K
        refine norm_ (a' := ?_) ?_ ?_
        rotate_left
        · show Act.put _ (some 32) _ = _
          simp only [Act.put, List.setIfInBounds_toArray, List.set_cons_zero, List.set_cons_succ, i64_w, i32_w]
          rfl
        refine one_ (i := 7) (N := some 13) #[true, true, true, true, true, true, true, true, false] rfl rfl (one_of HT_.out (by kernel_rfl)) (by decide) (fun K hK => ?_)
        refine box_step ?hg (N := 13) ?hd (cs := #[.int .u32 0, .int .u32 0, .int .u8 0, .int .u16 0, .int .u16 0]) (t := 67) ?hr ?_; (case hd => rfl); (case hg => rfl); (case hr => first | (go_simp; done) | (go_simp; rfl))
        intro gb584 hg w21 hbox hb
        have n0_ := Aside0.mk (blk_below (g := gb572) (o := .cells #[.int .u32 a0_0, .int .u32 a0_1, .int .u8 a0_2, .int .u16 a0_3, .int .u16 a0_4] 67 (0, 0)) (by (with_reducible repeat (first | refine blk_drewN ?_ _ | refine blk_drew ?_ | refine blk_alloc ?_ _)); exact BK572.out) hb)
        have n1_ := Aside0.mk (blk_below (g := gb573) (o := .cells #[.int .u32 a1_0, .int .u32 a1_1, .int .u8 a1_2, .int .u16 a1_3, .int .u16 a1_4] 67 (0, 0)) (by (with_reducible repeat (first | refine blk_drewN ?_ _ | refine blk_drew ?_ | refine blk_alloc ?_ _)); exact BK573.out) hb)
        have n2_ := Aside0.mk (blk_below (g := gb574) (o := .cells #[.int .u32 a2_0, .int .u32 a2_1, .int .u8 a2_2, .int .u16 a2_3, .int .u16 a2_4] 67 (0, 0)) (by (with_reducible repeat (first | refine blk_drewN ?_ _ | refine blk_drew ?_ | refine blk_alloc ?_ _)); exact BK574.out) hb)
        have n3_ := Aside0.mk (below_step (by repeat (first | (with_reducible first | exact HB.out | apply below_alloc | apply pw_below_drewN | apply below_drew1 | refine below_set ?_ GE572.out | refine below_set ?_ GE573.out | refine below_set ?_ GE574.out) | exact HB.out)) hb)
        have n4_ := Aside0.mk (hbox)
        have n5_ := Aside0.mk ((by rw [hg]; exact (below_size (by repeat (first | (with_reducible first | exact HB.out | apply below_alloc | apply pw_below_drewN | apply below_drew1 | refine below_set ?_ GE572.out | refine below_set ?_ GE573.out | refine below_set ?_ GE574.out) | exact HB.out))) : w.heap.size ≤ gb584))
        have n6_ := Aside0.mk ((by rw [hg]; exact (below_size (by repeat (first | (with_reducible first | exact HB.out | apply below_alloc | apply pw_below_drewN | apply below_drew1 | refine below_set ?_ GE572.out | refine below_set ?_ GE573.out | refine below_set ?_ GE574.out) | exact HB.out))) : w.heap.size ≤ gb584))
        have n7_ := Aside0.mk ((by rw [hg]; exact Nat.ne_of_lt (blk_lt (g := gb572) (o := .cells #[.int .u32 a0_0, .int .u32 a0_1, .int .u8 a0_2, .int .u16 a0_3, .int .u16 a0_4] 67 (0, 0)) (by (with_reducible repeat (first | refine blk_drewN ?_ _ | refine blk_drew ?_ | refine blk_alloc ?_ _)); exact BK572.out)) : gb572 ≠ gb584))
        have n8_ := Aside0.mk ((by rw [hg]; exact Nat.ne_of_gt (blk_lt (g := gb572) (o := .cells #[.int .u32 a0_0, .int .u32 a0_1, .int .u8 a0_2, .int .u16 a0_3, .int .u16 a0_4] 67 (0, 0)) (by (with_reducible repeat (first | refine blk_drewN ?_ _ | refine blk_drew ?_ | refine blk_alloc ?_ _)); exact BK572.out)) : gb584 ≠ gb572))
        have n9_ := Aside0.mk ((by rw [hg]; exact Nat.ne_of_lt (blk_lt (g := gb573) (o := .cells #[.int .u32 a1_0, .int .u32 a1_1, .int .u8 a1_2, .int .u16 a1_3, .int .u16 a1_4] 67 (0, 0)) (by (with_reducible repeat (first | refine blk_drewN ?_ _ | refine blk_drew ?_ | refine blk_alloc ?_ _)); exact BK573.out)) : gb573 ≠ gb584))
        have n10_ := Aside0.mk ((by rw [hg]; exact Nat.ne_of_gt (blk_lt (g := gb573) (o := .cells #[.int .u32 a1_0, .int .u32 a1_1, .int .u8 a1_2, .int .u16 a1_3, .int .u16 a1_4] 67 (0, 0)) (by (with_reducible repeat (first | refine blk_drewN ?_ _ | refine blk_drew ?_ | refine blk_alloc ?_ _)); exact BK573.out)) : gb584 ≠ gb573))
        have n11_ := Aside0.mk ((by rw [hg]; exact Nat.ne_of_lt (blk_lt (g := gb574) (o := .cells #[.int .u32 a2_0, .int .u32 a2_1, .int .u8 a2_2, .int .u16 a2_3, .int .u16 a2_4] 67 (0, 0)) (by (with_reducible repeat (first | refine blk_drewN ?_ _ | refine blk_drew ?_ | refine blk_alloc ?_ _)); exact BK574.out)) : gb574 ≠ gb584))
        have n12_ := Aside0.mk ((by rw [hg]; exact Nat.ne_of_gt (blk_lt (g := gb574) (o := .cells #[.int .u32 a2_0, .int .u32 a2_1, .int .u8 a2_2, .int .u16 a2_3, .int .u16 a2_4] 67 (0, 0)) (by (with_reducible repeat (first | refine blk_drewN ?_ _ | refine blk_drew ?_ | refine blk_alloc ?_ _)); exact BK574.out)) : gb584 ≠ gb574))
        clear BK572
        clear BK573
        clear BK574
        clear HB
        have BK572 := n0_
        have BK573 := n1_
        have BK574 := n2_
        have HB := n3_
        have BK584 := n4_
        have GW584 := n5_
        have GE584 := n6_
        have NB572_584 := n7_
        have NB584_572 := n8_
        have NB573_584 := n9_
        have NB584_573 := n10_
        have NB574_584 := n11_
        have NB584_574 := n12_
        clear n0_ n1_ n2_ n3_ n4_ n5_ n6_ n7_ n8_ n9_ n10_ n11_ n12_
        clear hb hbox hg
        refine hK.out _ _ ⟨(blk_cell BK572.out 0).trans rfl, (blk_cell BK572.out 1).trans rfl, (blk_cell BK572.out 2).trans rfl, (blk_cell BK572.out 3).trans rfl, (blk_cell BK572.out 4).trans rfl⟩ (fun hHeld => ?_)
        clear hK K
        refine norm_ (a' := ?_) ?_ ?_
        rotate_left
        · show Act.put _ (some 13) _ = _
          simp only [Act.put, List.setIfInBounds_toArray, List.set_cons_zero, List.set_cons_succ, i64_w, i32_w]
          rfl
        exact norm_ (by simp only [putAll, Act.put, List.setIfInBounds_toArray, List.set_cons_zero, List.set_cons_succ]) (hCont (gb584) _ ⟨hHeld, (by (with_reducible repeat (first | refine blk_drewN ?_ _ | refine blk_drew ?_ | refine blk_alloc ?_ _)); exact BK572.out), (by (with_reducible repeat (first | refine blk_drewN ?_ _ | refine blk_drew ?_ | refine blk_alloc ?_ _)); exact BK573.out), (by (with_reducible repeat (first | refine blk_drewN ?_ _ | refine blk_drew ?_ | refine blk_alloc ?_ _)); exact BK574.out), (by (with_reducible repeat (first | refine blk_drewN ?_ _ | refine blk_drew ?_ | refine blk_alloc ?_ _)); exact BK584.out), GW584.out, GE584.out, NB572_584.out, NB584_572.out, NB573_584.out, NB584_573.out, NB574_584.out, NB584_574.out, (by repeat (first | (with_reducible first | exact HB.out | apply below_alloc | apply pw_below_drewN | apply below_drew1 | refine below_set ?_ GE572.out | refine below_set ?_ GE573.out | refine below_set ?_ GE574.out | refine below_set ?_ GE584.out) | exact HB.out))⟩)
      · skip
        refine box_step ?hg (N := 13) ?hd (cs := #[.int .u32 0, .int .u32 0, .int .u8 0, .int .u16 0, .int .u16 0]) (t := 67) ?hr ?_; (case hd => rfl); (case hg => rfl); (case hr => first | (go_simp; done) | (go_simp; rfl))
        intro gb584 hg w20 hbox hb
        have n0_ := Aside0.mk (blk_below (g := gb572) (o := .cells #[.int .u32 a0_0, .int .u32 a0_1, .int .u8 a0_2, .int .u16 a0_3, .int .u16 a0_4] 67 (0, 0)) (by (with_reducible repeat (first | refine blk_drewN ?_ _ | refine blk_drew ?_ | refine blk_alloc ?_ _)); exact BK572.out) hb)
        have n1_ := Aside0.mk (blk_below (g := gb573) (o := .cells #[.int .u32 a1_0, .int .u32 a1_1, .int .u8 a1_2, .int .u16 a1_3, .int .u16 a1_4] 67 (0, 0)) (by (with_reducible repeat (first | refine blk_drewN ?_ _ | refine blk_drew ?_ | refine blk_alloc ?_ _)); exact BK573.out) hb)
        have n2_ := Aside0.mk (blk_below (g := gb574) (o := .cells #[.int .u32 a2_0, .int .u32 a2_1, .int .u8 a2_2, .int .u16 a2_3, .int .u16 a2_4] 67 (0, 0)) (by (with_reducible repeat (first | refine blk_drewN ?_ _ | refine blk_drew ?_ | refine blk_alloc ?_ _)); exact BK574.out) hb)
        have n3_ := Aside0.mk (below_step (by repeat (first | (with_reducible first | exact HB.out | apply below_alloc | apply pw_below_drewN | apply below_drew1 | refine below_set ?_ GE572.out | refine below_set ?_ GE573.out | refine below_set ?_ GE574.out) | exact HB.out)) hb)
        have n4_ := Aside0.mk (hbox)
        have n5_ := Aside0.mk ((by rw [hg]; exact (below_size (by repeat (first | (with_reducible first | exact HB.out | apply below_alloc | apply pw_below_drewN | apply below_drew1 | refine below_set ?_ GE572.out | refine below_set ?_ GE573.out | refine below_set ?_ GE574.out) | exact HB.out))) : w.heap.size ≤ gb584))
        have n6_ := Aside0.mk ((by rw [hg]; exact (below_size (by repeat (first | (with_reducible first | exact HB.out | apply below_alloc | apply pw_below_drewN | apply below_drew1 | refine below_set ?_ GE572.out | refine below_set ?_ GE573.out | refine below_set ?_ GE574.out) | exact HB.out))) : w.heap.size ≤ gb584))
        have n7_ := Aside0.mk ((by rw [hg]; exact Nat.ne_of_lt (blk_lt (g := gb572) (o := .cells #[.int .u32 a0_0, .int .u32 a0_1, .int .u8 a0_2, .int .u16 a0_3, .int .u16 a0_4] 67 (0, 0)) (by (with_reducible repeat (first | refine blk_drewN ?_ _ | refine blk_drew ?_ | refine blk_alloc ?_ _)); exact BK572.out)) : gb572 ≠ gb584))
        have n8_ := Aside0.mk ((by rw [hg]; exact Nat.ne_of_gt (blk_lt (g := gb572) (o := .cells #[.int .u32 a0_0, .int .u32 a0_1, .int .u8 a0_2, .int .u16 a0_3, .int .u16 a0_4] 67 (0, 0)) (by (with_reducible repeat (first | refine blk_drewN ?_ _ | refine blk_drew ?_ | refine blk_alloc ?_ _)); exact BK572.out)) : gb584 ≠ gb572))
        have n9_ := Aside0.mk ((by rw [hg]; exact Nat.ne_of_lt (blk_lt (g := gb573) (o := .cells #[.int .u32 a1_0, .int .u32 a1_1, .int .u8 a1_2, .int .u16 a1_3, .int .u16 a1_4] 67 (0, 0)) (by (with_reducible repeat (first | refine blk_drewN ?_ _ | refine blk_drew ?_ | refine blk_alloc ?_ _)); exact BK573.out)) : gb573 ≠ gb584))
        have n10_ := Aside0.mk ((by rw [hg]; exact Nat.ne_of_gt (blk_lt (g := gb573) (o := .cells #[.int .u32 a1_0, .int .u32 a1_1, .int .u8 a1_2, .int .u16 a1_3, .int .u16 a1_4] 67 (0, 0)) (by (with_reducible repeat (first | refine blk_drewN ?_ _ | refine blk_drew ?_ | refine blk_alloc ?_ _)); exact BK573.out)) : gb584 ≠ gb573))
        have n11_ := Aside0.mk ((by rw [hg]; exact Nat.ne_of_lt (blk_lt (g := gb574) (o := .cells #[.int .u32 a2_0, .int .u32 a2_1, .int .u8 a2_2, .int .u16 a2_3, .int .u16 a2_4] 67 (0, 0)) (by (with_reducible repeat (first | refine blk_drewN ?_ _ | refine blk_drew ?_ | refine blk_alloc ?_ _)); exact BK574.out)) : gb574 ≠ gb584))
        have n12_ := Aside0.mk ((by rw [hg]; exact Nat.ne_of_gt (blk_lt (g := gb574) (o := .cells #[.int .u32 a2_0, .int .u32 a2_1, .int .u8 a2_2, .int .u16 a2_3, .int .u16 a2_4] 67 (0, 0)) (by (with_reducible repeat (first | refine blk_drewN ?_ _ | refine blk_drew ?_ | refine blk_alloc ?_ _)); exact BK574.out)) : gb584 ≠ gb574))
        clear BK572
        clear BK573
        clear BK574
        clear HB
        have BK572 := n0_
        have BK573 := n1_
        have BK574 := n2_
        have HB := n3_
        have BK584 := n4_
        have GW584 := n5_
        have GE584 := n6_
        have NB572_584 := n7_
        have NB584_572 := n8_
        have NB573_584 := n9_
        have NB584_573 := n10_
        have NB574_584 := n11_
        have NB584_574 := n12_
        clear n0_ n1_ n2_ n3_ n4_ n5_ n6_ n7_ n8_ n9_ n10_ n11_ n12_
        clear hb hbox hg
        refine hK.out _ _ ⟨(blk_cell BK572.out 0).trans rfl, (blk_cell BK572.out 1).trans rfl, (blk_cell BK572.out 2).trans rfl, (blk_cell BK572.out 3).trans rfl, (blk_cell BK572.out 4).trans rfl⟩ (fun hHeld => ?_)
        clear hK K
        refine norm_ (a' := ?_) ?_ ?_
        rotate_left
        · show Act.put _ (some 13) _ = _
          simp only [Act.put, List.setIfInBounds_toArray, List.set_cons_zero, List.set_cons_succ, i64_w, i32_w]
          rfl
        refine one_ (i := 6) (N := some 32) #[true, true, true, true, true, true, true, true, false] rfl rfl (one_of HT_.out (by kernel_rfl)) (by decide) (fun K hK => ?_)
        refine goes_ Tryd.func41 (by kernel_rfl) rfl #[.agg #[.int .u32 a0_0, .int .u32 a0_1, .int .u8 a0_2, .int .u16 a0_3, .int .u16 a0_4], .int .i64 (wrap64 (Int.tmod a3 104)), .bool (!t578)] (by rfl) rfl rfl (by (try simp only [List.map_toArray, List.map_cons, List.map_nil]); first | done | rfl | (simp only [List.length_drop, List.length_take]; rfl)) ?_
        with_reducible refine (hdr_With.calls k a0_0 a0_1 a0_2 a0_3 a0_4 (wrap64 (Int.tmod a3 104)) (!t578) t579 t580 t581 t582 t583 _ A9.out).mono ?_
        rintro e w21 ⟨rfl, hb⟩
        refine ⟨_, rfl, ?_⟩
        have n0_ := Aside0.mk (blk_below (g := gb572) (o := .cells #[.int .u32 a0_0, .int .u32 a0_1, .int .u8 a0_2, .int .u16 a0_3, .int .u16 a0_4] 67 (0, 0)) (by (with_reducible repeat (first | refine blk_drewN ?_ _ | refine blk_drew ?_ | refine blk_alloc ?_ _)); exact BK572.out) hb)
        have n1_ := Aside0.mk (blk_below (g := gb573) (o := .cells #[.int .u32 a1_0, .int .u32 a1_1, .int .u8 a1_2, .int .u16 a1_3, .int .u16 a1_4] 67 (0, 0)) (by (with_reducible repeat (first | refine blk_drewN ?_ _ | refine blk_drew ?_ | refine blk_alloc ?_ _)); exact BK573.out) hb)
        have n2_ := Aside0.mk (blk_below (g := gb574) (o := .cells #[.int .u32 a2_0, .int .u32 a2_1, .int .u8 a2_2, .int .u16 a2_3, .int .u16 a2_4] 67 (0, 0)) (by (with_reducible repeat (first | refine blk_drewN ?_ _ | refine blk_drew ?_ | refine blk_alloc ?_ _)); exact BK574.out) hb)
        have n3_ := Aside0.mk (blk_below (g := gb584) (o := .cells #[.int .u32 0, .int .u32 0, .int .u8 0, .int .u16 0, .int .u16 0] 67 (0, 0)) (by (with_reducible repeat (first | refine blk_drewN ?_ _ | refine blk_drew ?_ | refine blk_alloc ?_ _)); exact BK584.out) hb)
        have n4_ := Aside0.mk (below_step (by repeat (first | (with_reducible first | exact HB.out | apply below_alloc | apply pw_below_drewN | apply below_drew1 | refine below_set ?_ GE572.out | refine below_set ?_ GE573.out | refine below_set ?_ GE574.out | refine below_set ?_ GE584.out) | exact HB.out)) hb)
        clear BK572
        clear BK573
        clear BK574
        clear BK584
        clear HB
        have BK572 := n0_
        have BK573 := n1_
        have BK574 := n2_
        have BK584 := n3_
        have HB := n4_
        clear n0_ n1_ n2_ n3_ n4_
        (try clear hb)
        (try clear hb2)
        (try clear hk)
        (try clear hi)
        refine hK.out _ _ ⟨(blk_cell BK572.out 0).trans rfl, (blk_cell BK572.out 1).trans rfl, (blk_cell BK572.out 2).trans rfl, (blk_cell BK572.out 3).trans rfl, (blk_cell BK572.out 4).trans rfl⟩ (fun hHeld => ?_)
        clear hK K
        refine norm_ (a' := ?_) ?_ ?_
        rotate_left
        · show Act.put _ (some 32) _ = _
          simp only [Act.put, List.setIfInBounds_toArray, List.set_cons_zero, List.set_cons_succ, i64_w, i32_w]
          rfl
        exact norm_ (by simp only [putAll, Act.put, List.setIfInBounds_toArray, List.set_cons_zero, List.set_cons_succ]) (hCont (gb584) _ ⟨hHeld, (by (with_reducible repeat (first | refine blk_drewN ?_ _ | refine blk_drew ?_ | refine blk_alloc ?_ _)); exact BK572.out), (by (with_reducible repeat (first | refine blk_drewN ?_ _ | refine blk_drew ?_ | refine blk_alloc ?_ _)); exact BK573.out), (by (with_reducible repeat (first | refine blk_drewN ?_ _ | refine blk_drew ?_ | refine blk_alloc ?_ _)); exact BK574.out), (by (with_reducible repeat (first | refine blk_drewN ?_ _ | refine blk_drew ?_ | refine blk_alloc ?_ _)); exact BK584.out), GW584.out, GE584.out, NB572_584.out, NB584_572.out, NB573_584.out, NB584_573.out, NB574_584.out, NB584_574.out, (by repeat (first | (with_reducible first | exact HB.out | apply below_alloc | apply pw_below_drewN | apply below_drew1 | refine below_set ?_ GE572.out | refine below_set ?_ GE573.out | refine below_set ?_ GE574.out | refine below_set ?_ GE584.out) | exact HB.out))⟩)
    · skip
      refine box_step ?hg (N := 13) ?hd (cs := #[.int .u32 0, .int .u32 0, .int .u8 0, .int .u16 0, .int .u16 0]) (t := 67) ?hr ?_; (case hd => rfl); (case hg => rfl); (case hr => first | (go_simp; done) | (go_simp; rfl))
      intro gb584 hg w19 hbox hb
      have n0_ := Aside0.mk (blk_below (g := gb572) (o := .cells #[.int .u32 a0_0, .int .u32 a0_1, .int .u8 a0_2, .int .u16 a0_3, .int .u16 a0_4] 67 (0, 0)) (by (with_reducible repeat (first | refine blk_drewN ?_ _ | refine blk_drew ?_ | refine blk_alloc ?_ _)); exact BK572.out) hb)
      have n1_ := Aside0.mk (blk_below (g := gb573) (o := .cells #[.int .u32 a1_0, .int .u32 a1_1, .int .u8 a1_2, .int .u16 a1_3, .int .u16 a1_4] 67 (0, 0)) (by (with_reducible repeat (first | refine blk_drewN ?_ _ | refine blk_drew ?_ | refine blk_alloc ?_ _)); exact BK573.out) hb)
      have n2_ := Aside0.mk (blk_below (g := gb574) (o := .cells #[.int .u32 a2_0, .int .u32 a2_1, .int .u8 a2_2, .int .u16 a2_3, .int .u16 a2_4] 67 (0, 0)) (by (with_reducible repeat (first | refine blk_drewN ?_ _ | refine blk_drew ?_ | refine blk_alloc ?_ _)); exact BK574.out) hb)
      have n3_ := Aside0.mk (below_step (by repeat (first | (with_reducible first | exact HB.out | apply below_alloc | apply pw_below_drewN | apply below_drew1 | refine below_set ?_ GE572.out | refine below_set ?_ GE573.out | refine below_set ?_ GE574.out) | exact HB.out)) hb)
      have n4_ := Aside0.mk (hbox)
      have n5_ := Aside0.mk ((by rw [hg]; exact (below_size (by repeat (first | (with_reducible first | exact HB.out | apply below_alloc | apply pw_below_drewN | apply below_drew1 | refine below_set ?_ GE572.out | refine below_set ?_ GE573.out | refine below_set ?_ GE574.out) | exact HB.out))) : w.heap.size ≤ gb584))
      have n6_ := Aside0.mk ((by rw [hg]; exact (below_size (by repeat (first | (with_reducible first | exact HB.out | apply below_alloc | apply pw_below_drewN | apply below_drew1 | refine below_set ?_ GE572.out | refine below_set ?_ GE573.out | refine below_set ?_ GE574.out) | exact HB.out))) : w.heap.size ≤ gb584))
      have n7_ := Aside0.mk ((by rw [hg]; exact Nat.ne_of_lt (blk_lt (g := gb572) (o := .cells #[.int .u32 a0_0, .int .u32 a0_1, .int .u8 a0_2, .int .u16 a0_3, .int .u16 a0_4] 67 (0, 0)) (by (with_reducible repeat (first | refine blk_drewN ?_ _ | refine blk_drew ?_ | refine blk_alloc ?_ _)); exact BK572.out)) : gb572 ≠ gb584))
      have n8_ := Aside0.mk ((by rw [hg]; exact Nat.ne_of_gt (blk_lt (g := gb572) (o := .cells #[.int .u32 a0_0, .int .u32 a0_1, .int .u8 a0_2, .int .u16 a0_3, .int .u16 a0_4] 67 (0, 0)) (by (with_reducible repeat (first | refine blk_drewN ?_ _ | refine blk_drew ?_ | refine blk_alloc ?_ _)); exact BK572.out)) : gb584 ≠ gb572))
      have n9_ := Aside0.mk ((by rw [hg]; exact Nat.ne_of_lt (blk_lt (g := gb573) (o := .cells #[.int .u32 a1_0, .int .u32 a1_1, .int .u8 a1_2, .int .u16 a1_3, .int .u16 a1_4] 67 (0, 0)) (by (with_reducible repeat (first | refine blk_drewN ?_ _ | refine blk_drew ?_ | refine blk_alloc ?_ _)); exact BK573.out)) : gb573 ≠ gb584))
      have n10_ := Aside0.mk ((by rw [hg]; exact Nat.ne_of_gt (blk_lt (g := gb573) (o := .cells #[.int .u32 a1_0, .int .u32 a1_1, .int .u8 a1_2, .int .u16 a1_3, .int .u16 a1_4] 67 (0, 0)) (by (with_reducible repeat (first | refine blk_drewN ?_ _ | refine blk_drew ?_ | refine blk_alloc ?_ _)); exact BK573.out)) : gb584 ≠ gb573))
      have n11_ := Aside0.mk ((by rw [hg]; exact Nat.ne_of_lt (blk_lt (g := gb574) (o := .cells #[.int .u32 a2_0, .int .u32 a2_1, .int .u8 a2_2, .int .u16 a2_3, .int .u16 a2_4] 67 (0, 0)) (by (with_reducible repeat (first | refine blk_drewN ?_ _ | refine blk_drew ?_ | refine blk_alloc ?_ _)); exact BK574.out)) : gb574 ≠ gb584))
      have n12_ := Aside0.mk ((by rw [hg]; exact Nat.ne_of_gt (blk_lt (g := gb574) (o := .cells #[.int .u32 a2_0, .int .u32 a2_1, .int .u8 a2_2, .int .u16 a2_3, .int .u16 a2_4] 67 (0, 0)) (by (with_reducible repeat (first | refine blk_drewN ?_ _ | refine blk_drew ?_ | refine blk_alloc ?_ _)); exact BK574.out)) : gb584 ≠ gb574))
      clear BK572
      clear BK573
      clear BK574
      clear HB
      have BK572 := n0_
      have BK573 := n1_
      have BK574 := n2_
      have HB := n3_
      have BK584 := n4_
      have GW584 := n5_
      have GE584 := n6_
      have NB572_584 := n7_
      have NB584_572 := n8_
      have NB573_584 := n9_
      have NB584_573 := n10_
      have NB574_584 := n11_
      have NB584_574 := n12_
      clear n0_ n1_ n2_ n3_ n4_ n5_ n6_ n7_ n8_ n9_ n10_ n11_ n12_
      clear hb hbox hg
      refine hK.out _ _ ⟨(blk_cell BK572.out 0).trans rfl, (blk_cell BK572.out 1).trans rfl, (blk_cell BK572.out 2).trans rfl, (blk_cell BK572.out 3).trans rfl, (blk_cell BK572.out 4).trans rfl⟩ (fun hHeld => ?_)
      clear hK K
      refine norm_ (a' := ?_) ?_ ?_
      rotate_left
      · show Act.put _ (some 13) _ = _
        simp only [Act.put, List.setIfInBounds_toArray, List.set_cons_zero, List.set_cons_succ, i64_w, i32_w]
        rfl
      refine one_ (i := 4) (N := some 30) #[true, true, true, true, true, false, false, true, false] rfl rfl (one_of HT_.out (by kernel_rfl)) (by decide) (fun K hK => ?_)
      refine goes_ Tryd.func38 (by kernel_rfl) rfl #[.agg #[.int .u32 a0_0, .int .u32 a0_1, .int .u8 a0_2, .int .u16 a0_3, .int .u16 a0_4], .int .i64 (wrap64 (Int.tmod a3 104))] (by rfl) rfl rfl (by (try simp only [List.map_toArray, List.map_cons, List.map_nil]); first | done | rfl | (simp only [List.length_drop, List.length_take]; rfl)) ?_
      with_reducible refine (hdr_Bit.calls k a0_0 a0_1 a0_2 a0_3 a0_4 (wrap64 (Int.tmod a3 104)) t578 _ A8.out).mono ?_
      rintro e w20 ⟨rfl, hb⟩
      refine ⟨_, rfl, ?_⟩
      have n0_ := Aside0.mk (blk_below (g := gb572) (o := .cells #[.int .u32 a0_0, .int .u32 a0_1, .int .u8 a0_2, .int .u16 a0_3, .int .u16 a0_4] 67 (0, 0)) (by (with_reducible repeat (first | refine blk_drewN ?_ _ | refine blk_drew ?_ | refine blk_alloc ?_ _)); exact BK572.out) hb)
      have n1_ := Aside0.mk (blk_below (g := gb573) (o := .cells #[.int .u32 a1_0, .int .u32 a1_1, .int .u8 a1_2, .int .u16 a1_3, .int .u16 a1_4] 67 (0, 0)) (by (with_reducible repeat (first | refine blk_drewN ?_ _ | refine blk_drew ?_ | refine blk_alloc ?_ _)); exact BK573.out) hb)
      have n2_ := Aside0.mk (blk_below (g := gb574) (o := .cells #[.int .u32 a2_0, .int .u32 a2_1, .int .u8 a2_2, .int .u16 a2_3, .int .u16 a2_4] 67 (0, 0)) (by (with_reducible repeat (first | refine blk_drewN ?_ _ | refine blk_drew ?_ | refine blk_alloc ?_ _)); exact BK574.out) hb)
      have n3_ := Aside0.mk (blk_below (g := gb584) (o := .cells #[.int .u32 0, .int .u32 0, .int .u8 0, .int .u16 0, .int .u16 0] 67 (0, 0)) (by (with_reducible repeat (first | refine blk_drewN ?_ _ | refine blk_drew ?_ | refine blk_alloc ?_ _)); exact BK584.out) hb)
      have n4_ := Aside0.mk (below_step (by repeat (first | (with_reducible first | exact HB.out | apply below_alloc | apply pw_below_drewN | apply below_drew1 | refine below_set ?_ GE572.out | refine below_set ?_ GE573.out | refine below_set ?_ GE574.out | refine below_set ?_ GE584.out) | exact HB.out)) hb)
      clear BK572
      clear BK573
      clear BK574
      clear BK584
      clear HB
      have BK572 := n0_
      have BK573 := n1_
      have BK574 := n2_
      have BK584 := n3_
      have HB := n4_
      clear n0_ n1_ n2_ n3_ n4_
      (try clear hb)
      (try clear hb2)
      (try clear hk)
      (try clear hi)
      refine hK.out _ _ ⟨(blk_cell BK572.out 0).trans rfl, (blk_cell BK572.out 1).trans rfl, (blk_cell BK572.out 2).trans rfl, (blk_cell BK572.out 3).trans rfl, (blk_cell BK572.out 4).trans rfl⟩ (fun hHeld => ?_)
      clear hK K
      refine norm_ (a' := ?_) ?_ ?_
      rotate_left
      · show Act.put _ (some 30) _ = _
        simp only [Act.put, List.setIfInBounds_toArray, List.set_cons_zero, List.set_cons_succ, i64_w, i32_w]
        rfl
      refine pure_ (i := 5) (N := some 31) (v := ?_) (a' := ?_) #[true, true, true, true, true, true, false, true, false] rfl rfl (any_of HT_.out (by kernel_rfl)) (fun _ _ _ h => h) (Or.inl ⟨by rfl, ?_⟩) ?_ ?_
      rotate_left
      · intro w'
        go_simp
        with_reducible rfl
      rotate_left
      · simp only [Act.put, List.setIfInBounds_toArray, List.set_cons_zero, List.set_cons_succ, i64_w, i32_w]
        rfl
      refine one_ (i := 6) (N := some 32) #[true, true, true, true, true, true, true, true, false] rfl rfl (one_of HT_.out (by kernel_rfl)) (by decide) (fun K hK => ?_)
      refine goes_ Tryd.func41 (by kernel_rfl) rfl #[.agg #[.int .u32 a0_0, .int .u32 a0_1, .int .u8 a0_2, .int .u16 a0_3, .int .u16 a0_4], .int .i64 (wrap64 (Int.tmod a3 104)), .bool (!t578)] (by rfl) rfl rfl (by (try simp only [List.map_toArray, List.map_cons, List.map_nil]); first | done | rfl | (simp only [List.length_drop, List.length_take]; rfl)) ?_
      with_reducible refine (hdr_With.calls k a0_0 a0_1 a0_2 a0_3 a0_4 (wrap64 (Int.tmod a3 104)) (!t578) t579 t580 t581 t582 t583 _ A9.out).mono ?_
      rintro e w21 ⟨rfl, hb⟩
      refine ⟨_, rfl, ?_⟩
      have n0_ := Aside0.mk (blk_below (g := gb572) (o := .cells #[.int .u32 a0_0, .int .u32 a0_1, .int .u8 a0_2, .int .u16 a0_3, .int .u16 a0_4] 67 (0, 0)) (by (with_reducible repeat (first | refine blk_drewN ?_ _ | refine blk_drew ?_ | refine blk_alloc ?_ _)); exact BK572.out) hb)
      have n1_ := Aside0.mk (blk_below (g := gb573) (o := .cells #[.int .u32 a1_0, .int .u32 a1_1, .int .u8 a1_2, .int .u16 a1_3, .int .u16 a1_4] 67 (0, 0)) (by (with_reducible repeat (first | refine blk_drewN ?_ _ | refine blk_drew ?_ | refine blk_alloc ?_ _)); exact BK573.out) hb)
      have n2_ := Aside0.mk (blk_below (g := gb574) (o := .cells #[.int .u32 a2_0, .int .u32 a2_1, .int .u8 a2_2, .int .u16 a2_3, .int .u16 a2_4] 67 (0, 0)) (by (with_reducible repeat (first | refine blk_drewN ?_ _ | refine blk_drew ?_ | refine blk_alloc ?_ _)); exact BK574.out) hb)
      have n3_ := Aside0.mk (blk_below (g := gb584) (o := .cells #[.int .u32 0, .int .u32 0, .int .u8 0, .int .u16 0, .int .u16 0] 67 (0, 0)) (by (with_reducible repeat (first | refine blk_drewN ?_ _ | refine blk_drew ?_ | refine blk_alloc ?_ _)); exact BK584.out) hb)
      have n4_ := Aside0.mk (below_step (by repeat (first | (with_reducible first | exact HB.out | apply below_alloc | apply pw_below_drewN | apply below_drew1 | refine below_set ?_ GE572.out | refine below_set ?_ GE573.out | refine below_set ?_ GE574.out | refine below_set ?_ GE584.out) | exact HB.out)) hb)
      clear BK572
      clear BK573
      clear BK574
      clear BK584
      clear HB
      have BK572 := n0_
      have BK573 := n1_
      have BK574 := n2_
      have BK584 := n3_
      have HB := n4_
      clear n0_ n1_ n2_ n3_ n4_
      (try clear hb)
      (try clear hb2)
      (try clear hk)
      (try clear hi)
      refine hK.out _ _ ⟨(blk_cell BK572.out 0).trans rfl, (blk_cell BK572.out 1).trans rfl, (blk_cell BK572.out 2).trans rfl, (blk_cell BK572.out 3).trans rfl, (blk_cell BK572.out 4).trans rfl⟩ (fun hHeld => ?_)
      clear hK K
      refine norm_ (a' := ?_) ?_ ?_
      rotate_left
      · show Act.put _ (some 32) _ = _
        simp only [Act.put, List.setIfInBounds_toArray, List.set_cons_zero, List.set_cons_succ, i64_w, i32_w]
        rfl
      exact norm_ (by simp only [putAll, Act.put, List.setIfInBounds_toArray, List.set_cons_zero, List.set_cons_succ]) (hCont (gb584) _ ⟨hHeld, (by (with_reducible repeat (first | refine blk_drewN ?_ _ | refine blk_drew ?_ | refine blk_alloc ?_ _)); exact BK572.out), (by (with_reducible repeat (first | refine blk_drewN ?_ _ | refine blk_drew ?_ | refine blk_alloc ?_ _)); exact BK573.out), (by (with_reducible repeat (first | refine blk_drewN ?_ _ | refine blk_drew ?_ | refine blk_alloc ?_ _)); exact BK574.out), (by (with_reducible repeat (first | refine blk_drewN ?_ _ | refine blk_drew ?_ | refine blk_alloc ?_ _)); exact BK584.out), GW584.out, GE584.out, NB572_584.out, NB584_572.out, NB573_584.out, NB584_573.out, NB574_584.out, NB584_574.out, (by repeat (first | (with_reducible first | exact HB.out | apply below_alloc | apply pw_below_drewN | apply below_drew1 | refine below_set ?_ GE572.out | refine below_set ?_ GE573.out | refine below_set ?_ GE574.out | refine below_set ?_ GE584.out) | exact HB.out))⟩)
  rintro gb584 w22 ⟨hS_, h0_, h1_, h2_, h3_, h4_, h5_, h6_, h7_, h8_, h9_, h10_, h11_, h12_⟩
  have n0_ : Aside0 (w22.heap[gb572]? = some (.cells #[.int .u32 a0_0, .int .u32 a0_1, .int .u8 a0_2, .int .u16 a0_3, .int .u16 a0_4] 67 (0, 0))) := ⟨h0_⟩
  have n1_ : Aside0 (w22.heap[gb573]? = some (.cells #[.int .u32 a1_0, .int .u32 a1_1, .int .u8 a1_2, .int .u16 a1_3, .int .u16 a1_4] 67 (0, 0))) := ⟨h1_⟩
  have n2_ : Aside0 (w22.heap[gb574]? = some (.cells #[.int .u32 a2_0, .int .u32 a2_1, .int .u8 a2_2, .int .u16 a2_3, .int .u16 a2_4] 67 (0, 0))) := ⟨h2_⟩
  have n3_ : Aside0 (w22.heap[gb584]? = some (.cells #[.int .u32 0, .int .u32 0, .int .u8 0, .int .u16 0, .int .u16 0] 67 (0, 0))) := ⟨h3_⟩
  have n4_ : Aside0 (w.heap.size ≤ gb584) := ⟨h4_⟩
  have n5_ : Aside0 (w.heap.size ≤ gb584) := ⟨h5_⟩
  have n6_ : Aside0 (gb572 ≠ gb584) := ⟨h6_⟩
  have n7_ : Aside0 (gb584 ≠ gb572) := ⟨h7_⟩
  have n8_ : Aside0 (gb573 ≠ gb584) := ⟨h8_⟩
  have n9_ : Aside0 (gb584 ≠ gb573) := ⟨h9_⟩
  have n10_ : Aside0 (gb574 ≠ gb584) := ⟨h10_⟩
  have n11_ : Aside0 (gb584 ≠ gb574) := ⟨h11_⟩
  have n12_ : Aside0 (Below w.heap.size w w22) := ⟨h12_⟩
  clear BK572
  clear BK573
  clear BK574
  clear HB
  clear h0_ h1_ h2_ h3_ h4_ h5_ h6_ h7_ h8_ h9_ h10_ h11_ h12_
  have BK572 := n0_
  have BK573 := n1_
  have BK574 := n2_
  have BK584 := n3_
  have GW584 := n4_
  have GE584 := n5_
  have NB572_584 := n6_
  have NB584_572 := n7_
  have NB573_584 := n8_
  have NB584_573 := n9_
  have NB574_584 := n10_
  have NB584_574 := n11_
  have HB := n12_
  clear n0_ n1_ n2_ n3_ n4_ n5_ n6_ n7_ n8_ n9_ n10_ n11_ n12_
  have hHeld : w22.cell? ⟨gb572, 0, none⟩ = some (.int .u32 a0_0) ∧ w22.cell? ⟨gb572, 1, none⟩ = some (.int .u32 a0_1) ∧ w22.cell? ⟨gb572, 2, none⟩ = some (.int .u8 a0_2) ∧ w22.cell? ⟨gb572, 3, none⟩ = some (.int .u16 a0_3) ∧ w22.cell? ⟨gb572, 4, none⟩ = some (.int .u16 a0_4) := hS_
  refine norm_ (a' := ?_) ?_ ?_
  rotate_left
  · simp only [putAll, Act.put, List.setIfInBounds_toArray, List.set_cons_zero, List.set_cons_succ]
    rfl
  refine one_ (i := 8) (N := none) #[true, true, true, true, true, true, true, true, true] rfl rfl (one_of HT_.out (by kernel_rfl)) (by decide) (fun K hK => ?_)
  have hs23 : w22.cell? ⟨gb584, 0, none⟩ = some (.int .u32 0) := (blk_cell BK584.out 0).trans rfl
  have hfs23 := blk_frozen BK584.out 0
  have hns23_0 := NB572_584.out
  have hns23_1 := NB573_584.out
  have hns23_2 := NB574_584.out
  have hms23_0 := NB584_572.out
  have hms23_1 := NB584_573.out
  have hms23_2 := NB584_574.out
  have hs24 : w22.cell? ⟨gb584, 1, none⟩ = some (.int .u32 0) := (blk_cell BK584.out 1).trans rfl
  have hfs24 := blk_frozen BK584.out 1
  have hns24_0 := NB572_584.out
  have hns24_1 := NB573_584.out
  have hns24_2 := NB574_584.out
  have hms24_0 := NB584_572.out
  have hms24_1 := NB584_573.out
  have hms24_2 := NB584_574.out
  have hs25 : w22.cell? ⟨gb584, 2, none⟩ = some (.int .u8 0) := (blk_cell BK584.out 2).trans rfl
  have hfs25 := blk_frozen BK584.out 2
  have hns25_0 := NB572_584.out
  have hns25_1 := NB573_584.out
  have hns25_2 := NB574_584.out
  have hms25_0 := NB584_572.out
  have hms25_1 := NB584_573.out
  have hms25_2 := NB584_574.out
  have hs26 : w22.cell? ⟨gb584, 3, none⟩ = some (.int .u16 0) := (blk_cell BK584.out 3).trans rfl
  have hfs26 := blk_frozen BK584.out 3
  have hns26_0 := NB572_584.out
  have hns26_1 := NB573_584.out
  have hns26_2 := NB574_584.out
  have hms26_0 := NB584_572.out
  have hms26_1 := NB584_573.out
  have hms26_2 := NB584_574.out
  have hs27 : w22.cell? ⟨gb584, 4, none⟩ = some (.int .u16 0) := (blk_cell BK584.out 4).trans rfl
  have hfs27 := blk_frozen BK584.out 4
  have hns27_0 := NB572_584.out
  have hns27_1 := NB573_584.out
  have hns27_2 := NB574_584.out
  have hms27_0 := NB584_572.out
  have hms27_1 := NB584_573.out
  have hms27_2 := NB584_574.out
  refine skip_ (w1 := ?_) (by rfl) rfl ?_ ?_
  rotate_left
  · go_simp
    rfl
  refine hK.out _ _ ⟨((cell_far (p := ⟨gb584, _, none⟩) NB572_584.out _).trans (((cell_far (p := ⟨gb584, _, none⟩) NB572_584.out _).trans (((cell_far (p := ⟨gb584, _, none⟩) NB572_584.out _).trans (((cell_far (p := ⟨gb584, _, none⟩) NB572_584.out _).trans (((cell_far (p := ⟨gb584, _, none⟩) NB572_584.out _).trans (hHeld.1)))))))))), ((cell_far (p := ⟨gb584, _, none⟩) NB572_584.out _).trans (((cell_far (p := ⟨gb584, _, none⟩) NB572_584.out _).trans (((cell_far (p := ⟨gb584, _, none⟩) NB572_584.out _).trans (((cell_far (p := ⟨gb584, _, none⟩) NB572_584.out _).trans (((cell_far (p := ⟨gb584, _, none⟩) NB572_584.out _).trans (hHeld.2.1)))))))))), ((cell_far (p := ⟨gb584, _, none⟩) NB572_584.out _).trans (((cell_far (p := ⟨gb584, _, none⟩) NB572_584.out _).trans (((cell_far (p := ⟨gb584, _, none⟩) NB572_584.out _).trans (((cell_far (p := ⟨gb584, _, none⟩) NB572_584.out _).trans (((cell_far (p := ⟨gb584, _, none⟩) NB572_584.out _).trans (hHeld.2.2.1)))))))))), ((cell_far (p := ⟨gb584, _, none⟩) NB572_584.out _).trans (((cell_far (p := ⟨gb584, _, none⟩) NB572_584.out _).trans (((cell_far (p := ⟨gb584, _, none⟩) NB572_584.out _).trans (((cell_far (p := ⟨gb584, _, none⟩) NB572_584.out _).trans (((cell_far (p := ⟨gb584, _, none⟩) NB572_584.out _).trans (hHeld.2.2.2.1)))))))))), ((cell_far (p := ⟨gb584, _, none⟩) NB572_584.out _).trans (((cell_far (p := ⟨gb584, _, none⟩) NB572_584.out _).trans (((cell_far (p := ⟨gb584, _, none⟩) NB572_584.out _).trans (((cell_far (p := ⟨gb584, _, none⟩) NB572_584.out _).trans (((cell_far (p := ⟨gb584, _, none⟩) NB572_584.out _).trans (hHeld.2.2.2.2))))))))))⟩ (fun hHeld => ?_)
  clear hK K
  refine done_ (done_of HT_.out (by kernel_rfl)) ?_
  go_upto_region 4 with (fail)
  go_cut [65] (fun v65 wc => ∃ (kq : Nat) (x65_9 : Bool), v65 = .bool x65_9 ∧ Aside0 (crossbucklaw02_HdrTurns.j0 kq t575 t576 t577 x65_9 a0_0 a0_1 a0_2 a0_3 a0_4 a1_0 a1_1 a1_2 a1_3 a1_4 = some r) ∧ Aside0 (kq ≤ k) ∧ Aside0 (wc.heap[gb572]? = some (.cells #[.int .u32 a0_0, .int .u32 a0_1, .int .u8 a0_2, .int .u16 a0_3, .int .u16 a0_4] 67 (0, 0))) ∧ Aside0 (wc.heap[gb573]? = some (.cells #[.int .u32 a1_0, .int .u32 a1_1, .int .u8 a1_2, .int .u16 a1_3, .int .u16 a1_4] 67 (0, 0))) ∧ Aside0 (wc.heap[gb574]? = some (.cells #[.int .u32 a2_0, .int .u32 a2_1, .int .u8 a2_2, .int .u16 a2_3, .int .u16 a2_4] 67 (0, 0))) ∧ Aside0 (wc.heap[gb584]? = some (.cells #[.int .u32 t579, .int .u32 t580, .int .u8 t581, .int .u16 t582, .int .u16 t583] 67 (0, 0))) ∧ Aside0 (Below w.heap.size w wc))
  case first =>
    have H := HC10.out
    clear HC10
    replace H := Option.bind_eq_some_iff.mp H
    obtain ⟨t585, A280, H⟩ := H
    replace H : ((hdr_Bit.f k a0_0 a0_1 a0_2 a0_3 a0_4 (wrap64 (Int.tmod a3 104))).bind fun t586 => (if (t585 == t586) = true then (crossbucklaw02_HdrTurns.j0 k t575 t576 t577 true a0_0 a0_1 a0_2 a0_3 a0_4 a1_0 a1_1 a1_2 a1_3 a1_4) else ((hdr_Bit.f k a0_0 a0_1 a0_2 a0_3 a0_4 (wrap64 (Int.tmod a3 104))).bind fun t587 => ((hdr_With.f k t579 t580 t581 t582 t583 (wrap64 (Int.tmod a3 104)) t587).bind fun bt588 => (if (!(bt588.1 == a0_0) || (!(bt588.2.1 == a0_1) || (!(bt588.2.2.1 == a0_2) || (!(bt588.2.2.2.1 == a0_3) || (!(bt588.2.2.2.2 == a0_4)))))) = true then (crossbucklaw02_HdrTurns.j0 k t575 t576 t577 true a0_0 a0_1 a0_2 a0_3 a0_4 a1_0 a1_1 a1_2 a1_3 a1_4) else ((hdr_Compare.f k t579 t580 t581 t582 t583 a0_0 a0_1 a0_2 a0_3 a0_4).bind fun t593 => (if t593 = 0 then (crossbucklaw02_HdrTurns.j0 k t575 t576 t577 true a0_0 a0_1 a0_2 a0_3 a0_4 a1_0 a1_1 a1_2 a1_3 a1_4) else ((hdr_Compare.f k t579 t580 t581 t582 t583 a0_0 a0_1 a0_2 a0_3 a0_4).bind fun t594 => ((hdr_Bit.f k t579 t580 t581 t582 t583 (wrap64 (Int.tmod a3 104))).bind fun t595 => (crossbucklaw02_HdrTurns.j0 k t575 t576 t577 ((decide (t594 > 0)) != t595) a0_0 a0_1 a0_2 a0_3 a0_4 a1_0 a1_1 a1_2 a1_3 a1_4)))))))))) = some r := H
    have A28 := Aside0.mk A280
    clear A280
    replace H := Option.bind_eq_some_iff.mp H
    obtain ⟨t586, A290, H⟩ := H
    replace H : (if (t585 == t586) = true then (crossbucklaw02_HdrTurns.j0 k t575 t576 t577 true a0_0 a0_1 a0_2 a0_3 a0_4 a1_0 a1_1 a1_2 a1_3 a1_4) else ((hdr_Bit.f k a0_0 a0_1 a0_2 a0_3 a0_4 (wrap64 (Int.tmod a3 104))).bind fun t587 => ((hdr_With.f k t579 t580 t581 t582 t583 (wrap64 (Int.tmod a3 104)) t587).bind fun bt588 => (if (!(bt588.1 == a0_0) || (!(bt588.2.1 == a0_1) || (!(bt588.2.2.1 == a0_2) || (!(bt588.2.2.2.1 == a0_3) || (!(bt588.2.2.2.2 == a0_4)))))) = true then (crossbucklaw02_HdrTurns.j0 k t575 t576 t577 true a0_0 a0_1 a0_2 a0_3 a0_4 a1_0 a1_1 a1_2 a1_3 a1_4) else ((hdr_Compare.f k t579 t580 t581 t582 t583 a0_0 a0_1 a0_2 a0_3 a0_4).bind fun t593 => (if t593 = 0 then (crossbucklaw02_HdrTurns.j0 k t575 t576 t577 true a0_0 a0_1 a0_2 a0_3 a0_4 a1_0 a1_1 a1_2 a1_3 a1_4) else ((hdr_Compare.f k t579 t580 t581 t582 t583 a0_0 a0_1 a0_2 a0_3 a0_4).bind fun t594 => ((hdr_Bit.f k t579 t580 t581 t582 t583 (wrap64 (Int.tmod a3 104))).bind fun t595 => (crossbucklaw02_HdrTurns.j0 k t575 t576 t577 ((decide (t594 > 0)) != t595) a0_0 a0_1 a0_2 a0_3 a0_4 a1_0 a1_1 a1_2 a1_3 a1_4))))))))) = some r := H
    have A29 := Aside0.mk A290
    clear A290
    by_cases c30 : (t585 == t586) = true
    · rw [if_pos c30] at H
      have c30b0 : (t585 == t586) = true := c30
      (try (have c30b1 : decide (t585 = t586) = true := by simpa using c30))
      (try (have c30b2 : (t585 == t586) = true := by simpa using c30))
      clear c30
      (first | rw [c30b0] | (simp only [i64_w, i32_w]; rw [c30b0]) | skip)
      exfalso
      unfold crossbucklaw02_HdrTurns.j0 at H
      split at H
      · exact absurd H (by simp)
      · rw [if_pos rfl] at H
        exact absurd ((Option.some.inj H).trans hT.out) (by decide)
    · rw [if_neg c30] at H
      have c30b0 : (t585 == t586) = false := by simpa using c30
      (try (have c30b1 : decide (t585 = t586) = false := by simpa using c30))
      (try (have c30b2 : (t585 == t586) = false := by simpa using c30))
      (try (have c30b3 : ¬ (t585 = t586) := by simpa using c30))
      clear c30
      (first | rw [c30b0] | (simp only [i64_w, i32_w]; rw [c30b0]) | skip)
      replace H := Option.bind_eq_some_iff.mp H
      obtain ⟨t587, A310, H⟩ := H
      replace H : ((hdr_With.f k t579 t580 t581 t582 t583 (wrap64 (Int.tmod a3 104)) t587).bind fun bt588 => (if (!(bt588.1 == a0_0) || (!(bt588.2.1 == a0_1) || (!(bt588.2.2.1 == a0_2) || (!(bt588.2.2.2.1 == a0_3) || (!(bt588.2.2.2.2 == a0_4)))))) = true then (crossbucklaw02_HdrTurns.j0 k t575 t576 t577 true a0_0 a0_1 a0_2 a0_3 a0_4 a1_0 a1_1 a1_2 a1_3 a1_4) else ((hdr_Compare.f k t579 t580 t581 t582 t583 a0_0 a0_1 a0_2 a0_3 a0_4).bind fun t593 => (if t593 = 0 then (crossbucklaw02_HdrTurns.j0 k t575 t576 t577 true a0_0 a0_1 a0_2 a0_3 a0_4 a1_0 a1_1 a1_2 a1_3 a1_4) else ((hdr_Compare.f k t579 t580 t581 t582 t583 a0_0 a0_1 a0_2 a0_3 a0_4).bind fun t594 => ((hdr_Bit.f k t579 t580 t581 t582 t583 (wrap64 (Int.tmod a3 104))).bind fun t595 => (crossbucklaw02_HdrTurns.j0 k t575 t576 t577 ((decide (t594 > 0)) != t595) a0_0 a0_1 a0_2 a0_3 a0_4 a1_0 a1_1 a1_2 a1_3 a1_4))))))) = some r := H
      have A31 := Aside0.mk A310
      clear A310
      replace H := Option.bind_eq_some_iff.mp H
      obtain ⟨⟨t588, t589, t590, t591, t592⟩, A320, H⟩ := H
      replace H : (if (!(t588 == a0_0) || (!(t589 == a0_1) || (!(t590 == a0_2) || (!(t591 == a0_3) || (!(t592 == a0_4)))))) = true then (crossbucklaw02_HdrTurns.j0 k t575 t576 t577 true a0_0 a0_1 a0_2 a0_3 a0_4 a1_0 a1_1 a1_2 a1_3 a1_4) else ((hdr_Compare.f k t579 t580 t581 t582 t583 a0_0 a0_1 a0_2 a0_3 a0_4).bind fun t593 => (if t593 = 0 then (crossbucklaw02_HdrTurns.j0 k t575 t576 t577 true a0_0 a0_1 a0_2 a0_3 a0_4 a1_0 a1_1 a1_2 a1_3 a1_4) else ((hdr_Compare.f k t579 t580 t581 t582 t583 a0_0 a0_1 a0_2 a0_3 a0_4).bind fun t594 => ((hdr_Bit.f k t579 t580 t581 t582 t583 (wrap64 (Int.tmod a3 104))).bind fun t595 => (crossbucklaw02_HdrTurns.j0 k t575 t576 t577 ((decide (t594 > 0)) != t595) a0_0 a0_1 a0_2 a0_3 a0_4 a1_0 a1_1 a1_2 a1_3 a1_4)))))) = some r := H
      have A32 := Aside0.mk A320
      clear A320
      by_cases c33 : (!(t588 == a0_0) || (!(t589 == a0_1) || (!(t590 == a0_2) || (!(t591 == a0_3) || (!(t592 == a0_4)))))) = true
      · rw [if_pos c33] at H
        have c33b0 : (!(t588 == a0_0) || (!(t589 == a0_1) || (!(t590 == a0_2) || (!(t591 == a0_3) || (!(t592 == a0_4)))))) = true := c33
        clear c33
        exfalso
        unfold crossbucklaw02_HdrTurns.j0 at H
        split at H
        · exact absurd H (by simp)
        · rw [if_pos rfl] at H
          exact absurd ((Option.some.inj H).trans hT.out) (by decide)
      · rw [if_neg c33] at H
        have c33b0 : (!(t588 == a0_0) || (!(t589 == a0_1) || (!(t590 == a0_2) || (!(t591 == a0_3) || (!(t592 == a0_4)))))) = false := by simpa using c33
        clear c33
        replace H := Option.bind_eq_some_iff.mp H
        obtain ⟨t593, A340, H⟩ := H
        replace H : (if t593 = 0 then (crossbucklaw02_HdrTurns.j0 k t575 t576 t577 true a0_0 a0_1 a0_2 a0_3 a0_4 a1_0 a1_1 a1_2 a1_3 a1_4) else ((hdr_Compare.f k t579 t580 t581 t582 t583 a0_0 a0_1 a0_2 a0_3 a0_4).bind fun t594 => ((hdr_Bit.f k t579 t580 t581 t582 t583 (wrap64 (Int.tmod a3 104))).bind fun t595 => (crossbucklaw02_HdrTurns.j0 k t575 t576 t577 ((decide (t594 > 0)) != t595) a0_0 a0_1 a0_2 a0_3 a0_4 a1_0 a1_1 a1_2 a1_3 a1_4)))) = some r := H
        have A34 := Aside0.mk A340
        clear A340
        by_cases c35 : t593 = 0
        · rw [if_pos c35] at H
          have c35b0 : (t593 == 0) = true := beq_iff_eq.mpr c35
          have c35b1 : (t593 != 0) = false := bne_eq_false_iff_eq.mpr c35
          clear c35
          exfalso
          unfold crossbucklaw02_HdrTurns.j0 at H
          split at H
          · exact absurd H (by simp)
          · rw [if_pos rfl] at H
            exact absurd ((Option.some.inj H).trans hT.out) (by decide)
        · rw [if_neg c35] at H
          have c35b0 : (t593 == 0) = false := beq_eq_false_iff_ne.mpr c35
          have c35b1 : (t593 != 0) = true := bne_iff_ne.mpr c35
          replace H := Option.bind_eq_some_iff.mp H
          obtain ⟨t594, A360, H⟩ := H
          replace H : ((hdr_Bit.f k t579 t580 t581 t582 t583 (wrap64 (Int.tmod a3 104))).bind fun t595 => (crossbucklaw02_HdrTurns.j0 k t575 t576 t577 ((decide (t594 > 0)) != t595) a0_0 a0_1 a0_2 a0_3 a0_4 a1_0 a1_1 a1_2 a1_3 a1_4)) = some r := H
          have A36 := Aside0.mk A360
          clear A360
          replace H := Option.bind_eq_some_iff.mp H
          obtain ⟨t595, A370, H⟩ := H
          replace H : (crossbucklaw02_HdrTurns.j0 k t575 t576 t577 ((decide (t594 > 0)) != t595) a0_0 a0_1 a0_2 a0_3 a0_4 a1_0 a1_1 a1_2 a1_3 a1_4) = some r := H
          have A37 := Aside0.mk A370
          clear A370
          have H' := Aside0.mk H
          clear H
          try go_wp2
          have n0_ : Aside0 ((((((w22.setCell ⟨gb584, 0, none⟩ (.int .u32 t579)).setCell ⟨gb584, 1, none⟩ (.int .u32 t580)).setCell ⟨gb584, 2, none⟩ (.int .u8 t581)).setCell ⟨gb584, 3, none⟩ (.int .u16 t582)).setCell ⟨gb584, 4, none⟩ (.int .u16 t583)).heap[gb572]? = some (.cells #[.int .u32 a0_0, .int .u32 a0_1, .int .u8 a0_2, .int .u16 a0_3, .int .u16 a0_4] 67 (0, 0))) := ⟨by (with_reducible repeat (first | refine blk_drewN ?_ _ | refine blk_drew ?_ | refine blk_alloc ?_ _)); refine blk_far ?_ NB572_584.out _; (with_reducible repeat (first | refine blk_drewN ?_ _ | refine blk_drew ?_ | refine blk_alloc ?_ _)); refine blk_far ?_ NB572_584.out _; (with_reducible repeat (first | refine blk_drewN ?_ _ | refine blk_drew ?_ | refine blk_alloc ?_ _)); refine blk_far ?_ NB572_584.out _; (with_reducible repeat (first | refine blk_drewN ?_ _ | refine blk_drew ?_ | refine blk_alloc ?_ _)); refine blk_far ?_ NB572_584.out _; (with_reducible repeat (first | refine blk_drewN ?_ _ | refine blk_drew ?_ | refine blk_alloc ?_ _)); refine blk_far ?_ NB572_584.out _; (with_reducible repeat (first | refine blk_drewN ?_ _ | refine blk_drew ?_ | refine blk_alloc ?_ _)); exact BK572.out⟩
          have n1_ : Aside0 ((((((w22.setCell ⟨gb584, 0, none⟩ (.int .u32 t579)).setCell ⟨gb584, 1, none⟩ (.int .u32 t580)).setCell ⟨gb584, 2, none⟩ (.int .u8 t581)).setCell ⟨gb584, 3, none⟩ (.int .u16 t582)).setCell ⟨gb584, 4, none⟩ (.int .u16 t583)).heap[gb573]? = some (.cells #[.int .u32 a1_0, .int .u32 a1_1, .int .u8 a1_2, .int .u16 a1_3, .int .u16 a1_4] 67 (0, 0))) := ⟨by (with_reducible repeat (first | refine blk_drewN ?_ _ | refine blk_drew ?_ | refine blk_alloc ?_ _)); refine blk_far ?_ NB573_584.out _; (with_reducible repeat (first | refine blk_drewN ?_ _ | refine blk_drew ?_ | refine blk_alloc ?_ _)); refine blk_far ?_ NB573_584.out _; (with_reducible repeat (first | refine blk_drewN ?_ _ | refine blk_drew ?_ | refine blk_alloc ?_ _)); refine blk_far ?_ NB573_584.out _; (with_reducible repeat (first | refine blk_drewN ?_ _ | refine blk_drew ?_ | refine blk_alloc ?_ _)); refine blk_far ?_ NB573_584.out _; (with_reducible repeat (first | refine blk_drewN ?_ _ | refine blk_drew ?_ | refine blk_alloc ?_ _)); refine blk_far ?_ NB573_584.out _; (with_reducible repeat (first | refine blk_drewN ?_ _ | refine blk_drew ?_ | refine blk_alloc ?_ _)); exact BK573.out⟩
          have n2_ : Aside0 ((((((w22.setCell ⟨gb584, 0, none⟩ (.int .u32 t579)).setCell ⟨gb584, 1, none⟩ (.int .u32 t580)).setCell ⟨gb584, 2, none⟩ (.int .u8 t581)).setCell ⟨gb584, 3, none⟩ (.int .u16 t582)).setCell ⟨gb584, 4, none⟩ (.int .u16 t583)).heap[gb574]? = some (.cells #[.int .u32 a2_0, .int .u32 a2_1, .int .u8 a2_2, .int .u16 a2_3, .int .u16 a2_4] 67 (0, 0))) := ⟨by (with_reducible repeat (first | refine blk_drewN ?_ _ | refine blk_drew ?_ | refine blk_alloc ?_ _)); refine blk_far ?_ NB574_584.out _; (with_reducible repeat (first | refine blk_drewN ?_ _ | refine blk_drew ?_ | refine blk_alloc ?_ _)); refine blk_far ?_ NB574_584.out _; (with_reducible repeat (first | refine blk_drewN ?_ _ | refine blk_drew ?_ | refine blk_alloc ?_ _)); refine blk_far ?_ NB574_584.out _; (with_reducible repeat (first | refine blk_drewN ?_ _ | refine blk_drew ?_ | refine blk_alloc ?_ _)); refine blk_far ?_ NB574_584.out _; (with_reducible repeat (first | refine blk_drewN ?_ _ | refine blk_drew ?_ | refine blk_alloc ?_ _)); refine blk_far ?_ NB574_584.out _; (with_reducible repeat (first | refine blk_drewN ?_ _ | refine blk_drew ?_ | refine blk_alloc ?_ _)); exact BK574.out⟩
          have n3_ : Aside0 ((((((w22.setCell ⟨gb584, 0, none⟩ (.int .u32 t579)).setCell ⟨gb584, 1, none⟩ (.int .u32 t580)).setCell ⟨gb584, 2, none⟩ (.int .u8 t581)).setCell ⟨gb584, 3, none⟩ (.int .u16 t582)).setCell ⟨gb584, 4, none⟩ (.int .u16 t583)).heap[gb584]? = some (.cells #[.int .u32 t579, .int .u32 t580, .int .u8 t581, .int .u16 t582, .int .u16 t583] 67 (0, 0))) := ⟨by (with_reducible repeat (first | refine blk_drewN ?_ _ | refine blk_drew ?_ | refine blk_alloc ?_ _)); refine blk_put (cs := #[.int .u32 t579, .int .u32 t580, .int .u8 t581, .int .u16 t582, .int .u16 0]) ?_ 4 _ rfl; (with_reducible repeat (first | refine blk_drewN ?_ _ | refine blk_drew ?_ | refine blk_alloc ?_ _)); refine blk_put (cs := #[.int .u32 t579, .int .u32 t580, .int .u8 t581, .int .u16 0, .int .u16 0]) ?_ 3 _ rfl; (with_reducible repeat (first | refine blk_drewN ?_ _ | refine blk_drew ?_ | refine blk_alloc ?_ _)); refine blk_put (cs := #[.int .u32 t579, .int .u32 t580, .int .u8 0, .int .u16 0, .int .u16 0]) ?_ 2 _ rfl; (with_reducible repeat (first | refine blk_drewN ?_ _ | refine blk_drew ?_ | refine blk_alloc ?_ _)); refine blk_put (cs := #[.int .u32 t579, .int .u32 0, .int .u8 0, .int .u16 0, .int .u16 0]) ?_ 1 _ rfl; (with_reducible repeat (first | refine blk_drewN ?_ _ | refine blk_drew ?_ | refine blk_alloc ?_ _)); refine blk_put (cs := #[.int .u32 0, .int .u32 0, .int .u8 0, .int .u16 0, .int .u16 0]) ?_ 0 _ rfl; (with_reducible repeat (first | refine blk_drewN ?_ _ | refine blk_drew ?_ | refine blk_alloc ?_ _)); exact BK584.out⟩
          have n4_ : Aside0 (Below w.heap.size w (((((w22.setCell ⟨gb584, 0, none⟩ (.int .u32 t579)).setCell ⟨gb584, 1, none⟩ (.int .u32 t580)).setCell ⟨gb584, 2, none⟩ (.int .u8 t581)).setCell ⟨gb584, 3, none⟩ (.int .u16 t582)).setCell ⟨gb584, 4, none⟩ (.int .u16 t583))) := ⟨by repeat (first | (with_reducible first | exact HB.out | apply below_alloc | apply pw_below_drewN | apply below_drew1 | refine below_set ?_ GE572.out | refine below_set ?_ GE573.out | refine below_set ?_ GE574.out | refine below_set ?_ GE584.out) | exact HB.out)⟩
          (try clear BK572)
          (try clear BK573)
          (try clear BK574)
          (try clear BK584)
          (try clear HB)
          generalize (((((w22.setCell ⟨gb584, 0, none⟩ (.int .u32 t579)).setCell ⟨gb584, 1, none⟩ (.int .u32 t580)).setCell ⟨gb584, 2, none⟩ (.int .u8 t581)).setCell ⟨gb584, 3, none⟩ (.int .u16 t582)).setCell ⟨gb584, 4, none⟩ (.int .u16 t583)) = w38 at n0_ n1_ n2_ n3_ n4_ ⊢
          have BK572 := n0_
          have BK573 := n1_
          have BK574 := n2_
          have BK584 := n3_
          have HB := n4_
          clear n0_ n1_ n2_ n3_ n4_
          have n0_ := Aside0.mk (blk_drew BK572.out)
          have n1_ := Aside0.mk (blk_drew BK573.out)
          have n2_ := Aside0.mk (blk_drew BK574.out)
          have n3_ := Aside0.mk (blk_drew BK584.out)
          have n4_ := Aside0.mk (below_drew1 HB.out)
          clear BK572
          clear BK573
          clear BK574
          clear BK584
          clear HB
          have BK572 := n0_
          have BK573 := n1_
          have BK574 := n2_
          have BK584 := n3_
          have HB := n4_
          clear n0_ n1_ n2_ n3_ n4_
          refine start_ (n := 33) (S := fun w' => w'.cell? ⟨gb584, 0, none⟩ = some (.int .u32 t579) ∧ w'.cell? ⟨gb584, 1, none⟩ = some (.int .u32 t580) ∧ w'.cell? ⟨gb584, 2, none⟩ = some (.int .u8 t581) ∧ w'.cell? ⟨gb584, 3, none⟩ = some (.int .u16 t582) ∧ w'.cell? ⟨gb584, 4, none⟩ = some (.int .u16 t583) ∧ w'.cell? ⟨gb572, 0, none⟩ = some (.int .u32 a0_0) ∧ w'.cell? ⟨gb572, 1, none⟩ = some (.int .u32 a0_1) ∧ w'.cell? ⟨gb572, 2, none⟩ = some (.int .u8 a0_2) ∧ w'.cell? ⟨gb572, 3, none⟩ = some (.int .u16 a0_3) ∧ w'.cell? ⟨gb572, 4, none⟩ = some (.int .u16 a0_4)) (ds := []) #[false, false, false, false, false, false, false, false, false, false, false, false, false, false, false, false, false, false, false, false, false, false, false, false, false, false, false, false, false, false, false, false, false] (by kernel_rfl) rfl rfl ⟨(blk_cell BK584.out 0).trans rfl, (blk_cell BK584.out 1).trans rfl, (blk_cell BK584.out 2).trans rfl, (blk_cell BK584.out 3).trans rfl, (blk_cell BK584.out 4).trans rfl, (blk_cell BK572.out 0).trans rfl, (blk_cell BK572.out 1).trans rfl, (blk_cell BK572.out 2).trans rfl, (blk_cell BK572.out 3).trans rfl, (blk_cell BK572.out 4).trans rfl⟩ (fun hHeld => ?_); refine with_tabW crossbucklaw02_HdrTurns.tab4 crossbucklaw02_HdrTurns.bits4 (fun HT_ HW_ => ?_)
          generalize w38.drew = w39 at BK572 BK573 BK574 BK584 HB hHeld ⊢
          refine pure_ (i := 1) (N := some 34) (v := ?_) (a' := ?_) #[false, true, false, false, false, false, false, false, false, false, false, false, false, false, false, false, false, false, false, false, false, false, false, false, false, false, false, false, false, false, false, false, false] rfl rfl (any_of HT_.out (by kernel_rfl)) (fun _ _ _ h => h) (Or.inl ⟨by rfl, ?_⟩) ?_ ?_
          rotate_left
          · intro w'
            go_simp
            with_reducible rfl
          rotate_left
          · simp only [Act.put, List.setIfInBounds_toArray, List.set_cons_zero, List.set_cons_succ, i64_w, i32_w]
            rfl
          refine pure_ (i := 4) (N := some 37) (v := ?_) (a' := ?_) #[false, true, false, false, true, false, false, false, false, false, false, false, false, false, false, false, false, false, false, false, false, false, false, false, false, false, false, false, false, false, false, false, false] rfl rfl (any_of HT_.out (by kernel_rfl)) (fun _ _ _ h => h) (Or.inl ⟨by rfl, ?_⟩) ?_ ?_
          rotate_left
          · intro w'
            go_simp
            with_reducible rfl
          rotate_left
          · simp only [Act.put, List.setIfInBounds_toArray, List.set_cons_zero, List.set_cons_succ, i64_w, i32_w]
            rfl
          refine take_ (i := 0) (N := some 33) (v := ?_) (a' := ?_) #[true, true, false, false, true, false, false, false, false, false, false, false, false, false, false, false, false, false, false, false, false, false, false, false, false, false, false, false, false, false, false, false, false] rfl rfl (take_ofW HT_.out HW_.out (by kernel_rfl)) (fun _ _ _ h => h) (Or.inl ⟨by rfl, ?_⟩) hHeld ?_ ?_
          rotate_left
          · rintro w' ⟨s0, s1, s2, s3, s4, s5, s6, s7, s8, s9⟩
            go_simp
            with_reducible rfl
          rotate_left
          · simp only [Act.put, List.setIfInBounds_toArray, List.set_cons_zero, List.set_cons_succ, i64_w, i32_w]
            rfl
          refine take_ (i := 3) (N := some 36) (v := ?_) (a' := ?_) #[true, true, false, true, true, false, false, false, false, false, false, false, false, false, false, false, false, false, false, false, false, false, false, false, false, false, false, false, false, false, false, false, false] rfl rfl (take_ofW HT_.out HW_.out (by kernel_rfl)) (fun _ _ _ h => h) (Or.inl ⟨by rfl, ?_⟩) hHeld ?_ ?_
          rotate_left
          · rintro w' ⟨s0, s1, s2, s3, s4, s5, s6, s7, s8, s9⟩
            go_simp
            with_reducible rfl
          rotate_left
          · simp only [Act.put, List.setIfInBounds_toArray, List.set_cons_zero, List.set_cons_succ, i64_w, i32_w]
            rfl
          refine one_ (i := 2) (N := some 35) #[true, true, true, true, true, false, false, false, false, false, false, false, false, false, false, false, false, false, false, false, false, false, false, false, false, false, false, false, false, false, false, false, false] rfl rfl (one_of HT_.out (by kernel_rfl)) (by decide) (fun K hK => ?_)
          refine goes_ Tryd.func38 (by kernel_rfl) rfl #[.agg #[.int .u32 t579, .int .u32 t580, .int .u8 t581, .int .u16 t582, .int .u16 t583], .int .i64 (wrap64 (Int.tmod a3 104))] (by rfl) rfl rfl (by (try simp only [List.map_toArray, List.map_cons, List.map_nil]); first | done | rfl | (simp only [List.length_drop, List.length_take]; rfl)) ?_
          with_reducible refine (hdr_Bit.calls k t579 t580 t581 t582 t583 (wrap64 (Int.tmod a3 104)) t585 _ A28.out).mono ?_
          rintro e w40 ⟨rfl, hb⟩
          refine ⟨_, rfl, ?_⟩
          have n0_ := Aside0.mk (blk_below (g := gb572) (o := .cells #[.int .u32 a0_0, .int .u32 a0_1, .int .u8 a0_2, .int .u16 a0_3, .int .u16 a0_4] 67 (0, 0)) (by (with_reducible repeat (first | refine blk_drewN ?_ _ | refine blk_drew ?_ | refine blk_alloc ?_ _)); exact BK572.out) hb)
          have n1_ := Aside0.mk (blk_below (g := gb573) (o := .cells #[.int .u32 a1_0, .int .u32 a1_1, .int .u8 a1_2, .int .u16 a1_3, .int .u16 a1_4] 67 (0, 0)) (by (with_reducible repeat (first | refine blk_drewN ?_ _ | refine blk_drew ?_ | refine blk_alloc ?_ _)); exact BK573.out) hb)
          have n2_ := Aside0.mk (blk_below (g := gb574) (o := .cells #[.int .u32 a2_0, .int .u32 a2_1, .int .u8 a2_2, .int .u16 a2_3, .int .u16 a2_4] 67 (0, 0)) (by (with_reducible repeat (first | refine blk_drewN ?_ _ | refine blk_drew ?_ | refine blk_alloc ?_ _)); exact BK574.out) hb)
          have n3_ := Aside0.mk (blk_below (g := gb584) (o := .cells #[.int .u32 t579, .int .u32 t580, .int .u8 t581, .int .u16 t582, .int .u16 t583] 67 (0, 0)) (by (with_reducible repeat (first | refine blk_drewN ?_ _ | refine blk_drew ?_ | refine blk_alloc ?_ _)); exact BK584.out) hb)
          have n4_ := Aside0.mk (below_step (by repeat (first | (with_reducible first | exact HB.out | apply below_alloc | apply pw_below_drewN | apply below_drew1 | refine below_set ?_ GE572.out | refine below_set ?_ GE573.out | refine below_set ?_ GE574.out | refine below_set ?_ GE584.out) | exact HB.out)) hb)
          clear BK572
          clear BK573
          clear BK574
          clear BK584
          clear HB
          have BK572 := n0_
          have BK573 := n1_
          have BK574 := n2_
          have BK584 := n3_
          have HB := n4_
          clear n0_ n1_ n2_ n3_ n4_
          (try clear hb)
          (try clear hb2)
          (try clear hk)
          (try clear hi)
          refine hK.out _ _ ⟨(blk_cell BK584.out 0).trans rfl, (blk_cell BK584.out 1).trans rfl, (blk_cell BK584.out 2).trans rfl, (blk_cell BK584.out 3).trans rfl, (blk_cell BK584.out 4).trans rfl, (blk_cell BK572.out 0).trans rfl, (blk_cell BK572.out 1).trans rfl, (blk_cell BK572.out 2).trans rfl, (blk_cell BK572.out 3).trans rfl, (blk_cell BK572.out 4).trans rfl⟩ (fun hHeld => ?_)
          clear hK K
          refine norm_ (a' := ?_) ?_ ?_
          rotate_left
          · show Act.put _ (some 35) _ = _
            simp only [Act.put, List.setIfInBounds_toArray, List.set_cons_zero, List.set_cons_succ, i64_w, i32_w]
            rfl
          refine one_ (i := 5) (N := some 38) #[true, true, true, true, true, true, false, false, false, false, false, false, false, false, false, false, false, false, false, false, false, false, false, false, false, false, false, false, false, false, false, false, false] rfl rfl (one_of HT_.out (by kernel_rfl)) (by decide) (fun K hK => ?_)
          refine goes_ Tryd.func38 (by kernel_rfl) rfl #[.agg #[.int .u32 a0_0, .int .u32 a0_1, .int .u8 a0_2, .int .u16 a0_3, .int .u16 a0_4], .int .i64 (wrap64 (Int.tmod a3 104))] (by rfl) rfl rfl (by (try simp only [List.map_toArray, List.map_cons, List.map_nil]); first | done | rfl | (simp only [List.length_drop, List.length_take]; rfl)) ?_
          with_reducible refine (hdr_Bit.calls k a0_0 a0_1 a0_2 a0_3 a0_4 (wrap64 (Int.tmod a3 104)) t586 _ A29.out).mono ?_
          rintro e w41 ⟨rfl, hb⟩
          refine ⟨_, rfl, ?_⟩
          have n0_ := Aside0.mk (blk_below (g := gb572) (o := .cells #[.int .u32 a0_0, .int .u32 a0_1, .int .u8 a0_2, .int .u16 a0_3, .int .u16 a0_4] 67 (0, 0)) (by (with_reducible repeat (first | refine blk_drewN ?_ _ | refine blk_drew ?_ | refine blk_alloc ?_ _)); exact BK572.out) hb)
          have n1_ := Aside0.mk (blk_below (g := gb573) (o := .cells #[.int .u32 a1_0, .int .u32 a1_1, .int .u8 a1_2, .int .u16 a1_3, .int .u16 a1_4] 67 (0, 0)) (by (with_reducible repeat (first | refine blk_drewN ?_ _ | refine blk_drew ?_ | refine blk_alloc ?_ _)); exact BK573.out) hb)
          have n2_ := Aside0.mk (blk_below (g := gb574) (o := .cells #[.int .u32 a2_0, .int .u32 a2_1, .int .u8 a2_2, .int .u16 a2_3, .int .u16 a2_4] 67 (0, 0)) (by (with_reducible repeat (first | refine blk_drewN ?_ _ | refine blk_drew ?_ | refine blk_alloc ?_ _)); exact BK574.out) hb)
          have n3_ := Aside0.mk (blk_below (g := gb584) (o := .cells #[.int .u32 t579, .int .u32 t580, .int .u8 t581, .int .u16 t582, .int .u16 t583] 67 (0, 0)) (by (with_reducible repeat (first | refine blk_drewN ?_ _ | refine blk_drew ?_ | refine blk_alloc ?_ _)); exact BK584.out) hb)
          have n4_ := Aside0.mk (below_step (by repeat (first | (with_reducible first | exact HB.out | apply below_alloc | apply pw_below_drewN | apply below_drew1 | refine below_set ?_ GE572.out | refine below_set ?_ GE573.out | refine below_set ?_ GE574.out | refine below_set ?_ GE584.out) | exact HB.out)) hb)
          clear BK572
          clear BK573
          clear BK574
          clear BK584
          clear HB
          have BK572 := n0_
          have BK573 := n1_
          have BK574 := n2_
          have BK584 := n3_
          have HB := n4_
          clear n0_ n1_ n2_ n3_ n4_
          (try clear hb)
          (try clear hb2)
          (try clear hk)
          (try clear hi)
          refine hK.out _ _ ⟨(blk_cell BK584.out 0).trans rfl, (blk_cell BK584.out 1).trans rfl, (blk_cell BK584.out 2).trans rfl, (blk_cell BK584.out 3).trans rfl, (blk_cell BK584.out 4).trans rfl, (blk_cell BK572.out 0).trans rfl, (blk_cell BK572.out 1).trans rfl, (blk_cell BK572.out 2).trans rfl, (blk_cell BK572.out 3).trans rfl, (blk_cell BK572.out 4).trans rfl⟩ (fun hHeld => ?_)
          clear hK K
          refine norm_ (a' := ?_) ?_ ?_
          rotate_left
          · show Act.put _ (some 38) _ = _
            simp only [Act.put, List.setIfInBounds_toArray, List.set_cons_zero, List.set_cons_succ, i64_w, i32_w]
            rfl
          refine pure_ (i := 6) (N := some 39) (v := ?_) (a' := ?_) #[true, true, true, true, true, true, true, false, false, false, false, false, false, false, false, false, false, false, false, false, false, false, false, false, false, false, false, false, false, false, false, false, false] rfl rfl (any_of HT_.out (by kernel_rfl)) (fun _ _ _ h => h) (Or.inl ⟨by rfl, ?_⟩) ?_ ?_
          rotate_left
          · intro w'
            go_simp
            with_reducible rfl
          rotate_left
          · simp only [Act.put, List.setIfInBounds_toArray, List.set_cons_zero, List.set_cons_succ, i64_w, i32_w]
            rfl
          refine pure_ (i := 7) (N := some 40) (v := ?_) (a' := ?_) #[true, true, true, true, true, true, true, true, false, false, false, false, false, false, false, false, false, false, false, false, false, false, false, false, false, false, false, false, false, false, false, false, false] rfl rfl (any_of HT_.out (by kernel_rfl)) (fun _ _ _ h => h) (Or.inl ⟨by rfl, ?_⟩) ?_ ?_
          rotate_left
          · intro w'
            go_simp
            with_reducible rfl
          rotate_left
          · simp only [Act.put, List.setIfInBounds_toArray, List.set_cons_zero, List.set_cons_succ, i64_w, i32_w]
            rfl
          refine pure_ (i := 9) (N := some 42) (v := ?_) (a' := ?_) #[true, true, true, true, true, true, true, true, false, true, false, false, false, false, false, false, false, false, false, false, false, false, false, false, false, false, false, false, false, false, false, false, false] rfl rfl (any_of HT_.out (by kernel_rfl)) (fun _ _ _ h => h) (Or.inl ⟨by rfl, ?_⟩) ?_ ?_
          rotate_left
          · intro w'
            go_simp
            with_reducible rfl
          rotate_left
          · simp only [Act.put, List.setIfInBounds_toArray, List.set_cons_zero, List.set_cons_succ, i64_w, i32_w]
            rfl
          refine pure_ (i := 11) (N := some 44) (v := ?_) (a' := ?_) #[true, true, true, true, true, true, true, true, false, true, false, true, false, false, false, false, false, false, false, false, false, false, false, false, false, false, false, false, false, false, false, false, false] rfl rfl (any_of HT_.out (by kernel_rfl)) (fun _ _ _ h => h) (Or.inl ⟨by rfl, ?_⟩) ?_ ?_
          rotate_left
          · intro w'
            go_simp
            with_reducible rfl
          rotate_left
          · simp only [Act.put, List.setIfInBounds_toArray, List.set_cons_zero, List.set_cons_succ, i64_w, i32_w]
            rfl
          refine take_ (i := 8) (N := some 41) (v := ?_) (a' := ?_) #[true, true, true, true, true, true, true, true, true, true, false, true, false, false, false, false, false, false, false, false, false, false, false, false, false, false, false, false, false, false, false, false, false] rfl rfl (take_ofW HT_.out HW_.out (by kernel_rfl)) (fun _ _ _ h => h) (Or.inl ⟨by rfl, ?_⟩) hHeld ?_ ?_
          rotate_left
          · rintro w' ⟨s0, s1, s2, s3, s4, s5, s6, s7, s8, s9⟩
            go_simp
            with_reducible rfl
          rotate_left
          · simp only [Act.put, List.setIfInBounds_toArray, List.set_cons_zero, List.set_cons_succ, i64_w, i32_w]
            rfl
          refine take_ (i := 10) (N := some 43) (v := ?_) (a' := ?_) #[true, true, true, true, true, true, true, true, true, true, true, true, false, false, false, false, false, false, false, false, false, false, false, false, false, false, false, false, false, false, false, false, false] rfl rfl (take_ofW HT_.out HW_.out (by kernel_rfl)) (fun _ _ _ h => h) (Or.inl ⟨by rfl, ?_⟩) hHeld ?_ ?_
          rotate_left
          · rintro w' ⟨s0, s1, s2, s3, s4, s5, s6, s7, s8, s9⟩
            go_simp
            with_reducible rfl
          rotate_left
          · simp only [Act.put, List.setIfInBounds_toArray, List.set_cons_zero, List.set_cons_succ, i64_w, i32_w]
            rfl
          refine take_ (i := 14) (N := some 47) (v := ?_) (a' := ?_) #[true, true, true, true, true, true, true, true, true, true, true, true, false, false, true, false, false, false, false, false, false, false, false, false, false, false, false, false, false, false, false, false, false] rfl rfl (take_ofW HT_.out HW_.out (by kernel_rfl)) (fun _ _ _ h => h) (Or.inl ⟨by rfl, ?_⟩) hHeld ?_ ?_
          rotate_left
          · rintro w' ⟨s0, s1, s2, s3, s4, s5, s6, s7, s8, s9⟩
            go_simp
            with_reducible rfl
          rotate_left
          · simp only [Act.put, List.setIfInBounds_toArray, List.set_cons_zero, List.set_cons_succ, i64_w, i32_w]
            rfl
          refine one_ (i := 12) (N := some 45) #[true, true, true, true, true, true, true, true, true, true, true, true, true, false, true, false, false, false, false, false, false, false, false, false, false, false, false, false, false, false, false, false, false] rfl rfl (one_of HT_.out (by kernel_rfl)) (by decide) (fun K hK => ?_)
          refine goes_ Tryd.func38 (by kernel_rfl) rfl #[.agg #[.int .u32 a0_0, .int .u32 a0_1, .int .u8 a0_2, .int .u16 a0_3, .int .u16 a0_4], .int .i64 (wrap64 (Int.tmod a3 104))] (by rfl) rfl rfl (by (try simp only [List.map_toArray, List.map_cons, List.map_nil]); first | done | rfl | (simp only [List.length_drop, List.length_take]; rfl)) ?_
          with_reducible refine (hdr_Bit.calls k a0_0 a0_1 a0_2 a0_3 a0_4 (wrap64 (Int.tmod a3 104)) t587 _ A31.out).mono ?_
          rintro e w42 ⟨rfl, hb⟩
          refine ⟨_, rfl, ?_⟩
          have n0_ := Aside0.mk (blk_below (g := gb572) (o := .cells #[.int .u32 a0_0, .int .u32 a0_1, .int .u8 a0_2, .int .u16 a0_3, .int .u16 a0_4] 67 (0, 0)) (by (with_reducible repeat (first | refine blk_drewN ?_ _ | refine blk_drew ?_ | refine blk_alloc ?_ _)); exact BK572.out) hb)
          have n1_ := Aside0.mk (blk_below (g := gb573) (o := .cells #[.int .u32 a1_0, .int .u32 a1_1, .int .u8 a1_2, .int .u16 a1_3, .int .u16 a1_4] 67 (0, 0)) (by (with_reducible repeat (first | refine blk_drewN ?_ _ | refine blk_drew ?_ | refine blk_alloc ?_ _)); exact BK573.out) hb)
          have n2_ := Aside0.mk (blk_below (g := gb574) (o := .cells #[.int .u32 a2_0, .int .u32 a2_1, .int .u8 a2_2, .int .u16 a2_3, .int .u16 a2_4] 67 (0, 0)) (by (with_reducible repeat (first | refine blk_drewN ?_ _ | refine blk_drew ?_ | refine blk_alloc ?_ _)); exact BK574.out) hb)
          have n3_ := Aside0.mk (blk_below (g := gb584) (o := .cells #[.int .u32 t579, .int .u32 t580, .int .u8 t581, .int .u16 t582, .int .u16 t583] 67 (0, 0)) (by (with_reducible repeat (first | refine blk_drewN ?_ _ | refine blk_drew ?_ | refine blk_alloc ?_ _)); exact BK584.out) hb)
          have n4_ := Aside0.mk (below_step (by repeat (first | (with_reducible first | exact HB.out | apply below_alloc | apply pw_below_drewN | apply below_drew1 | refine below_set ?_ GE572.out | refine below_set ?_ GE573.out | refine below_set ?_ GE574.out | refine below_set ?_ GE584.out) | exact HB.out)) hb)
          clear BK572
          clear BK573
          clear BK574
          clear BK584
          clear HB
          have BK572 := n0_
          have BK573 := n1_
          have BK574 := n2_
          have BK584 := n3_
          have HB := n4_
          clear n0_ n1_ n2_ n3_ n4_
          (try clear hb)
          (try clear hb2)
          (try clear hk)
          (try clear hi)
          refine hK.out _ _ ⟨(blk_cell BK584.out 0).trans rfl, (blk_cell BK584.out 1).trans rfl, (blk_cell BK584.out 2).trans rfl, (blk_cell BK584.out 3).trans rfl, (blk_cell BK584.out 4).trans rfl, (blk_cell BK572.out 0).trans rfl, (blk_cell BK572.out 1).trans rfl, (blk_cell BK572.out 2).trans rfl, (blk_cell BK572.out 3).trans rfl, (blk_cell BK572.out 4).trans rfl⟩ (fun hHeld => ?_)
          clear hK K
          refine norm_ (a' := ?_) ?_ ?_
          rotate_left
          · show Act.put _ (some 45) _ = _
            simp only [Act.put, List.setIfInBounds_toArray, List.set_cons_zero, List.set_cons_succ, i64_w, i32_w]
            rfl
          refine one_ (i := 13) (N := some 46) #[true, true, true, true, true, true, true, true, true, true, true, true, true, true, true, false, false, false, false, false, false, false, false, false, false, false, false, false, false, false, false, false, false] rfl rfl (one_of HT_.out (by kernel_rfl)) (by decide) (fun K hK => ?_)
          refine goes_ Tryd.func41 (by kernel_rfl) rfl #[.agg #[.int .u32 t579, .int .u32 t580, .int .u8 t581, .int .u16 t582, .int .u16 t583], .int .i64 (wrap64 (Int.tmod a3 104)), .bool t587] (by rfl) rfl rfl (by (try simp only [List.map_toArray, List.map_cons, List.map_nil]); first | done | rfl | (simp only [List.length_drop, List.length_take]; rfl)) ?_
          with_reducible refine (hdr_With.calls k t579 t580 t581 t582 t583 (wrap64 (Int.tmod a3 104)) t587 t588 t589 t590 t591 t592 _ A32.out).mono ?_
          rintro e w43 ⟨rfl, hb⟩
          refine ⟨_, rfl, ?_⟩
          have n0_ := Aside0.mk (blk_below (g := gb572) (o := .cells #[.int .u32 a0_0, .int .u32 a0_1, .int .u8 a0_2, .int .u16 a0_3, .int .u16 a0_4] 67 (0, 0)) (by (with_reducible repeat (first | refine blk_drewN ?_ _ | refine blk_drew ?_ | refine blk_alloc ?_ _)); exact BK572.out) hb)
          have n1_ := Aside0.mk (blk_below (g := gb573) (o := .cells #[.int .u32 a1_0, .int .u32 a1_1, .int .u8 a1_2, .int .u16 a1_3, .int .u16 a1_4] 67 (0, 0)) (by (with_reducible repeat (first | refine blk_drewN ?_ _ | refine blk_drew ?_ | refine blk_alloc ?_ _)); exact BK573.out) hb)
          have n2_ := Aside0.mk (blk_below (g := gb574) (o := .cells #[.int .u32 a2_0, .int .u32 a2_1, .int .u8 a2_2, .int .u16 a2_3, .int .u16 a2_4] 67 (0, 0)) (by (with_reducible repeat (first | refine blk_drewN ?_ _ | refine blk_drew ?_ | refine blk_alloc ?_ _)); exact BK574.out) hb)
          have n3_ := Aside0.mk (blk_below (g := gb584) (o := .cells #[.int .u32 t579, .int .u32 t580, .int .u8 t581, .int .u16 t582, .int .u16 t583] 67 (0, 0)) (by (with_reducible repeat (first | refine blk_drewN ?_ _ | refine blk_drew ?_ | refine blk_alloc ?_ _)); exact BK584.out) hb)
          have n4_ := Aside0.mk (below_step (by repeat (first | (with_reducible first | exact HB.out | apply below_alloc | apply pw_below_drewN | apply below_drew1 | refine below_set ?_ GE572.out | refine below_set ?_ GE573.out | refine below_set ?_ GE574.out | refine below_set ?_ GE584.out) | exact HB.out)) hb)
          clear BK572
          clear BK573
          clear BK574
          clear BK584
          clear HB
          have BK572 := n0_
          have BK573 := n1_
          have BK574 := n2_
          have BK584 := n3_
          have HB := n4_
          clear n0_ n1_ n2_ n3_ n4_
          (try clear hb)
          (try clear hb2)
          (try clear hk)
          (try clear hi)
          refine hK.out _ _ ⟨(blk_cell BK584.out 0).trans rfl, (blk_cell BK584.out 1).trans rfl, (blk_cell BK584.out 2).trans rfl, (blk_cell BK584.out 3).trans rfl, (blk_cell BK584.out 4).trans rfl, (blk_cell BK572.out 0).trans rfl, (blk_cell BK572.out 1).trans rfl, (blk_cell BK572.out 2).trans rfl, (blk_cell BK572.out 3).trans rfl, (blk_cell BK572.out 4).trans rfl⟩ (fun hHeld => ?_)
          clear hK K
          refine norm_ (a' := ?_) ?_ ?_
          rotate_left
          · show Act.put _ (some 46) _ = _
            simp only [Act.put, List.setIfInBounds_toArray, List.set_cons_zero, List.set_cons_succ, i64_w, i32_w]
            rfl
          refine pure_ (i := 15) (N := some 48) (v := ?_) (a' := ?_) #[true, true, true, true, true, true, true, true, true, true, true, true, true, true, true, true, false, false, false, false, false, false, false, false, false, false, false, false, false, false, false, false, false] rfl rfl (any_of HT_.out (by kernel_rfl)) (fun _ _ _ h => h) (Or.inl ⟨by rfl, ?_⟩) ?_ ?_
          rotate_left
          · intro w'
            go_simp
            with_reducible rfl
          rotate_left
          · simp only [Act.put, List.setIfInBounds_toArray, List.set_cons_zero, List.set_cons_succ, i64_w, i32_w]
            rfl
          refine pure_ (i := 16) (N := some 49) (v := ?_) (a' := ?_) #[true, true, true, true, true, true, true, true, true, true, true, true, true, true, true, true, true, false, false, false, false, false, false, false, false, false, false, false, false, false, false, false, false] rfl rfl (any_of HT_.out (by kernel_rfl)) (fun _ _ _ h => h) (Or.inl ⟨by rfl, ?_⟩) ?_ ?_
          rotate_left
          · intro w'
            go_simp
            with_reducible rfl
          rotate_left
          · simp only [Act.put, List.setIfInBounds_toArray, List.set_cons_zero, List.set_cons_succ, i64_w, i32_w]
            rfl
          refine pure_ (i := 17) (N := some 50) (v := ?_) (a' := ?_) #[true, true, true, true, true, true, true, true, true, true, true, true, true, true, true, true, true, true, false, false, false, false, false, false, false, false, false, false, false, false, false, false, false] rfl rfl (any_of HT_.out (by kernel_rfl)) (fun _ _ _ h => h) (Or.inl ⟨by rfl, ?_⟩) ?_ ?_
          rotate_left
          · intro w'
            go_simp
            with_reducible rfl
          rotate_left
          · simp only [Act.put, List.setIfInBounds_toArray, List.set_cons_zero, List.set_cons_succ, i64_w, i32_w]
            rfl
          refine take_ (i := 18) (N := some 51) (v := ?_) (a' := ?_) #[true, true, true, true, true, true, true, true, true, true, true, true, true, true, true, true, true, true, true, false, false, false, false, false, false, false, false, false, false, false, false, false, false] rfl rfl (take_ofW HT_.out HW_.out (by kernel_rfl)) (fun _ _ _ h => h) (Or.inl ⟨by rfl, ?_⟩) hHeld ?_ ?_
          rotate_left
          · rintro w' ⟨s0, s1, s2, s3, s4, s5, s6, s7, s8, s9⟩
            go_simp
            with_reducible rfl
          rotate_left
          · simp only [Act.put, List.setIfInBounds_toArray, List.set_cons_zero, List.set_cons_succ, i64_w, i32_w]
            rfl
          refine take_ (i := 19) (N := some 52) (v := ?_) (a' := ?_) #[true, true, true, true, true, true, true, true, true, true, true, true, true, true, true, true, true, true, true, true, false, false, false, false, false, false, false, false, false, false, false, false, false] rfl rfl (take_ofW HT_.out HW_.out (by kernel_rfl)) (fun _ _ _ h => h) (Or.inl ⟨by rfl, ?_⟩) hHeld ?_ ?_
          rotate_left
          · rintro w' ⟨s0, s1, s2, s3, s4, s5, s6, s7, s8, s9⟩
            go_simp
            with_reducible rfl
          rotate_left
          · simp only [Act.put, List.setIfInBounds_toArray, List.set_cons_zero, List.set_cons_succ, i64_w, i32_w]
            rfl
          refine one_ (i := 20) (N := some 53) #[true, true, true, true, true, true, true, true, true, true, true, true, true, true, true, true, true, true, true, true, true, false, false, false, false, false, false, false, false, false, false, false, false] rfl rfl (one_of HT_.out (by kernel_rfl)) (by decide) (fun K hK => ?_)
          refine goes_ Tryd.func39 (by kernel_rfl) rfl #[.agg #[.int .u32 t579, .int .u32 t580, .int .u8 t581, .int .u16 t582, .int .u16 t583], .agg #[.int .u32 a0_0, .int .u32 a0_1, .int .u8 a0_2, .int .u16 a0_3, .int .u16 a0_4]] (by rfl) rfl rfl (by (try simp only [List.map_toArray, List.map_cons, List.map_nil]); first | done | rfl | (simp only [List.length_drop, List.length_take]; rfl)) ?_
          with_reducible refine (hdr_Compare.calls k t579 t580 t581 t582 t583 a0_0 a0_1 a0_2 a0_3 a0_4 t593 _ A34.out).mono ?_
          rintro e w44 ⟨rfl, hb⟩
          refine ⟨_, rfl, ?_⟩
          have n0_ := Aside0.mk (blk_below (g := gb572) (o := .cells #[.int .u32 a0_0, .int .u32 a0_1, .int .u8 a0_2, .int .u16 a0_3, .int .u16 a0_4] 67 (0, 0)) (by (with_reducible repeat (first | refine blk_drewN ?_ _ | refine blk_drew ?_ | refine blk_alloc ?_ _)); exact BK572.out) hb)
          have n1_ := Aside0.mk (blk_below (g := gb573) (o := .cells #[.int .u32 a1_0, .int .u32 a1_1, .int .u8 a1_2, .int .u16 a1_3, .int .u16 a1_4] 67 (0, 0)) (by (with_reducible repeat (first | refine blk_drewN ?_ _ | refine blk_drew ?_ | refine blk_alloc ?_ _)); exact BK573.out) hb)
          have n2_ := Aside0.mk (blk_below (g := gb574) (o := .cells #[.int .u32 a2_0, .int .u32 a2_1, .int .u8 a2_2, .int .u16 a2_3, .int .u16 a2_4] 67 (0, 0)) (by (with_reducible repeat (first | refine blk_drewN ?_ _ | refine blk_drew ?_ | refine blk_alloc ?_ _)); exact BK574.out) hb)
          have n3_ := Aside0.mk (blk_below (g := gb584) (o := .cells #[.int .u32 t579, .int .u32 t580, .int .u8 t581, .int .u16 t582, .int .u16 t583] 67 (0, 0)) (by (with_reducible repeat (first | refine blk_drewN ?_ _ | refine blk_drew ?_ | refine blk_alloc ?_ _)); exact BK584.out) hb)
          have n4_ := Aside0.mk (below_step (by repeat (first | (with_reducible first | exact HB.out | apply below_alloc | apply pw_below_drewN | apply below_drew1 | refine below_set ?_ GE572.out | refine below_set ?_ GE573.out | refine below_set ?_ GE574.out | refine below_set ?_ GE584.out) | exact HB.out)) hb)
          clear BK572
          clear BK573
          clear BK574
          clear BK584
          clear HB
          have BK572 := n0_
          have BK573 := n1_
          have BK574 := n2_
          have BK584 := n3_
          have HB := n4_
          clear n0_ n1_ n2_ n3_ n4_
          (try clear hb)
          (try clear hb2)
          (try clear hk)
          (try clear hi)
          refine hK.out _ _ ⟨(blk_cell BK584.out 0).trans rfl, (blk_cell BK584.out 1).trans rfl, (blk_cell BK584.out 2).trans rfl, (blk_cell BK584.out 3).trans rfl, (blk_cell BK584.out 4).trans rfl, (blk_cell BK572.out 0).trans rfl, (blk_cell BK572.out 1).trans rfl, (blk_cell BK572.out 2).trans rfl, (blk_cell BK572.out 3).trans rfl, (blk_cell BK572.out 4).trans rfl⟩ (fun hHeld => ?_)
          clear hK K
          refine norm_ (a' := ?_) ?_ ?_
          rotate_left
          · show Act.put _ (some 53) _ = _
            simp only [Act.put, List.setIfInBounds_toArray, List.set_cons_zero, List.set_cons_succ, i64_w, i32_w]
            rfl
          refine pure_ (i := 21) (N := some 54) (v := ?_) (a' := ?_) #[true, true, true, true, true, true, true, true, true, true, true, true, true, true, true, true, true, true, true, true, true, true, false, false, false, false, false, false, false, false, false, false, false] rfl rfl (any_of HT_.out (by kernel_rfl)) (fun _ _ _ h => h) (Or.inl ⟨by rfl, ?_⟩) ?_ ?_
          rotate_left
          · intro w'
            go_simp
            with_reducible rfl
          rotate_left
          · simp only [Act.put, List.setIfInBounds_toArray, List.set_cons_zero, List.set_cons_succ, i64_w, i32_w]
            rfl
          refine pure_ (i := 22) (N := some 55) (v := ?_) (a' := ?_) #[true, true, true, true, true, true, true, true, true, true, true, true, true, true, true, true, true, true, true, true, true, true, true, false, false, false, false, false, false, false, false, false, false] rfl rfl (any_of HT_.out (by kernel_rfl)) (fun _ _ _ h => h) (Or.inl ⟨by rfl, ?_⟩) ?_ ?_
          rotate_left
          · intro w'
            go_simp
            with_reducible rfl
          rotate_left
          · simp only [Act.put, List.setIfInBounds_toArray, List.set_cons_zero, List.set_cons_succ, i64_w, i32_w]
            rfl
          refine pure_ (i := 23) (N := some 56) (v := ?_) (a' := ?_) #[true, true, true, true, true, true, true, true, true, true, true, true, true, true, true, true, true, true, true, true, true, true, true, true, false, false, false, false, false, false, false, false, false] rfl rfl (any_of HT_.out (by kernel_rfl)) (fun _ _ _ h => h) (Or.inl ⟨by rfl, ?_⟩) ?_ ?_
          rotate_left
          · intro w'
            go_simp
            with_reducible rfl
          rotate_left
          · simp only [Act.put, List.setIfInBounds_toArray, List.set_cons_zero, List.set_cons_succ, i64_w, i32_w]
            rfl
          refine pure_ (i := 29) (N := some 62) (v := ?_) (a' := ?_) #[true, true, true, true, true, true, true, true, true, true, true, true, true, true, true, true, true, true, true, true, true, true, true, true, false, false, false, false, false, true, false, false, false] rfl rfl (any_of HT_.out (by kernel_rfl)) (fun _ _ _ h => h) (Or.inl ⟨by rfl, ?_⟩) ?_ ?_
          rotate_left
          · intro w'
            go_simp
            with_reducible rfl
          rotate_left
          · simp only [Act.put, List.setIfInBounds_toArray, List.set_cons_zero, List.set_cons_succ, i64_w, i32_w]
            rfl
          refine take_ (i := 24) (N := some 57) (v := ?_) (a' := ?_) #[true, true, true, true, true, true, true, true, true, true, true, true, true, true, true, true, true, true, true, true, true, true, true, true, true, false, false, false, false, true, false, false, false] rfl rfl (take_ofW HT_.out HW_.out (by kernel_rfl)) (fun _ _ _ h => h) (Or.inl ⟨by rfl, ?_⟩) hHeld ?_ ?_
          rotate_left
          · rintro w' ⟨s0, s1, s2, s3, s4, s5, s6, s7, s8, s9⟩
            go_simp
            with_reducible rfl
          rotate_left
          · simp only [Act.put, List.setIfInBounds_toArray, List.set_cons_zero, List.set_cons_succ, i64_w, i32_w]
            rfl
          refine take_ (i := 25) (N := some 58) (v := ?_) (a' := ?_) #[true, true, true, true, true, true, true, true, true, true, true, true, true, true, true, true, true, true, true, true, true, true, true, true, true, true, false, false, false, true, false, false, false] rfl rfl (take_ofW HT_.out HW_.out (by kernel_rfl)) (fun _ _ _ h => h) (Or.inl ⟨by rfl, ?_⟩) hHeld ?_ ?_
          rotate_left
          · rintro w' ⟨s0, s1, s2, s3, s4, s5, s6, s7, s8, s9⟩
            go_simp
            with_reducible rfl
          rotate_left
          · simp only [Act.put, List.setIfInBounds_toArray, List.set_cons_zero, List.set_cons_succ, i64_w, i32_w]
            rfl
          refine take_ (i := 28) (N := some 61) (v := ?_) (a' := ?_) #[true, true, true, true, true, true, true, true, true, true, true, true, true, true, true, true, true, true, true, true, true, true, true, true, true, true, false, false, true, true, false, false, false] rfl rfl (take_ofW HT_.out HW_.out (by kernel_rfl)) (fun _ _ _ h => h) (Or.inl ⟨by rfl, ?_⟩) hHeld ?_ ?_
          rotate_left
          · rintro w' ⟨s0, s1, s2, s3, s4, s5, s6, s7, s8, s9⟩
            go_simp
            with_reducible rfl
          rotate_left
          · simp only [Act.put, List.setIfInBounds_toArray, List.set_cons_zero, List.set_cons_succ, i64_w, i32_w]
            rfl
          refine one_ (i := 26) (N := some 59) #[true, true, true, true, true, true, true, true, true, true, true, true, true, true, true, true, true, true, true, true, true, true, true, true, true, true, true, false, true, true, false, false, false] rfl rfl (one_of HT_.out (by kernel_rfl)) (by decide) (fun K hK => ?_)
          refine goes_ Tryd.func39 (by kernel_rfl) rfl #[.agg #[.int .u32 t579, .int .u32 t580, .int .u8 t581, .int .u16 t582, .int .u16 t583], .agg #[.int .u32 a0_0, .int .u32 a0_1, .int .u8 a0_2, .int .u16 a0_3, .int .u16 a0_4]] (by rfl) rfl rfl (by (try simp only [List.map_toArray, List.map_cons, List.map_nil]); first | done | rfl | (simp only [List.length_drop, List.length_take]; rfl)) ?_
          with_reducible refine (hdr_Compare.calls k t579 t580 t581 t582 t583 a0_0 a0_1 a0_2 a0_3 a0_4 t594 _ A36.out).mono ?_
          rintro e w45 ⟨rfl, hb⟩
          refine ⟨_, rfl, ?_⟩
          have n0_ := Aside0.mk (blk_below (g := gb572) (o := .cells #[.int .u32 a0_0, .int .u32 a0_1, .int .u8 a0_2, .int .u16 a0_3, .int .u16 a0_4] 67 (0, 0)) (by (with_reducible repeat (first | refine blk_drewN ?_ _ | refine blk_drew ?_ | refine blk_alloc ?_ _)); exact BK572.out) hb)
          have n1_ := Aside0.mk (blk_below (g := gb573) (o := .cells #[.int .u32 a1_0, .int .u32 a1_1, .int .u8 a1_2, .int .u16 a1_3, .int .u16 a1_4] 67 (0, 0)) (by (with_reducible repeat (first | refine blk_drewN ?_ _ | refine blk_drew ?_ | refine blk_alloc ?_ _)); exact BK573.out) hb)
          have n2_ := Aside0.mk (blk_below (g := gb574) (o := .cells #[.int .u32 a2_0, .int .u32 a2_1, .int .u8 a2_2, .int .u16 a2_3, .int .u16 a2_4] 67 (0, 0)) (by (with_reducible repeat (first | refine blk_drewN ?_ _ | refine blk_drew ?_ | refine blk_alloc ?_ _)); exact BK574.out) hb)
          have n3_ := Aside0.mk (blk_below (g := gb584) (o := .cells #[.int .u32 t579, .int .u32 t580, .int .u8 t581, .int .u16 t582, .int .u16 t583] 67 (0, 0)) (by (with_reducible repeat (first | refine blk_drewN ?_ _ | refine blk_drew ?_ | refine blk_alloc ?_ _)); exact BK584.out) hb)
          have n4_ := Aside0.mk (below_step (by repeat (first | (with_reducible first | exact HB.out | apply below_alloc | apply pw_below_drewN | apply below_drew1 | refine below_set ?_ GE572.out | refine below_set ?_ GE573.out | refine below_set ?_ GE574.out | refine below_set ?_ GE584.out) | exact HB.out)) hb)
          clear BK572
          clear BK573
          clear BK574
          clear BK584
          clear HB
          have BK572 := n0_
          have BK573 := n1_
          have BK574 := n2_
          have BK584 := n3_
          have HB := n4_
          clear n0_ n1_ n2_ n3_ n4_
          (try clear hb)
          (try clear hb2)
          (try clear hk)
          (try clear hi)
          refine hK.out _ _ ⟨(blk_cell BK584.out 0).trans rfl, (blk_cell BK584.out 1).trans rfl, (blk_cell BK584.out 2).trans rfl, (blk_cell BK584.out 3).trans rfl, (blk_cell BK584.out 4).trans rfl, (blk_cell BK572.out 0).trans rfl, (blk_cell BK572.out 1).trans rfl, (blk_cell BK572.out 2).trans rfl, (blk_cell BK572.out 3).trans rfl, (blk_cell BK572.out 4).trans rfl⟩ (fun hHeld => ?_)
          clear hK K
          refine norm_ (a' := ?_) ?_ ?_
          rotate_left
          · show Act.put _ (some 59) _ = _
            simp only [Act.put, List.setIfInBounds_toArray, List.set_cons_zero, List.set_cons_succ, i64_w, i32_w]
            rfl
          refine pure_ (i := 27) (N := some 60) (v := ?_) (a' := ?_) #[true, true, true, true, true, true, true, true, true, true, true, true, true, true, true, true, true, true, true, true, true, true, true, true, true, true, true, true, true, true, false, false, false] rfl rfl (any_of HT_.out (by kernel_rfl)) (fun _ _ _ h => h) (Or.inl ⟨by rfl, ?_⟩) ?_ ?_
          rotate_left
          · intro w'
            go_simp
            with_reducible rfl
          rotate_left
          · simp only [Act.put, List.setIfInBounds_toArray, List.set_cons_zero, List.set_cons_succ, i64_w, i32_w]
            rfl
          refine one_ (i := 30) (N := some 63) #[true, true, true, true, true, true, true, true, true, true, true, true, true, true, true, true, true, true, true, true, true, true, true, true, true, true, true, true, true, true, true, false, false] rfl rfl (one_of HT_.out (by kernel_rfl)) (by decide) (fun K hK => ?_)
          refine goes_ Tryd.func38 (by kernel_rfl) rfl #[.agg #[.int .u32 t579, .int .u32 t580, .int .u8 t581, .int .u16 t582, .int .u16 t583], .int .i64 (wrap64 (Int.tmod a3 104))] (by rfl) rfl rfl (by (try simp only [List.map_toArray, List.map_cons, List.map_nil]); first | done | rfl | (simp only [List.length_drop, List.length_take]; rfl)) ?_
          with_reducible refine (hdr_Bit.calls k t579 t580 t581 t582 t583 (wrap64 (Int.tmod a3 104)) t595 _ A37.out).mono ?_
          rintro e w46 ⟨rfl, hb⟩
          refine ⟨_, rfl, ?_⟩
          have n0_ := Aside0.mk (blk_below (g := gb572) (o := .cells #[.int .u32 a0_0, .int .u32 a0_1, .int .u8 a0_2, .int .u16 a0_3, .int .u16 a0_4] 67 (0, 0)) (by (with_reducible repeat (first | refine blk_drewN ?_ _ | refine blk_drew ?_ | refine blk_alloc ?_ _)); exact BK572.out) hb)
          have n1_ := Aside0.mk (blk_below (g := gb573) (o := .cells #[.int .u32 a1_0, .int .u32 a1_1, .int .u8 a1_2, .int .u16 a1_3, .int .u16 a1_4] 67 (0, 0)) (by (with_reducible repeat (first | refine blk_drewN ?_ _ | refine blk_drew ?_ | refine blk_alloc ?_ _)); exact BK573.out) hb)
          have n2_ := Aside0.mk (blk_below (g := gb574) (o := .cells #[.int .u32 a2_0, .int .u32 a2_1, .int .u8 a2_2, .int .u16 a2_3, .int .u16 a2_4] 67 (0, 0)) (by (with_reducible repeat (first | refine blk_drewN ?_ _ | refine blk_drew ?_ | refine blk_alloc ?_ _)); exact BK574.out) hb)
          have n3_ := Aside0.mk (blk_below (g := gb584) (o := .cells #[.int .u32 t579, .int .u32 t580, .int .u8 t581, .int .u16 t582, .int .u16 t583] 67 (0, 0)) (by (with_reducible repeat (first | refine blk_drewN ?_ _ | refine blk_drew ?_ | refine blk_alloc ?_ _)); exact BK584.out) hb)
          have n4_ := Aside0.mk (below_step (by repeat (first | (with_reducible first | exact HB.out | apply below_alloc | apply pw_below_drewN | apply below_drew1 | refine below_set ?_ GE572.out | refine below_set ?_ GE573.out | refine below_set ?_ GE574.out | refine below_set ?_ GE584.out) | exact HB.out)) hb)
          clear BK572
          clear BK573
          clear BK574
          clear BK584
          clear HB
          have BK572 := n0_
          have BK573 := n1_
          have BK574 := n2_
          have BK584 := n3_
          have HB := n4_
          clear n0_ n1_ n2_ n3_ n4_
          (try clear hb)
          (try clear hb2)
          (try clear hk)
          (try clear hi)
          refine hK.out _ _ ⟨(blk_cell BK584.out 0).trans rfl, (blk_cell BK584.out 1).trans rfl, (blk_cell BK584.out 2).trans rfl, (blk_cell BK584.out 3).trans rfl, (blk_cell BK584.out 4).trans rfl, (blk_cell BK572.out 0).trans rfl, (blk_cell BK572.out 1).trans rfl, (blk_cell BK572.out 2).trans rfl, (blk_cell BK572.out 3).trans rfl, (blk_cell BK572.out 4).trans rfl⟩ (fun hHeld => ?_)
          clear hK K
          refine norm_ (a' := ?_) ?_ ?_
          rotate_left
          · show Act.put _ (some 63) _ = _
            simp only [Act.put, List.setIfInBounds_toArray, List.set_cons_zero, List.set_cons_succ, i64_w, i32_w]
            rfl
          refine pure_ (i := 31) (N := some 64) (v := ?_) (a' := ?_) #[true, true, true, true, true, true, true, true, true, true, true, true, true, true, true, true, true, true, true, true, true, true, true, true, true, true, true, true, true, true, true, true, false] rfl rfl (any_of HT_.out (by kernel_rfl)) (fun _ _ _ h => h) (Or.inl ⟨by rfl, ?_⟩) ?_ ?_
          rotate_left
          · intro w'
            go_simp
            with_reducible rfl
          rotate_left
          · simp only [Act.put, List.setIfInBounds_toArray, List.set_cons_zero, List.set_cons_succ, i64_w, i32_w]
            rfl
          refine pure_ (i := 32) (N := some 65) (v := ?_) (a' := ?_) #[true, true, true, true, true, true, true, true, true, true, true, true, true, true, true, true, true, true, true, true, true, true, true, true, true, true, true, true, true, true, true, true, true] rfl rfl (any_of HT_.out (by kernel_rfl)) (fun _ _ _ h => h) (Or.inl ⟨by rfl, ?_⟩) ?_ ?_
          rotate_left
          · intro w'
            go_simp
            with_reducible rfl
          rotate_left
          · simp only [Act.put, List.setIfInBounds_toArray, List.set_cons_zero, List.set_cons_succ, i64_w, i32_w]
            rfl
          refine done_ (done_of HT_.out (by kernel_rfl)) ?_
          try go_wp2
          go_meet
          case rel => exact ⟨_, (((decide (t594 > 0)) != t595)), (by first | rfl | (simp; done) | (simp [*]; done)), H', ⟨by first | omega | exact Nat.le_refl _⟩, ⟨by (with_reducible repeat (first | refine blk_drewN ?_ _ | refine blk_drew ?_ | refine blk_alloc ?_ _)); exact BK572.out⟩, ⟨by (with_reducible repeat (first | refine blk_drewN ?_ _ | refine blk_drew ?_ | refine blk_alloc ?_ _)); exact BK573.out⟩, ⟨by (with_reducible repeat (first | refine blk_drewN ?_ _ | refine blk_drew ?_ | refine blk_alloc ?_ _)); exact BK574.out⟩, ⟨by (with_reducible repeat (first | refine blk_drewN ?_ _ | refine blk_drew ?_ | refine blk_alloc ?_ _)); exact BK584.out⟩, ⟨by repeat (first | (with_reducible first | exact HB.out | apply below_alloc | apply pw_below_drewN | apply below_drew1 | refine below_set ?_ GE572.out | refine below_set ?_ GE573.out | refine below_set ?_ GE574.out | refine below_set ?_ GE584.out) | exact HB.out)⟩⟩
  case rest =>
    clear HC10
    try clear p2
    try clear c3
    try clear c4
    try clear p6
    try clear c30
    try clear c30b0
    try clear c30b1
    try clear c30b2
    try clear c33
    try clear c33b0
    try clear c35
    try clear c35b0
    try clear c35b1
    try clear c38
    try clear c39
    try clear c41
    obtain ⟨kq, x65_9, rfl, HA, HJ9, BK572, BK573, BK574, BK584, HB⟩ := hcut
    cases kq with
    | zero => exact absurd HA.out (by simp [crossbucklaw02_HdrTurns.j0])
    | succ kj9 =>
      have H := HA.out
      clear HA
      simp only [crossbucklaw02_HdrTurns.j0] at H
      by_cases c47 : x65_9 = true
      · subst c47
        have H1 : (some false) = some r := by rw [if_pos rfl] at H; exact H
        clear H
        have H := H1
        clear H1
        exact absurd ((Option.some.inj H).trans hT.out) (by decide)
      · replace c47 := Bool.eq_false_iff.mpr c47
        subst c47
        have H1 : ((crossbucklaw02_awake.f kj9).bind fun t596 => (if t596 = true then ((hdr_Compare.f kj9 a1_0 a1_1 a1_2 a1_3 a1_4 a0_0 a0_1 a0_2 a0_3 a0_4).bind fun t597 => (if t597 = (wrap64 (-t575)) then (if ((t575 == 0) == (a0_0 == a1_0 && (a0_1 == a1_1 && (a0_2 == a1_2 && (a0_3 == a1_3 && (a0_4 == a1_4)))))) = true then (if t575 > 0 then (some true) else (if t576 > 0 then (some true) else (some (decide (t577 ≤ 0))))) else (some false)) else (some false))) else (some false))) = some r := by rw [if_neg (show ¬ (false = true) by decide)] at H; exact H
        clear H
        have H := H1
        clear H1
        replace H := Option.bind_eq_some_iff.mp H
        obtain ⟨t596, A480, H⟩ := H
        replace H : (if t596 = true then ((hdr_Compare.f kj9 a1_0 a1_1 a1_2 a1_3 a1_4 a0_0 a0_1 a0_2 a0_3 a0_4).bind fun t597 => (if t597 = (wrap64 (-t575)) then (if ((t575 == 0) == (a0_0 == a1_0 && (a0_1 == a1_1 && (a0_2 == a1_2 && (a0_3 == a1_3 && (a0_4 == a1_4)))))) = true then (if t575 > 0 then (some true) else (if t576 > 0 then (some true) else (some (decide (t577 ≤ 0))))) else (some false)) else (some false))) else (some false)) = some r := H
        have A48 := Aside0.mk A480
        clear A480
        by_cases c49 : t596 = true
        · subst c49
          have H1 : ((hdr_Compare.f kj9 a1_0 a1_1 a1_2 a1_3 a1_4 a0_0 a0_1 a0_2 a0_3 a0_4).bind fun t597 => (if t597 = (wrap64 (-t575)) then (if ((t575 == 0) == (a0_0 == a1_0 && (a0_1 == a1_1 && (a0_2 == a1_2 && (a0_3 == a1_3 && (a0_4 == a1_4)))))) = true then (if t575 > 0 then (some true) else (if t576 > 0 then (some true) else (some (decide (t577 ≤ 0))))) else (some false)) else (some false))) = some r := by rw [if_pos rfl] at H; exact H
          clear H
          have H := H1
          clear H1
          replace H := Option.bind_eq_some_iff.mp H
          obtain ⟨t597, A500, H⟩ := H
          replace H : (if t597 = (wrap64 (-t575)) then (if ((t575 == 0) == (a0_0 == a1_0 && (a0_1 == a1_1 && (a0_2 == a1_2 && (a0_3 == a1_3 && (a0_4 == a1_4)))))) = true then (if t575 > 0 then (some true) else (if t576 > 0 then (some true) else (some (decide (t577 ≤ 0))))) else (some false)) else (some false)) = some r := H
          have A50 := Aside0.mk A500
          clear A500
          by_cases c51 : t597 = (wrap64 (-t575))
          · rw [if_pos c51] at H
            have c51b0 : (t597 == (wrap64 (-t575))) = true := beq_iff_eq.mpr c51
            have c51b1 : (t597 != (wrap64 (-t575))) = false := bne_eq_false_iff_eq.mpr c51
            clear c51
            by_cases c52 : ((t575 == 0) == (a0_0 == a1_0 && (a0_1 == a1_1 && (a0_2 == a1_2 && (a0_3 == a1_3 && (a0_4 == a1_4)))))) = true
            · rw [if_pos c52] at H
              have c52b0 : ((t575 == 0) == (a0_0 == a1_0 && (a0_1 == a1_1 && (a0_2 == a1_2 && (a0_3 == a1_3 && (a0_4 == a1_4)))))) = true := c52
              (try (have c52b1 : decide ((t575 == 0) = (a0_0 == a1_0 && (a0_1 == a1_1 && (a0_2 == a1_2 && (a0_3 == a1_3 && (a0_4 == a1_4)))))) = true := by simpa using c52))
              (try (have c52b2 : ((t575 == 0) == (a0_0 == a1_0 && (a0_1 == a1_1 && (a0_2 == a1_2 && (a0_3 == a1_3 && (a0_4 == a1_4)))))) = true := by simpa using c52))
              clear c52
              by_cases c53 : t575 > 0
              · rw [if_pos c53] at H
                have c53b0 : decide (0 < t575) = true := decide_eq_true c53
                clear c53
                obtain rfl := Option.some.inj H
                go_wp2_with (first | ((with_reducible refine gate_callee (f := 31) rfl ?_); refine goesL_ (some 66) rfl rfl Tryd.func31 (by kernel_rfl) rfl #[] rfl (by (try simp only [List.map_toArray, List.map_cons, List.map_nil]); first | done | rfl | (simp only [List.length_drop, List.length_take]; rfl)) ?_; (with_reducible refine (crossbucklaw02_awake.calls kj9  true _ (Hand.Good.below false true hGG.out (by repeat (first | (with_reducible first | exact HB.out | apply below_alloc | apply pw_below_drewN | apply below_drew1 | refine below_set ?_ GE572.out | refine below_set ?_ GE573.out | refine below_set ?_ GE574.out | refine below_set ?_ GE584.out) | exact HB.out)) rfl rfl) A48.out).mono ?_); rintro e w54 ⟨rfl, hb⟩; refine ⟨_, rfl, ?_⟩; have n0_ := Aside0.mk (blk_below (g := gb572) (o := .cells #[.int .u32 a0_0, .int .u32 a0_1, .int .u8 a0_2, .int .u16 a0_3, .int .u16 a0_4] 67 (0, 0)) (by (with_reducible repeat (first | refine blk_drewN ?_ _ | refine blk_drew ?_ | refine blk_alloc ?_ _)); exact BK572.out) hb); have n1_ := Aside0.mk (blk_below (g := gb573) (o := .cells #[.int .u32 a1_0, .int .u32 a1_1, .int .u8 a1_2, .int .u16 a1_3, .int .u16 a1_4] 67 (0, 0)) (by (with_reducible repeat (first | refine blk_drewN ?_ _ | refine blk_drew ?_ | refine blk_alloc ?_ _)); exact BK573.out) hb); have n2_ := Aside0.mk (blk_below (g := gb574) (o := .cells #[.int .u32 a2_0, .int .u32 a2_1, .int .u8 a2_2, .int .u16 a2_3, .int .u16 a2_4] 67 (0, 0)) (by (with_reducible repeat (first | refine blk_drewN ?_ _ | refine blk_drew ?_ | refine blk_alloc ?_ _)); exact BK574.out) hb); have n3_ := Aside0.mk (blk_below (g := gb584) (o := .cells #[.int .u32 t579, .int .u32 t580, .int .u8 t581, .int .u16 t582, .int .u16 t583] 67 (0, 0)) (by (with_reducible repeat (first | refine blk_drewN ?_ _ | refine blk_drew ?_ | refine blk_alloc ?_ _)); exact BK584.out) hb); have n4_ := Aside0.mk (below_step (by repeat (first | (with_reducible first | exact HB.out | apply below_alloc | apply pw_below_drewN | apply below_drew1 | refine below_set ?_ GE572.out | refine below_set ?_ GE573.out | refine below_set ?_ GE574.out | refine below_set ?_ GE584.out) | exact HB.out)) hb); clear BK572; clear BK573; clear BK574; clear BK584; clear HB; have BK572 := n0_; have BK573 := n1_; have BK574 := n2_; have BK584 := n3_; have HB := n4_; clear n0_ n1_ n2_ n3_ n4_; (try clear hb); (try clear hb2); (try clear hk); (try clear hi); have hnb55 := NB573_572.out; have hnc55 := NB572_573.out; have hnb56 := NB573_574.out; have hnc56 := NB574_573.out; have hnb57 := NB573_584.out; have hnc57 := NB584_573.out; have hcz58_0 : w54.cell? ⟨gb573, 0, none⟩ = some (.int .u32 a1_0) := (blk_cell BK573.out 0).trans rfl; have hcz58_1 : w54.cell? ⟨gb573, 1, none⟩ = some (.int .u32 a1_1) := (blk_cell BK573.out 1).trans rfl; have hcz58_2 : w54.cell? ⟨gb573, 2, none⟩ = some (.int .u8 a1_2) := (blk_cell BK573.out 2).trans rfl; have hcz58_3 : w54.cell? ⟨gb573, 3, none⟩ = some (.int .u16 a1_3) := (blk_cell BK573.out 3).trans rfl; have hcz58_4 : w54.cell? ⟨gb573, 4, none⟩ = some (.int .u16 a1_4) := (blk_cell BK573.out 4).trans rfl; have hfz58_0 := blk_frozen BK573.out 0; have hfz58_1 := blk_frozen BK573.out 1; have hfz58_2 := blk_frozen BK573.out 2; have hfz58_3 := blk_frozen BK573.out 3; have hfz58_4 := blk_frozen BK573.out 4; have hnb59 := NB572_574.out; have hnc59 := NB574_572.out; have hnb60 := NB572_584.out; have hnc60 := NB584_572.out; have hcz61_0 : w54.cell? ⟨gb572, 0, none⟩ = some (.int .u32 a0_0) := (blk_cell BK572.out 0).trans rfl; have hcz61_1 : w54.cell? ⟨gb572, 1, none⟩ = some (.int .u32 a0_1) := (blk_cell BK572.out 1).trans rfl; have hcz61_2 : w54.cell? ⟨gb572, 2, none⟩ = some (.int .u8 a0_2) := (blk_cell BK572.out 2).trans rfl; have hcz61_3 : w54.cell? ⟨gb572, 3, none⟩ = some (.int .u16 a0_3) := (blk_cell BK572.out 3).trans rfl; have hcz61_4 : w54.cell? ⟨gb572, 4, none⟩ = some (.int .u16 a0_4) := (blk_cell BK572.out 4).trans rfl; have hfz61_0 := blk_frozen BK572.out 0; have hfz61_1 := blk_frozen BK572.out 1; have hfz61_2 := blk_frozen BK572.out 2; have hfz61_3 := blk_frozen BK572.out 3; have hfz61_4 := blk_frozen BK572.out 4) | (go_at_call 39; (with_reducible refine (hdr_Compare.calls kj9 a1_0 a1_1 a1_2 a1_3 a1_4 a0_0 a0_1 a0_2 a0_3 a0_4 t597 _ A50.out).mono ?_); rintro e w62 ⟨rfl, hb⟩; have n0_ := Aside0.mk (blk_below (g := gb572) (o := .cells #[.int .u32 a0_0, .int .u32 a0_1, .int .u8 a0_2, .int .u16 a0_3, .int .u16 a0_4] 67 (0, 0)) (by (with_reducible repeat (first | refine blk_drewN ?_ _ | refine blk_drew ?_ | refine blk_alloc ?_ _)); exact BK572.out) hb); have n1_ := Aside0.mk (blk_below (g := gb573) (o := .cells #[.int .u32 a1_0, .int .u32 a1_1, .int .u8 a1_2, .int .u16 a1_3, .int .u16 a1_4] 67 (0, 0)) (by (with_reducible repeat (first | refine blk_drewN ?_ _ | refine blk_drew ?_ | refine blk_alloc ?_ _)); exact BK573.out) hb); have n2_ := Aside0.mk (blk_below (g := gb574) (o := .cells #[.int .u32 a2_0, .int .u32 a2_1, .int .u8 a2_2, .int .u16 a2_3, .int .u16 a2_4] 67 (0, 0)) (by (with_reducible repeat (first | refine blk_drewN ?_ _ | refine blk_drew ?_ | refine blk_alloc ?_ _)); exact BK574.out) hb); have n3_ := Aside0.mk (blk_below (g := gb584) (o := .cells #[.int .u32 t579, .int .u32 t580, .int .u8 t581, .int .u16 t582, .int .u16 t583] 67 (0, 0)) (by (with_reducible repeat (first | refine blk_drewN ?_ _ | refine blk_drew ?_ | refine blk_alloc ?_ _)); exact BK584.out) hb); have n4_ := Aside0.mk (below_step (by repeat (first | (with_reducible first | exact HB.out | apply below_alloc | apply pw_below_drewN | apply below_drew1 | refine below_set ?_ GE572.out | refine below_set ?_ GE573.out | refine below_set ?_ GE574.out | refine below_set ?_ GE584.out) | exact HB.out)) hb); clear BK572; clear BK573; clear BK574; clear BK584; clear HB; have BK572 := n0_; have BK573 := n1_; have BK574 := n2_; have BK584 := n3_; have HB := n4_; clear n0_ n1_ n2_ n3_ n4_; (try clear hb); (try clear hb2); (try clear hk); (try clear hi); have hcz63_0 : w62.cell? ⟨gb572, 0, none⟩ = some (.int .u32 a0_0) := (blk_cell BK572.out 0).trans rfl; have hcz63_1 : w62.cell? ⟨gb572, 1, none⟩ = some (.int .u32 a0_1) := (blk_cell BK572.out 1).trans rfl; have hcz63_2 : w62.cell? ⟨gb572, 2, none⟩ = some (.int .u8 a0_2) := (blk_cell BK572.out 2).trans rfl; have hcz63_3 : w62.cell? ⟨gb572, 3, none⟩ = some (.int .u16 a0_3) := (blk_cell BK572.out 3).trans rfl; have hcz63_4 : w62.cell? ⟨gb572, 4, none⟩ = some (.int .u16 a0_4) := (blk_cell BK572.out 4).trans rfl; have hfz63_0 := blk_frozen BK572.out 0; have hfz63_1 := blk_frozen BK572.out 1; have hfz63_2 := blk_frozen BK572.out 2; have hfz63_3 := blk_frozen BK572.out 3; have hfz63_4 := blk_frozen BK572.out 4; have hcz64_0 : w62.cell? ⟨gb573, 0, none⟩ = some (.int .u32 a1_0) := (blk_cell BK573.out 0).trans rfl; have hcz64_1 : w62.cell? ⟨gb573, 1, none⟩ = some (.int .u32 a1_1) := (blk_cell BK573.out 1).trans rfl; have hcz64_2 : w62.cell? ⟨gb573, 2, none⟩ = some (.int .u8 a1_2) := (blk_cell BK573.out 2).trans rfl; have hcz64_3 : w62.cell? ⟨gb573, 3, none⟩ = some (.int .u16 a1_3) := (blk_cell BK573.out 3).trans rfl; have hcz64_4 : w62.cell? ⟨gb573, 4, none⟩ = some (.int .u16 a1_4) := (blk_cell BK573.out 4).trans rfl; have hfz64_0 := blk_frozen BK573.out 0; have hfz64_1 := blk_frozen BK573.out 1; have hfz64_2 := blk_frozen BK573.out 2; have hfz64_3 := blk_frozen BK573.out 3; have hfz64_4 := blk_frozen BK573.out 4))
                go_ret
                exact ⟨by first | rfl | (simp [errW_none, errW_some] <;> rfl) | (simp [*, errW_none, errW_some] <;> rfl), by repeat (first | (with_reducible first | exact HB.out | apply below_alloc | apply pw_below_drewN | apply below_drew1 | refine below_set ?_ GE572.out | refine below_set ?_ GE573.out | refine below_set ?_ GE574.out | refine below_set ?_ GE584.out) | exact HB.out)⟩
              · rw [if_neg c53] at H
                have c53b0 : decide (0 < t575) = false := decide_eq_false c53
                clear c53
                by_cases c65 : t576 > 0
                · rw [if_pos c65] at H
                  have c65b0 : decide (0 < t576) = true := decide_eq_true c65
                  clear c65
                  obtain rfl := Option.some.inj H
                  go_wp2_with (first | ((with_reducible refine gate_callee (f := 31) rfl ?_); refine goesL_ (some 66) rfl rfl Tryd.func31 (by kernel_rfl) rfl #[] rfl (by (try simp only [List.map_toArray, List.map_cons, List.map_nil]); first | done | rfl | (simp only [List.length_drop, List.length_take]; rfl)) ?_; (with_reducible refine (crossbucklaw02_awake.calls kj9  true _ (Hand.Good.below false true hGG.out (by repeat (first | (with_reducible first | exact HB.out | apply below_alloc | apply pw_below_drewN | apply below_drew1 | refine below_set ?_ GE572.out | refine below_set ?_ GE573.out | refine below_set ?_ GE574.out | refine below_set ?_ GE584.out) | exact HB.out)) rfl rfl) A48.out).mono ?_); rintro e w66 ⟨rfl, hb⟩; refine ⟨_, rfl, ?_⟩; have n0_ := Aside0.mk (blk_below (g := gb572) (o := .cells #[.int .u32 a0_0, .int .u32 a0_1, .int .u8 a0_2, .int .u16 a0_3, .int .u16 a0_4] 67 (0, 0)) (by (with_reducible repeat (first | refine blk_drewN ?_ _ | refine blk_drew ?_ | refine blk_alloc ?_ _)); exact BK572.out) hb); have n1_ := Aside0.mk (blk_below (g := gb573) (o := .cells #[.int .u32 a1_0, .int .u32 a1_1, .int .u8 a1_2, .int .u16 a1_3, .int .u16 a1_4] 67 (0, 0)) (by (with_reducible repeat (first | refine blk_drewN ?_ _ | refine blk_drew ?_ | refine blk_alloc ?_ _)); exact BK573.out) hb); have n2_ := Aside0.mk (blk_below (g := gb574) (o := .cells #[.int .u32 a2_0, .int .u32 a2_1, .int .u8 a2_2, .int .u16 a2_3, .int .u16 a2_4] 67 (0, 0)) (by (with_reducible repeat (first | refine blk_drewN ?_ _ | refine blk_drew ?_ | refine blk_alloc ?_ _)); exact BK574.out) hb); have n3_ := Aside0.mk (blk_below (g := gb584) (o := .cells #[.int .u32 t579, .int .u32 t580, .int .u8 t581, .int .u16 t582, .int .u16 t583] 67 (0, 0)) (by (with_reducible repeat (first | refine blk_drewN ?_ _ | refine blk_drew ?_ | refine blk_alloc ?_ _)); exact BK584.out) hb); have n4_ := Aside0.mk (below_step (by repeat (first | (with_reducible first | exact HB.out | apply below_alloc | apply pw_below_drewN | apply below_drew1 | refine below_set ?_ GE572.out | refine below_set ?_ GE573.out | refine below_set ?_ GE574.out | refine below_set ?_ GE584.out) | exact HB.out)) hb); clear BK572; clear BK573; clear BK574; clear BK584; clear HB; have BK572 := n0_; have BK573 := n1_; have BK574 := n2_; have BK584 := n3_; have HB := n4_; clear n0_ n1_ n2_ n3_ n4_; (try clear hb); (try clear hb2); (try clear hk); (try clear hi); have hnb67 := NB573_572.out; have hnc67 := NB572_573.out; have hnb68 := NB573_574.out; have hnc68 := NB574_573.out; have hnb69 := NB573_584.out; have hnc69 := NB584_573.out; have hcz70_0 : w66.cell? ⟨gb573, 0, none⟩ = some (.int .u32 a1_0) := (blk_cell BK573.out 0).trans rfl; have hcz70_1 : w66.cell? ⟨gb573, 1, none⟩ = some (.int .u32 a1_1) := (blk_cell BK573.out 1).trans rfl; have hcz70_2 : w66.cell? ⟨gb573, 2, none⟩ = some (.int .u8 a1_2) := (blk_cell BK573.out 2).trans rfl; have hcz70_3 : w66.cell? ⟨gb573, 3, none⟩ = some (.int .u16 a1_3) := (blk_cell BK573.out 3).trans rfl; have hcz70_4 : w66.cell? ⟨gb573, 4, none⟩ = some (.int .u16 a1_4) := (blk_cell BK573.out 4).trans rfl; have hfz70_0 := blk_frozen BK573.out 0; have hfz70_1 := blk_frozen BK573.out 1; have hfz70_2 := blk_frozen BK573.out 2; have hfz70_3 := blk_frozen BK573.out 3; have hfz70_4 := blk_frozen BK573.out 4; have hnb71 := NB572_574.out; have hnc71 := NB574_572.out; have hnb72 := NB572_584.out; have hnc72 := NB584_572.out; have hcz73_0 : w66.cell? ⟨gb572, 0, none⟩ = some (.int .u32 a0_0) := (blk_cell BK572.out 0).trans rfl; have hcz73_1 : w66.cell? ⟨gb572, 1, none⟩ = some (.int .u32 a0_1) := (blk_cell BK572.out 1).trans rfl; have hcz73_2 : w66.cell? ⟨gb572, 2, none⟩ = some (.int .u8 a0_2) := (blk_cell BK572.out 2).trans rfl; have hcz73_3 : w66.cell? ⟨gb572, 3, none⟩ = some (.int .u16 a0_3) := (blk_cell BK572.out 3).trans rfl; have hcz73_4 : w66.cell? ⟨gb572, 4, none⟩ = some (.int .u16 a0_4) := (blk_cell BK572.out 4).trans rfl; have hfz73_0 := blk_frozen BK572.out 0; have hfz73_1 := blk_frozen BK572.out 1; have hfz73_2 := blk_frozen BK572.out 2; have hfz73_3 := blk_frozen BK572.out 3; have hfz73_4 := blk_frozen BK572.out 4) | (go_at_call 39; (with_reducible refine (hdr_Compare.calls kj9 a1_0 a1_1 a1_2 a1_3 a1_4 a0_0 a0_1 a0_2 a0_3 a0_4 t597 _ A50.out).mono ?_); rintro e w74 ⟨rfl, hb⟩; have n0_ := Aside0.mk (blk_below (g := gb572) (o := .cells #[.int .u32 a0_0, .int .u32 a0_1, .int .u8 a0_2, .int .u16 a0_3, .int .u16 a0_4] 67 (0, 0)) (by (with_reducible repeat (first | refine blk_drewN ?_ _ | refine blk_drew ?_ | refine blk_alloc ?_ _)); exact BK572.out) hb); have n1_ := Aside0.mk (blk_below (g := gb573) (o := .cells #[.int .u32 a1_0, .int .u32 a1_1, .int .u8 a1_2, .int .u16 a1_3, .int .u16 a1_4] 67 (0, 0)) (by (with_reducible repeat (first | refine blk_drewN ?_ _ | refine blk_drew ?_ | refine blk_alloc ?_ _)); exact BK573.out) hb); have n2_ := Aside0.mk (blk_below (g := gb574) (o := .cells #[.int .u32 a2_0, .int .u32 a2_1, .int .u8 a2_2, .int .u16 a2_3, .int .u16 a2_4] 67 (0, 0)) (by (with_reducible repeat (first | refine blk_drewN ?_ _ | refine blk_drew ?_ | refine blk_alloc ?_ _)); exact BK574.out) hb); have n3_ := Aside0.mk (blk_below (g := gb584) (o := .cells #[.int .u32 t579, .int .u32 t580, .int .u8 t581, .int .u16 t582, .int .u16 t583] 67 (0, 0)) (by (with_reducible repeat (first | refine blk_drewN ?_ _ | refine blk_drew ?_ | refine blk_alloc ?_ _)); exact BK584.out) hb); have n4_ := Aside0.mk (below_step (by repeat (first | (with_reducible first | exact HB.out | apply below_alloc | apply pw_below_drewN | apply below_drew1 | refine below_set ?_ GE572.out | refine below_set ?_ GE573.out | refine below_set ?_ GE574.out | refine below_set ?_ GE584.out) | exact HB.out)) hb); clear BK572; clear BK573; clear BK574; clear BK584; clear HB; have BK572 := n0_; have BK573 := n1_; have BK574 := n2_; have BK584 := n3_; have HB := n4_; clear n0_ n1_ n2_ n3_ n4_; (try clear hb); (try clear hb2); (try clear hk); (try clear hi); have hcz75_0 : w74.cell? ⟨gb572, 0, none⟩ = some (.int .u32 a0_0) := (blk_cell BK572.out 0).trans rfl; have hcz75_1 : w74.cell? ⟨gb572, 1, none⟩ = some (.int .u32 a0_1) := (blk_cell BK572.out 1).trans rfl; have hcz75_2 : w74.cell? ⟨gb572, 2, none⟩ = some (.int .u8 a0_2) := (blk_cell BK572.out 2).trans rfl; have hcz75_3 : w74.cell? ⟨gb572, 3, none⟩ = some (.int .u16 a0_3) := (blk_cell BK572.out 3).trans rfl; have hcz75_4 : w74.cell? ⟨gb572, 4, none⟩ = some (.int .u16 a0_4) := (blk_cell BK572.out 4).trans rfl; have hfz75_0 := blk_frozen BK572.out 0; have hfz75_1 := blk_frozen BK572.out 1; have hfz75_2 := blk_frozen BK572.out 2; have hfz75_3 := blk_frozen BK572.out 3; have hfz75_4 := blk_frozen BK572.out 4; have hcz76_0 : w74.cell? ⟨gb573, 0, none⟩ = some (.int .u32 a1_0) := (blk_cell BK573.out 0).trans rfl; have hcz76_1 : w74.cell? ⟨gb573, 1, none⟩ = some (.int .u32 a1_1) := (blk_cell BK573.out 1).trans rfl; have hcz76_2 : w74.cell? ⟨gb573, 2, none⟩ = some (.int .u8 a1_2) := (blk_cell BK573.out 2).trans rfl; have hcz76_3 : w74.cell? ⟨gb573, 3, none⟩ = some (.int .u16 a1_3) := (blk_cell BK573.out 3).trans rfl; have hcz76_4 : w74.cell? ⟨gb573, 4, none⟩ = some (.int .u16 a1_4) := (blk_cell BK573.out 4).trans rfl; have hfz76_0 := blk_frozen BK573.out 0; have hfz76_1 := blk_frozen BK573.out 1; have hfz76_2 := blk_frozen BK573.out 2; have hfz76_3 := blk_frozen BK573.out 3; have hfz76_4 := blk_frozen BK573.out 4))
                  go_ret
                  exact ⟨by first | rfl | (simp [errW_none, errW_some] <;> rfl) | (simp [*, errW_none, errW_some] <;> rfl), by repeat (first | (with_reducible first | exact HB.out | apply below_alloc | apply pw_below_drewN | apply below_drew1 | refine below_set ?_ GE572.out | refine below_set ?_ GE573.out | refine below_set ?_ GE574.out | refine below_set ?_ GE584.out) | exact HB.out)⟩
                · rw [if_neg c65] at H
                  have c65b0 : decide (0 < t576) = false := decide_eq_false c65
                  clear c65
                  obtain rfl := Option.some.inj H
                  go_wp2_with (first | ((with_reducible refine gate_callee (f := 31) rfl ?_); refine goesL_ (some 66) rfl rfl Tryd.func31 (by kernel_rfl) rfl #[] rfl (by (try simp only [List.map_toArray, List.map_cons, List.map_nil]); first | done | rfl | (simp only [List.length_drop, List.length_take]; rfl)) ?_; (with_reducible refine (crossbucklaw02_awake.calls kj9  true _ (Hand.Good.below false true hGG.out (by repeat (first | (with_reducible first | exact HB.out | apply below_alloc | apply pw_below_drewN | apply below_drew1 | refine below_set ?_ GE572.out | refine below_set ?_ GE573.out | refine below_set ?_ GE574.out | refine below_set ?_ GE584.out) | exact HB.out)) rfl rfl) A48.out).mono ?_); rintro e w77 ⟨rfl, hb⟩; refine ⟨_, rfl, ?_⟩; have n0_ := Aside0.mk (blk_below (g := gb572) (o := .cells #[.int .u32 a0_0, .int .u32 a0_1, .int .u8 a0_2, .int .u16 a0_3, .int .u16 a0_4] 67 (0, 0)) (by (with_reducible repeat (first | refine blk_drewN ?_ _ | refine blk_drew ?_ | refine blk_alloc ?_ _)); exact BK572.out) hb); have n1_ := Aside0.mk (blk_below (g := gb573) (o := .cells #[.int .u32 a1_0, .int .u32 a1_1, .int .u8 a1_2, .int .u16 a1_3, .int .u16 a1_4] 67 (0, 0)) (by (with_reducible repeat (first | refine blk_drewN ?_ _ | refine blk_drew ?_ | refine blk_alloc ?_ _)); exact BK573.out) hb); have n2_ := Aside0.mk (blk_below (g := gb574) (o := .cells #[.int .u32 a2_0, .int .u32 a2_1, .int .u8 a2_2, .int .u16 a2_3, .int .u16 a2_4] 67 (0, 0)) (by (with_reducible repeat (first | refine blk_drewN ?_ _ | refine blk_drew ?_ | refine blk_alloc ?_ _)); exact BK574.out) hb); have n3_ := Aside0.mk (blk_below (g := gb584) (o := .cells #[.int .u32 t579, .int .u32 t580, .int .u8 t581, .int .u16 t582, .int .u16 t583] 67 (0, 0)) (by (with_reducible repeat (first | refine blk_drewN ?_ _ | refine blk_drew ?_ | refine blk_alloc ?_ _)); exact BK584.out) hb); have n4_ := Aside0.mk (below_step (by repeat (first | (with_reducible first | exact HB.out | apply below_alloc | apply pw_below_drewN | apply below_drew1 | refine below_set ?_ GE572.out | refine below_set ?_ GE573.out | refine below_set ?_ GE574.out | refine below_set ?_ GE584.out) | exact HB.out)) hb); clear BK572; clear BK573; clear BK574; clear BK584; clear HB; have BK572 := n0_; have BK573 := n1_; have BK574 := n2_; have BK584 := n3_; have HB := n4_; clear n0_ n1_ n2_ n3_ n4_; (try clear hb); (try clear hb2); (try clear hk); (try clear hi); have hnb78 := NB573_572.out; have hnc78 := NB572_573.out; have hnb79 := NB573_574.out; have hnc79 := NB574_573.out; have hnb80 := NB573_584.out; have hnc80 := NB584_573.out; have hcz81_0 : w77.cell? ⟨gb573, 0, none⟩ = some (.int .u32 a1_0) := (blk_cell BK573.out 0).trans rfl; have hcz81_1 : w77.cell? ⟨gb573, 1, none⟩ = some (.int .u32 a1_1) := (blk_cell BK573.out 1).trans rfl; have hcz81_2 : w77.cell? ⟨gb573, 2, none⟩ = some (.int .u8 a1_2) := (blk_cell BK573.out 2).trans rfl; have hcz81_3 : w77.cell? ⟨gb573, 3, none⟩ = some (.int .u16 a1_3) := (blk_cell BK573.out 3).trans rfl; have hcz81_4 : w77.cell? ⟨gb573, 4, none⟩ = some (.int .u16 a1_4) := (blk_cell BK573.out 4).trans rfl; have hfz81_0 := blk_frozen BK573.out 0; have hfz81_1 := blk_frozen BK573.out 1; have hfz81_2 := blk_frozen BK573.out 2; have hfz81_3 := blk_frozen BK573.out 3; have hfz81_4 := blk_frozen BK573.out 4; have hnb82 := NB572_574.out; have hnc82 := NB574_572.out; have hnb83 := NB572_584.out; have hnc83 := NB584_572.out; have hcz84_0 : w77.cell? ⟨gb572, 0, none⟩ = some (.int .u32 a0_0) := (blk_cell BK572.out 0).trans rfl; have hcz84_1 : w77.cell? ⟨gb572, 1, none⟩ = some (.int .u32 a0_1) := (blk_cell BK572.out 1).trans rfl; have hcz84_2 : w77.cell? ⟨gb572, 2, none⟩ = some (.int .u8 a0_2) := (blk_cell BK572.out 2).trans rfl; have hcz84_3 : w77.cell? ⟨gb572, 3, none⟩ = some (.int .u16 a0_3) := (blk_cell BK572.out 3).trans rfl; have hcz84_4 : w77.cell? ⟨gb572, 4, none⟩ = some (.int .u16 a0_4) := (blk_cell BK572.out 4).trans rfl; have hfz84_0 := blk_frozen BK572.out 0; have hfz84_1 := blk_frozen BK572.out 1; have hfz84_2 := blk_frozen BK572.out 2; have hfz84_3 := blk_frozen BK572.out 3; have hfz84_4 := blk_frozen BK572.out 4) | (go_at_call 39; (with_reducible refine (hdr_Compare.calls kj9 a1_0 a1_1 a1_2 a1_3 a1_4 a0_0 a0_1 a0_2 a0_3 a0_4 t597 _ A50.out).mono ?_); rintro e w85 ⟨rfl, hb⟩; have n0_ := Aside0.mk (blk_below (g := gb572) (o := .cells #[.int .u32 a0_0, .int .u32 a0_1, .int .u8 a0_2, .int .u16 a0_3, .int .u16 a0_4] 67 (0, 0)) (by (with_reducible repeat (first | refine blk_drewN ?_ _ | refine blk_drew ?_ | refine blk_alloc ?_ _)); exact BK572.out) hb); have n1_ := Aside0.mk (blk_below (g := gb573) (o := .cells #[.int .u32 a1_0, .int .u32 a1_1, .int .u8 a1_2, .int .u16 a1_3, .int .u16 a1_4] 67 (0, 0)) (by (with_reducible repeat (first | refine blk_drewN ?_ _ | refine blk_drew ?_ | refine blk_alloc ?_ _)); exact BK573.out) hb); have n2_ := Aside0.mk (blk_below (g := gb574) (o := .cells #[.int .u32 a2_0, .int .u32 a2_1, .int .u8 a2_2, .int .u16 a2_3, .int .u16 a2_4] 67 (0, 0)) (by (with_reducible repeat (first | refine blk_drewN ?_ _ | refine blk_drew ?_ | refine blk_alloc ?_ _)); exact BK574.out) hb); have n3_ := Aside0.mk (blk_below (g := gb584) (o := .cells #[.int .u32 t579, .int .u32 t580, .int .u8 t581, .int .u16 t582, .int .u16 t583] 67 (0, 0)) (by (with_reducible repeat (first | refine blk_drewN ?_ _ | refine blk_drew ?_ | refine blk_alloc ?_ _)); exact BK584.out) hb); have n4_ := Aside0.mk (below_step (by repeat (first | (with_reducible first | exact HB.out | apply below_alloc | apply pw_below_drewN | apply below_drew1 | refine below_set ?_ GE572.out | refine below_set ?_ GE573.out | refine below_set ?_ GE574.out | refine below_set ?_ GE584.out) | exact HB.out)) hb); clear BK572; clear BK573; clear BK574; clear BK584; clear HB; have BK572 := n0_; have BK573 := n1_; have BK574 := n2_; have BK584 := n3_; have HB := n4_; clear n0_ n1_ n2_ n3_ n4_; (try clear hb); (try clear hb2); (try clear hk); (try clear hi); have hcz86_0 : w85.cell? ⟨gb572, 0, none⟩ = some (.int .u32 a0_0) := (blk_cell BK572.out 0).trans rfl; have hcz86_1 : w85.cell? ⟨gb572, 1, none⟩ = some (.int .u32 a0_1) := (blk_cell BK572.out 1).trans rfl; have hcz86_2 : w85.cell? ⟨gb572, 2, none⟩ = some (.int .u8 a0_2) := (blk_cell BK572.out 2).trans rfl; have hcz86_3 : w85.cell? ⟨gb572, 3, none⟩ = some (.int .u16 a0_3) := (blk_cell BK572.out 3).trans rfl; have hcz86_4 : w85.cell? ⟨gb572, 4, none⟩ = some (.int .u16 a0_4) := (blk_cell BK572.out 4).trans rfl; have hfz86_0 := blk_frozen BK572.out 0; have hfz86_1 := blk_frozen BK572.out 1; have hfz86_2 := blk_frozen BK572.out 2; have hfz86_3 := blk_frozen BK572.out 3; have hfz86_4 := blk_frozen BK572.out 4; have hcz87_0 : w85.cell? ⟨gb573, 0, none⟩ = some (.int .u32 a1_0) := (blk_cell BK573.out 0).trans rfl; have hcz87_1 : w85.cell? ⟨gb573, 1, none⟩ = some (.int .u32 a1_1) := (blk_cell BK573.out 1).trans rfl; have hcz87_2 : w85.cell? ⟨gb573, 2, none⟩ = some (.int .u8 a1_2) := (blk_cell BK573.out 2).trans rfl; have hcz87_3 : w85.cell? ⟨gb573, 3, none⟩ = some (.int .u16 a1_3) := (blk_cell BK573.out 3).trans rfl; have hcz87_4 : w85.cell? ⟨gb573, 4, none⟩ = some (.int .u16 a1_4) := (blk_cell BK573.out 4).trans rfl; have hfz87_0 := blk_frozen BK573.out 0; have hfz87_1 := blk_frozen BK573.out 1; have hfz87_2 := blk_frozen BK573.out 2; have hfz87_3 := blk_frozen BK573.out 3; have hfz87_4 := blk_frozen BK573.out 4))
                  go_ret
                  exact ⟨by first | rfl | (simp [errW_none, errW_some] <;> rfl) | (simp [*, errW_none, errW_some] <;> rfl), by repeat (first | (with_reducible first | exact HB.out | apply below_alloc | apply pw_below_drewN | apply below_drew1 | refine below_set ?_ GE572.out | refine below_set ?_ GE573.out | refine below_set ?_ GE574.out | refine below_set ?_ GE584.out) | exact HB.out)⟩
            · rw [if_neg c52] at H
              have c52b0 : ((t575 == 0) == (a0_0 == a1_0 && (a0_1 == a1_1 && (a0_2 == a1_2 && (a0_3 == a1_3 && (a0_4 == a1_4)))))) = false := by simpa using c52
              (try (have c52b1 : decide ((t575 == 0) = (a0_0 == a1_0 && (a0_1 == a1_1 && (a0_2 == a1_2 && (a0_3 == a1_3 && (a0_4 == a1_4)))))) = false := by simpa using c52))
              (try (have c52b2 : ((t575 == 0) == (a0_0 == a1_0 && (a0_1 == a1_1 && (a0_2 == a1_2 && (a0_3 == a1_3 && (a0_4 == a1_4)))))) = false := by simpa using c52))
              (try (have c52b3 : ¬ ((t575 == 0) = (a0_0 == a1_0 && (a0_1 == a1_1 && (a0_2 == a1_2 && (a0_3 == a1_3 && (a0_4 == a1_4)))))) := by simpa using c52))
              clear c52
              exact absurd ((Option.some.inj H).trans hT.out) (by decide)
          · rw [if_neg c51] at H
            have c51b0 : (t597 == (wrap64 (-t575))) = false := beq_eq_false_iff_ne.mpr c51
            have c51b1 : (t597 != (wrap64 (-t575))) = true := bne_iff_ne.mpr c51
            exact absurd ((Option.some.inj H).trans hT.out) (by decide)
        · replace c49 := Bool.eq_false_iff.mpr c49
          subst c49
          have H1 : (some false) = some r := by rw [if_neg (show ¬ (false = true) by decide)] at H; exact H
          clear H
          have H := H1
          clear H1
          exact absurd ((Option.some.inj H).trans hT.out) (by decide)

end Go.Proofs.YtloclimoffhbhaaDoor.PAll
