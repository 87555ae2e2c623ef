-- Written by wip/myprint.py and wip/merge.py (this session's own programs); Lean checks it.
-- halved
import Derived.Test.YtloclimoffhbhaaDoorSq
import Derived.Test.YtloclimoffhbhaaDoorPFyx0
import Derived.Test.YtloclimoffhbhaaDoorPFyx1
import Derived.Test.YtloclimoffhbhaaDoorPFyx6
import Derived.Test.YtloclimoffhbhaaDoorPFyx7
namespace Go.Proofs.YtloclimoffhbhaaDoor.PFy
open Go.RowKit Go.Proofs.YtloclimoffhbhaaDoorW.PrintWords Go.Proofs.YtloclimoffhbhaaDoorW.PrintLast Go.Proofs.YtloclimoffhbhaaDoorW.PrintMore Go.Proofs.YtloclimoffhbhaaDoorW.PrintSq
attribute [local go_sem] max2_int min2_int max_two min_two max_three min_three max_four min_four   -- for this text's walks alone
set_option linter.unusedVariables false
set_option linter.unusedSimpArgs false

/-! ### crossbucklaw04_FilterMeets: function 11 -/
mutual
def crossbucklaw04_FilterMeets.j0 : Nat → Bool → Int → Int → Int → Int → Int → Int → Int → Int → Int → Int → Int → Int → Int → Int → Int → Int → Int → Int → Int → Int → Int → Int → Int → Option (Bool)
 | 0, _, _, _, _, _, _, _, _, _, _, _, _, _, _, _, _, _, _, _, _, _, _, _, _ => none
 | k + 1, x17, x227000, x227001, x227002, x227003, x227004, x227005, x227006, x227007, x227008, x228000, x228001, x228002, x228003, x228004, x228005, x228006, x228007, x228008, x229000, x229001, x229002, x229003, x229004 => if x17 = true then ((crossbucklaw04_awake.f k).bind fun t231 => (some t231)) else ((filter_Some.f x227000 x227001 x227002 x227003 x227004 x227005 x227006 x227007 x227008).bind fun bt232 => ((crossbuckref04_Match.f k x227000 x227001 x227002 x227003 x227004 x227005 x227006 x227007 x227008 bt232.1 bt232.2.1 bt232.2.2.1 bt232.2.2.2.1 bt232.2.2.2.2).bind fun t238 => (if t238 = true then ((crossbuckref04_Match.f k x227000 x227001 x227002 x227003 x227004 x227005 x227006 x227007 x227008 x229000 x229001 x229002 x229003 x229004).bind fun t239 => (if t239 = true then ((hdr_Compare.f k x229000 x229001 x229002 x229003 x229004 bt232.1 bt232.2.1 bt232.2.2.1 bt232.2.2.2.1 bt232.2.2.2.2).bind fun t240 => (if t240 < 0 then (crossbucklaw04_FilterMeets.j1 k true x227000 x227001 x227002 x227003 x227004 x227005 x227006 x227007 x227008 x228000 x228001 x228002 x228003 x228004 x228005 x228006 x228007 x228008 bt232.1 bt232.2.1 bt232.2.2.1 bt232.2.2.2.1 bt232.2.2.2.2) else ((crossbuckref04_Match.f k x227000 x227001 x227002 x227003 x227004 x227005 x227006 x227007 x227008 x229000 x229001 x229002 x229003 x229004).bind fun t241 => (if t241 = true then ((crossbuckref04_Match.f k x228000 x228001 x228002 x228003 x228004 x228005 x228006 x228007 x228008 x229000 x229001 x229002 x229003 x229004).bind fun t242 => (if t242 = true then ((filter_Meet.f k x227000 x227001 x227002 x227003 x227004 x227005 x227006 x227007 x227008 x228000 x228001 x228002 x228003 x228004 x228005 x228006 x228007 x228008).bind fun t243 => (crossbucklaw04_FilterMeets.j1 k (!t243) x227000 x227001 x227002 x227003 x227004 x227005 x227006 x227007 x227008 x228000 x228001 x228002 x228003 x228004 x228005 x228006 x228007 x228008 bt232.1 bt232.2.1 bt232.2.2.1 bt232.2.2.2.1 bt232.2.2.2.2)) else (crossbucklaw04_FilterMeets.j1 k false x227000 x227001 x227002 x227003 x227004 x227005 x227006 x227007 x227008 x228000 x228001 x228002 x228003 x228004 x228005 x228006 x228007 x228008 bt232.1 bt232.2.1 bt232.2.2.1 bt232.2.2.2.1 bt232.2.2.2.2))) else (crossbucklaw04_FilterMeets.j1 k false x227000 x227001 x227002 x227003 x227004 x227005 x227006 x227007 x227008 x228000 x228001 x228002 x228003 x228004 x228005 x228006 x228007 x228008 bt232.1 bt232.2.1 bt232.2.2.1 bt232.2.2.2.1 bt232.2.2.2.2))))) else ((crossbuckref04_Match.f k x227000 x227001 x227002 x227003 x227004 x227005 x227006 x227007 x227008 x229000 x229001 x229002 x229003 x229004).bind fun t244 => (if t244 = true then ((crossbuckref04_Match.f k x228000 x228001 x228002 x228003 x228004 x228005 x228006 x228007 x228008 x229000 x229001 x229002 x229003 x229004).bind fun t245 => (if t245 = true then ((filter_Meet.f k x227000 x227001 x227002 x227003 x227004 x227005 x227006 x227007 x227008 x228000 x228001 x228002 x228003 x228004 x228005 x228006 x228007 x228008).bind fun t246 => (crossbucklaw04_FilterMeets.j1 k (!t246) x227000 x227001 x227002 x227003 x227004 x227005 x227006 x227007 x227008 x228000 x228001 x228002 x228003 x228004 x228005 x228006 x228007 x228008 bt232.1 bt232.2.1 bt232.2.2.1 bt232.2.2.2.1 bt232.2.2.2.2)) else (crossbucklaw04_FilterMeets.j1 k false x227000 x227001 x227002 x227003 x227004 x227005 x227006 x227007 x227008 x228000 x228001 x228002 x228003 x228004 x228005 x228006 x228007 x228008 bt232.1 bt232.2.1 bt232.2.2.1 bt232.2.2.2.1 bt232.2.2.2.2))) else (crossbucklaw04_FilterMeets.j1 k false x227000 x227001 x227002 x227003 x227004 x227005 x227006 x227007 x227008 x228000 x228001 x228002 x228003 x228004 x228005 x228006 x228007 x228008 bt232.1 bt232.2.1 bt232.2.2.1 bt232.2.2.2.1 bt232.2.2.2.2))))) else (crossbucklaw04_FilterMeets.j1 k true x227000 x227001 x227002 x227003 x227004 x227005 x227006 x227007 x227008 x228000 x228001 x228002 x228003 x228004 x228005 x228006 x228007 x228008 bt232.1 bt232.2.1 bt232.2.2.1 bt232.2.2.2.1 bt232.2.2.2.2))))
def crossbucklaw04_FilterMeets.j1 : Nat → Bool → Int → Int → Int → Int → Int → Int → Int → Int → Int → Int → Int → Int → Int → Int → Int → Int → Int → Int → Int → Int → Int → Int → Int → Option (Bool)
 | 0, _, _, _, _, _, _, _, _, _, _, _, _, _, _, _, _, _, _, _, _, _, _, _, _ => none
 | k + 1, x51, x227000, x227001, x227002, x227003, x227004, x227005, x227006, x227007, x227008, x228000, x228001, x228002, x228003, x228004, x228005, x228006, x228007, x228008, x238000, x238001, x238002, x238003, x238004 => if x51 = true then (some false) else ((filter_Meet.f k x227000 x227001 x227002 x227003 x227004 x227005 x227006 x227007 x227008 x228000 x228001 x228002 x228003 x228004 x228005 x228006 x228007 x228008).bind fun t247 => ((filter_Meet.f k x228000 x228001 x228002 x228003 x228004 x228005 x228006 x228007 x228008 x227000 x227001 x227002 x227003 x227004 x227005 x227006 x227007 x227008).bind fun t248 => (if (t247 != t248) = true then (crossbucklaw04_FilterMeets.j2 k true x227000 x227001 x227002 x227003 x227004 x227005 x227006 x227007 x227008 x228000 x228001 x228002 x228003 x228004 x228005 x228006 x228007 x228008 x238000 x238001 x238002 x238003 x238004) else ((filter_Meet.f k x227000 x227001 x227002 x227003 x227004 x227005 x227006 x227007 x227008 x227000 x227001 x227002 x227003 x227004 x227005 x227006 x227007 x227008).bind fun t249 => (crossbucklaw04_FilterMeets.j2 k (!t249) x227000 x227001 x227002 x227003 x227004 x227005 x227006 x227007 x227008 x228000 x228001 x228002 x228003 x228004 x228005 x228006 x228007 x228008 x238000 x238001 x238002 x238003 x238004)))))
def crossbucklaw04_FilterMeets.j2 : Nat → Bool → Int → Int → Int → Int → Int → Int → Int → Int → Int → Int → Int → Int → Int → Int → Int → Int → Int → Int → Int → Int → Int → Int → Int → Option (Bool)
 | 0, _, _, _, _, _, _, _, _, _, _, _, _, _, _, _, _, _, _, _, _, _, _, _, _ => none
 | k + 1, x64, x227000, x227001, x227002, x227003, x227004, x227005, x227006, x227007, x227008, x228000, x228001, x228002, x228003, x228004, x228005, x228006, x228007, x228008, x238000, x238001, x238002, x238003, x238004 => if x64 = true then (some false) else ((filter_Meet.f k x227000 x227001 x227002 x227003 x227004 x227005 x227006 x227007 x227008 x228000 x228001 x228002 x228003 x228004 x228005 x228006 x228007 x228008).bind fun t250 => (if t250 = true then ((filter_Some.f x228000 x228001 x228002 x228003 x228004 x228005 x228006 x228007 x228008).bind fun bt259 => ((crossbucklaw04_awake.f k).bind fun t266 => (if t266 = true then ((crossbuckref04_Match.f k x227000 x227001 x227002 x227003 x227004 x227005 x227006 x227007 x227008 (mx x238000 bt259.1) (mx x238001 bt259.2.1) (mx x238002 bt259.2.2.1) (mx x238003 bt259.2.2.2.1) (mx x238004 bt259.2.2.2.2)).bind fun t267 => (if t267 = true then ((crossbuckref04_Match.f k x228000 x228001 x228002 x228003 x228004 x228005 x228006 x228007 x228008 (mx x238000 bt259.1) (mx x238001 bt259.2.1) (mx x238002 bt259.2.2.1) (mx x238003 bt259.2.2.2.1) (mx x238004 bt259.2.2.2.2)).bind fun t268 => (some t268)) else (some false))) else (some false)))) else ((crossbucklaw04_awake.f k).bind fun t251 => (if t251 = true then ((crossbuckref04_Match.f k x228000 x228001 x228002 x228003 x228004 x228005 x228006 x228007 x228008 x238000 x238001 x238002 x238003 x238004).bind fun t252 => (if t252 = true then ((filter_Some.f x228000 x228001 x228002 x228003 x228004 x228005 x228006 x228007 x228008).bind fun bt253 => ((crossbuckref04_Match.f k x227000 x227001 x227002 x227003 x227004 x227005 x227006 x227007 x227008 bt253.1 bt253.2.1 bt253.2.2.1 bt253.2.2.2.1 bt253.2.2.2.2).bind fun t258 => (some (!t258)))) else (some (!false)))) else (some false)))))
end
def crossbucklaw04_FilterMeets.f (k : Nat) (a0_0 : Int) (a0_1 : Int) (a0_2 : Int) (a0_3 : Int) (a0_4 : Int) (a0_5 : Int) (a0_6 : Int) (a0_7 : Int) (a0_8 : Int) (a1_0 : Int) (a1_1 : Int) (a1_2 : Int) (a1_3 : Int) (a1_4 : Int) (a1_5 : Int) (a1_6 : Int) (a1_7 : Int) (a1_8 : Int) (a2_0 : Int) (a2_1 : Int) (a2_2 : Int) (a2_3 : Int) (a2_4 : Int) : Option (Bool) := (crossbuckref04_Check.f k a0_0 a0_1 a0_2 a0_3 a0_4 a0_5 a0_6 a0_7 a0_8).bind fun t229 => (if t229 = 0 then ((crossbuckref04_Check.f k a1_0 a1_1 a1_2 a1_3 a1_4 a1_5 a1_6 a1_7 a1_8).bind fun t230 => (crossbucklaw04_FilterMeets.j0 k (t230 != 0) a0_0 a0_1 a0_2 a0_3 a0_4 a0_5 a0_6 a0_7 a0_8 a1_0 a1_1 a1_2 a1_3 a1_4 a1_5 a1_6 a1_7 a1_8 a2_0 a2_1 a2_2 a2_3 a2_4)) else (crossbucklaw04_FilterMeets.j0 k true a0_0 a0_1 a0_2 a0_3 a0_4 a0_5 a0_6 a0_7 a0_8 a1_0 a1_1 a1_2 a1_3 a1_4 a1_5 a1_6 a1_7 a1_8 a2_0 a2_1 a2_2 a2_3 a2_4))
theorem crossbucklaw04_FilterMeets.mono_l : ∀ k, (∀ y0 y1 y2 y3 y4 y5 y6 y7 y8 y9 y10 y11 y12 y13 y14 y15 y16 y17 y18 y19 y20 y21 y22 y23, LeO (crossbucklaw04_FilterMeets.j0 k y0 y1 y2 y3 y4 y5 y6 y7 y8 y9 y10 y11 y12 y13 y14 y15 y16 y17 y18 y19 y20 y21 y22 y23) (crossbucklaw04_FilterMeets.j0 (k + 1) y0 y1 y2 y3 y4 y5 y6 y7 y8 y9 y10 y11 y12 y13 y14 y15 y16 y17 y18 y19 y20 y21 y22 y23)) ∧ (∀ y0 y1 y2 y3 y4 y5 y6 y7 y8 y9 y10 y11 y12 y13 y14 y15 y16 y17 y18 y19 y20 y21 y22 y23, LeO (crossbucklaw04_FilterMeets.j1 k y0 y1 y2 y3 y4 y5 y6 y7 y8 y9 y10 y11 y12 y13 y14 y15 y16 y17 y18 y19 y20 y21 y22 y23) (crossbucklaw04_FilterMeets.j1 (k + 1) y0 y1 y2 y3 y4 y5 y6 y7 y8 y9 y10 y11 y12 y13 y14 y15 y16 y17 y18 y19 y20 y21 y22 y23)) ∧ (∀ y0 y1 y2 y3 y4 y5 y6 y7 y8 y9 y10 y11 y12 y13 y14 y15 y16 y17 y18 y19 y20 y21 y22 y23, LeO (crossbucklaw04_FilterMeets.j2 k y0 y1 y2 y3 y4 y5 y6 y7 y8 y9 y10 y11 y12 y13 y14 y15 y16 y17 y18 y19 y20 y21 y22 y23) (crossbucklaw04_FilterMeets.j2 (k + 1) y0 y1 y2 y3 y4 y5 y6 y7 y8 y9 y10 y11 y12 y13 y14 y15 y16 y17 y18 y19 y20 y21 y22 y23))
 | 0 => ⟨fun _ _ _ _ _ _ _ _ _ _ _ _ _ _ _ _ _ _ _ _ _ _ _ _ r h => by simp [crossbucklaw04_FilterMeets.j0] at h, fun _ _ _ _ _ _ _ _ _ _ _ _ _ _ _ _ _ _ _ _ _ _ _ _ r h => by simp [crossbucklaw04_FilterMeets.j1] at h, fun _ _ _ _ _ _ _ _ _ _ _ _ _ _ _ _ _ _ _ _ _ _ _ _ r h => by simp [crossbucklaw04_FilterMeets.j2] at h⟩
 | k + 1 => by
  obtain ⟨ih0, ih1, ih2⟩ := crossbucklaw04_FilterMeets.mono_l k
  refine ⟨?_, ?_, ?_⟩
  ·intro y0 y1 y2 y3 y4 y5 y6 y7 y8 y9 y10 y11 y12 y13 y14 y15 y16 y17 y18 y19 y20 y21 y22 y23
   unfold crossbucklaw04_FilterMeets.j0
   repeat' first
   | (with_reducible exact ih0 _ _ _ _ _ _ _ _ _ _ _ _ _ _ _ _ _ _ _ _ _ _ _ _)
   | (with_reducible exact ih1 _ _ _ _ _ _ _ _ _ _ _ _ _ _ _ _ _ _ _ _ _ _ _ _)
   | (with_reducible exact ih2 _ _ _ _ _ _ _ _ _ _ _ _ _ _ _ _ _ _ _ _ _ _ _ _)
   | (with_reducible exact crossbucklaw04_awake.mono _)
   | (with_reducible exact crossbuckref04_Check.mono _ _ _ _ _ _ _ _ _ _)
   | (with_reducible exact crossbuckref04_Match.mono _ _ _ _ _ _ _ _ _ _ _ _ _ _ _)
   | (with_reducible exact filter_Meet.mono _ _ _ _ _ _ _ _ _ _ _ _ _ _ _ _ _ _ _)
   | (with_reducible exact hdr_Compare.mono _ _ _ _ _ _ _ _ _ _ _)
   | (with_reducible exact LeO.refl _)
   | (with_reducible exact LeO.none _)
   | (with_reducible refine LeO.ite ?_ ?_)
   | (with_reducible refine LeO.bind ?_ (fun _ => ?_))
   | exact ih0 _ _ _ _ _ _ _ _ _ _ _ _ _ _ _ _ _ _ _ _ _ _ _ _
   | exact ih1 _ _ _ _ _ _ _ _ _ _ _ _ _ _ _ _ _ _ _ _ _ _ _ _
   | exact ih2 _ _ _ _ _ _ _ _ _ _ _ _ _ _ _ _ _ _ _ _ _ _ _ _
   | exact crossbucklaw04_awake.mono _
   | exact crossbuckref04_Check.mono _ _ _ _ _ _ _ _ _ _
   | exact crossbuckref04_Match.mono _ _ _ _ _ _ _ _ _ _ _ _ _ _ _
   | exact filter_Meet.mono _ _ _ _ _ _ _ _ _ _ _ _ _ _ _ _ _ _ _
   | exact hdr_Compare.mono _ _ _ _ _ _ _ _ _ _ _
   | exact LeO.none _
   | refine LeO.ite ?_ ?_
   | refine LeO.bind ?_ (fun _ => ?_)
  ·intro y0 y1 y2 y3 y4 y5 y6 y7 y8 y9 y10 y11 y12 y13 y14 y15 y16 y17 y18 y19 y20 y21 y22 y23
   unfold crossbucklaw04_FilterMeets.j1
   repeat' first
   | (with_reducible exact ih0 _ _ _ _ _ _ _ _ _ _ _ _ _ _ _ _ _ _ _ _ _ _ _ _)
   | (with_reducible exact ih1 _ _ _ _ _ _ _ _ _ _ _ _ _ _ _ _ _ _ _ _ _ _ _ _)
   | (with_reducible exact ih2 _ _ _ _ _ _ _ _ _ _ _ _ _ _ _ _ _ _ _ _ _ _ _ _)
   | (with_reducible exact crossbucklaw04_awake.mono _)
   | (with_reducible exact crossbuckref04_Check.mono _ _ _ _ _ _ _ _ _ _)
   | (with_reducible exact crossbuckref04_Match.mono _ _ _ _ _ _ _ _ _ _ _ _ _ _ _)
   | (with_reducible exact filter_Meet.mono _ _ _ _ _ _ _ _ _ _ _ _ _ _ _ _ _ _ _)
   | (with_reducible exact hdr_Compare.mono _ _ _ _ _ _ _ _ _ _ _)
   | (with_reducible exact LeO.refl _)
   | (with_reducible exact LeO.none _)
   | (with_reducible refine LeO.ite ?_ ?_)
   | (with_reducible refine LeO.bind ?_ (fun _ => ?_))
   | exact ih0 _ _ _ _ _ _ _ _ _ _ _ _ _ _ _ _ _ _ _ _ _ _ _ _
   | exact ih1 _ _ _ _ _ _ _ _ _ _ _ _ _ _ _ _ _ _ _ _ _ _ _ _
   | exact ih2 _ _ _ _ _ _ _ _ _ _ _ _ _ _ _ _ _ _ _ _ _ _ _ _
   | exact crossbucklaw04_awake.mono _
   | exact crossbuckref04_Check.mono _ _ _ _ _ _ _ _ _ _
   | exact crossbuckref04_Match.mono _ _ _ _ _ _ _ _ _ _ _ _ _ _ _
   | exact filter_Meet.mono _ _ _ _ _ _ _ _ _ _ _ _ _ _ _ _ _ _ _
   | exact hdr_Compare.mono _ _ _ _ _ _ _ _ _ _ _
   | exact LeO.none _
   | refine LeO.ite ?_ ?_
   | refine LeO.bind ?_ (fun _ => ?_)
  ·intro y0 y1 y2 y3 y4 y5 y6 y7 y8 y9 y10 y11 y12 y13 y14 y15 y16 y17 y18 y19 y20 y21 y22 y23
   unfold crossbucklaw04_FilterMeets.j2
   repeat' first
   | (with_reducible exact ih0 _ _ _ _ _ _ _ _ _ _ _ _ _ _ _ _ _ _ _ _ _ _ _ _)
   | (with_reducible exact ih1 _ _ _ _ _ _ _ _ _ _ _ _ _ _ _ _ _ _ _ _ _ _ _ _)
   | (with_reducible exact ih2 _ _ _ _ _ _ _ _ _ _ _ _ _ _ _ _ _ _ _ _ _ _ _ _)
   | (with_reducible exact crossbucklaw04_awake.mono _)
   | (with_reducible exact crossbuckref04_Check.mono _ _ _ _ _ _ _ _ _ _)
   | (with_reducible exact crossbuckref04_Match.mono _ _ _ _ _ _ _ _ _ _ _ _ _ _ _)
   | (with_reducible exact filter_Meet.mono _ _ _ _ _ _ _ _ _ _ _ _ _ _ _ _ _ _ _)
   | (with_reducible exact hdr_Compare.mono _ _ _ _ _ _ _ _ _ _ _)
   | (with_reducible exact LeO.refl _)
   | (with_reducible exact LeO.none _)
   | (with_reducible refine LeO.ite ?_ ?_)
   | (with_reducible refine LeO.bind ?_ (fun _ => ?_))
   | exact ih0 _ _ _ _ _ _ _ _ _ _ _ _ _ _ _ _ _ _ _ _ _ _ _ _
   | exact ih1 _ _ _ _ _ _ _ _ _ _ _ _ _ _ _ _ _ _ _ _ _ _ _ _
   | exact ih2 _ _ _ _ _ _ _ _ _ _ _ _ _ _ _ _ _ _ _ _ _ _ _ _
   | exact crossbucklaw04_awake.mono _
   | exact crossbuckref04_Check.mono _ _ _ _ _ _ _ _ _ _
   | exact crossbuckref04_Match.mono _ _ _ _ _ _ _ _ _ _ _ _ _ _ _
   | exact filter_Meet.mono _ _ _ _ _ _ _ _ _ _ _ _ _ _ _ _ _ _ _
   | exact hdr_Compare.mono _ _ _ _ _ _ _ _ _ _ _
   | exact LeO.none _
   | refine LeO.ite ?_ ?_
   | refine LeO.bind ?_ (fun _ => ?_)
theorem crossbucklaw04_FilterMeets.mono : ∀ a0 a1 a2 a3 a4 a5 a6 a7 a8 a9 a10 a11 a12 a13 a14 a15 a16 a17 a18 a19 a20 a21 a22 k, LeO (crossbucklaw04_FilterMeets.f k a0 a1 a2 a3 a4 a5 a6 a7 a8 a9 a10 a11 a12 a13 a14 a15 a16 a17 a18 a19 a20 a21 a22) (crossbucklaw04_FilterMeets.f (k + 1) a0 a1 a2 a3 a4 a5 a6 a7 a8 a9 a10 a11 a12 a13 a14 a15 a16 a17 a18 a19 a20 a21 a22) := by
 intro a0 a1 a2 a3 a4 a5 a6 a7 a8 a9 a10 a11 a12 a13 a14 a15 a16 a17 a18 a19 a20 a21 a22 k
 obtain ⟨ih0, ih1, ih2⟩ := crossbucklaw04_FilterMeets.mono_l k
 unfold crossbucklaw04_FilterMeets.f
 repeat' first
   | (with_reducible exact ih0 _ _ _ _ _ _ _ _ _ _ _ _ _ _ _ _ _ _ _ _ _ _ _ _)
   | (with_reducible exact ih1 _ _ _ _ _ _ _ _ _ _ _ _ _ _ _ _ _ _ _ _ _ _ _ _)
   | (with_reducible exact ih2 _ _ _ _ _ _ _ _ _ _ _ _ _ _ _ _ _ _ _ _ _ _ _ _)
   | (with_reducible exact crossbucklaw04_awake.mono _)
   | (with_reducible exact crossbuckref04_Check.mono _ _ _ _ _ _ _ _ _ _)
   | (with_reducible exact crossbuckref04_Match.mono _ _ _ _ _ _ _ _ _ _ _ _ _ _ _)
   | (with_reducible exact filter_Meet.mono _ _ _ _ _ _ _ _ _ _ _ _ _ _ _ _ _ _ _)
   | (with_reducible exact hdr_Compare.mono _ _ _ _ _ _ _ _ _ _ _)
   | (with_reducible exact LeO.refl _)
   | (with_reducible exact LeO.none _)
   | (with_reducible refine LeO.ite ?_ ?_)
   | (with_reducible refine LeO.bind ?_ (fun _ => ?_))
   | exact ih0 _ _ _ _ _ _ _ _ _ _ _ _ _ _ _ _ _ _ _ _ _ _ _ _
   | exact ih1 _ _ _ _ _ _ _ _ _ _ _ _ _ _ _ _ _ _ _ _ _ _ _ _
   | exact ih2 _ _ _ _ _ _ _ _ _ _ _ _ _ _ _ _ _ _ _ _ _ _ _ _
   | exact crossbucklaw04_awake.mono _
   | exact crossbuckref04_Check.mono _ _ _ _ _ _ _ _ _ _
   | exact crossbuckref04_Match.mono _ _ _ _ _ _ _ _ _ _ _ _ _ _ _
   | exact filter_Meet.mono _ _ _ _ _ _ _ _ _ _ _ _ _ _ _ _ _ _ _
   | exact hdr_Compare.mono _ _ _ _ _ _ _ _ _ _ _
   | exact LeO.none _
   | refine LeO.ite ?_ ?_
   | refine LeO.bind ?_ (fun _ => ?_)
def crossbucklaw04_FilterMeets.T6 : Bool × List (List Nat × List Nat) := (true, [([], []), ([], []), ([0, 1], [0, 1]), ([], []), ([], []), ([3, 4, 2], [3, 4]), ([2, 5], [2, 5]), ([6, 5], [6]), ([7], [7]), ([7], [7]), ([8, 9, 7, 7], [7, 8, 9]), ([10, 7], [7, 10]), ([7, 11], [7, 11])])
def crossbucklaw04_FilterMeets.B6 : List Nat := [0, 0, 3, 0, 0, 31, 63, 127, 255, 255, 1023, 2047, 4095]
theorem crossbucklaw04_FilterMeets.tab6 : rtab .any (opsOf Tryd.f11 6) = crossbucklaw04_FilterMeets.T6 := by kernel_rfl
theorem crossbucklaw04_FilterMeets.bits6 : waitsOk crossbucklaw04_FilterMeets.T6.2 crossbucklaw04_FilterMeets.B6 = true := by kernel_rfl
def crossbucklaw04_FilterMeets.T9 : Bool × List (List Nat × List Nat) := (true, [([], []), ([0, 0], [0]), ([1], [1]), ([1], [1]), ([2, 3, 1, 1], [1, 2, 3]), ([4, 4, 1], [1, 4]), ([5], [5]), ([5], [5]), ([7, 5, 5], [5, 7]), ([6, 8, 8, 5], [5, 6, 8]), ([5, 9, 1], [1, 5, 9]), ([10, 1], [1, 10]), ([1, 11], [1, 11]), ([12, 9, 0, 1, 2, 3, 4, 5, 6, 7, 8, 9, 10, 11, 12], [12])])
def crossbucklaw04_FilterMeets.B9 : List Nat := [0, 1, 3, 3, 15, 31, 63, 63, 191, 511, 1023, 2047, 4095, 8191]
theorem crossbucklaw04_FilterMeets.tab9 : rtab .any (opsOf Tryd.f11 9) = crossbucklaw04_FilterMeets.T9 := by kernel_rfl
theorem crossbucklaw04_FilterMeets.bits9 : waitsOk crossbucklaw04_FilterMeets.T9.2 crossbucklaw04_FilterMeets.B9 = true := by kernel_rfl
set_option maxHeartbeats 8000000 in
set_option maxRecDepth 100000 in
theorem crossbucklaw04_FilterMeets.calls (k : Nat) (a0_0 : Int) (a0_1 : Int) (a0_2 : Int) (a0_3 : Int) (a0_4 : Int) (a0_5 : Int) (a0_6 : Int) (a0_7 : Int) (a0_8 : Int) (a1_0 : Int) (a1_1 : Int) (a1_2 : Int) (a1_3 : Int) (a1_4 : Int) (a1_5 : Int) (a1_6 : Int) (a1_7 : Int) (a1_8 : Int) (a2_0 : Int) (a2_1 : Int) (a2_2 : Int) (a2_3 : Int) (a2_4 : Int) (r : Bool) (w : World) (hG : Hand.Good true false w) (h : crossbucklaw04_FilterMeets.f k a0_0 a0_1 a0_2 a0_3 a0_4 a0_5 a0_6 a0_7 a0_8 a1_0 a1_1 a1_2 a1_3 a1_4 a1_5 a1_6 a1_7 a1_8 a2_0 a2_1 a2_2 a2_3 a2_4 = some r) (hT : Aside0 (r = true)) :
  Calls Tryd.prog 11 #[.agg #[.int .u32 a0_0, .int .i64 a0_1, .int .u32 a0_2, .int .i64 a0_3, .int .i64 a0_4, .int .u16 a0_5, .int .u16 a0_6, .int .u16 a0_7, .int .u16 a0_8], .agg #[.int .u32 a1_0, .int .i64 a1_1, .int .u32 a1_2, .int .i64 a1_3, .int .i64 a1_4, .int .u16 a1_5, .int .u16 a1_6, .int .u16 a1_7, .int .u16 a1_8], .agg #[.int .u32 a2_0, .int .u32 a2_1, .int .u8 a2_2, .int .u16 a2_3, .int .u16 a2_4]] w fun e w' => e = .returned (.bool r) ∧ Below w.heap.size w w' := by
 have hu77 := Tryd.underlying77
 have hu67 := Tryd.underlying67
 have HB := Aside0.mk (Below.refl w.heap.size w)
 have hGG := Aside0.mk hG
 clear hG
 have H : ((crossbuckref04_Check.f k a0_0 a0_1 a0_2 a0_3 a0_4 a0_5 a0_6 a0_7 a0_8).bind fun t229 => (if t229 = 0 then ((crossbuckref04_Check.f k a1_0 a1_1 a1_2 a1_3 a1_4 a1_5 a1_6 a1_7 a1_8).bind fun t230 => (crossbucklaw04_FilterMeets.j0 k (t230 != 0) a0_0 a0_1 a0_2 a0_3 a0_4 a0_5 a0_6 a0_7 a0_8 a1_0 a1_1 a1_2 a1_3 a1_4 a1_5 a1_6 a1_7 a1_8 a2_0 a2_1 a2_2 a2_3 a2_4)) else (crossbucklaw04_FilterMeets.j0 k true a0_0 a0_1 a0_2 a0_3 a0_4 a0_5 a0_6 a0_7 a0_8 a1_0 a1_1 a1_2 a1_3 a1_4 a1_5 a1_6 a1_7 a1_8 a2_0 a2_1 a2_2 a2_3 a2_4))) = some r := h
 clear h
 have HC4 := Aside0.mk H
 clear H
 go_enter Tryd.func11, Tryd.ntmps11
 go_upto_region 1 with (first | ((with_reducible refine gate_dst (N := 3) rfl ?_); refine box_event ?hg (N := 3) ?hd (cs := #[.int .u32 a0_0, .int .i64 a0_1, .int .u32 a0_2, .int .i64 a0_3, .int .i64 a0_4, .int .u16 a0_5, .int .u16 a0_6, .int .u16 a0_7, .int .u16 a0_8]) (t := 77) ?hr ?_; (case hd => rfl); (case hg => rfl); (case hr => first | (go_simp; done) | (go_simp; rfl)); intro gb226 hg w5 hbox hb; have n0_ := Aside0.mk (below_step (by repeat (first | (with_reducible first | exact HB.out | apply below_alloc | apply pw_below_drewN | apply below_drew1) | exact HB.out)) hb); have n1_ := Aside0.mk (hbox); have n2_ := Aside0.mk ((by rw [hg]; exact (below_size (by repeat (first | (with_reducible first | exact HB.out | apply below_alloc | apply pw_below_drewN | apply below_drew1) | exact HB.out))) : w.heap.size ≤ gb226)); have n3_ := Aside0.mk ((by rw [hg]; exact (below_size (by repeat (first | (with_reducible first | exact HB.out | apply below_alloc | apply pw_below_drewN | apply below_drew1) | exact HB.out))) : w.heap.size ≤ gb226)); clear HB; have HB := n0_; have BK226 := n1_; have GW226 := n2_; have GE226 := n3_; clear n0_ n1_ n2_ n3_; clear hb hbox hg) | ((with_reducible refine gate_dst (N := 4) rfl ?_); refine box_event ?hg (N := 4) ?hd (cs := #[.int .u32 a1_0, .int .i64 a1_1, .int .u32 a1_2, .int .i64 a1_3, .int .i64 a1_4, .int .u16 a1_5, .int .u16 a1_6, .int .u16 a1_7, .int .u16 a1_8]) (t := 77) ?hr ?_; (case hd => rfl); (case hg => rfl); (case hr => first | (go_simp; done) | (go_simp; rfl)); intro gb227 hg w6 hbox hb; have n0_ := Aside0.mk (bb BK226.out hb); have n1_ := Aside0.mk (below_step (by repeat (first | (with_reducible first | exact HB.out | apply below_alloc | apply pw_below_drewN | apply below_drew1 | refine below_set ?_ GE226.out) | exact HB.out)) hb); have n2_ := Aside0.mk (hbox); have n3_ := Aside0.mk ((by rw [hg]; exact (below_size (by repeat (first | (with_reducible first | exact HB.out | apply below_alloc | apply pw_below_drewN | apply below_drew1 | refine below_set ?_ GE226.out) | exact HB.out))) : w.heap.size ≤ gb227)); have n4_ := Aside0.mk ((by rw [hg]; exact (below_size (by repeat (first | (with_reducible first | exact HB.out | apply below_alloc | apply pw_below_drewN | apply below_drew1 | refine below_set ?_ GE226.out) | exact HB.out))) : w.heap.size ≤ gb227)); have n5_ := Aside0.mk ((ne1 BK226.out hg : gb226 ≠ gb227)); have n6_ := Aside0.mk ((ne2 BK226.out hg : gb227 ≠ gb226)); clear BK226; clear HB; have BK226 := n0_; have HB := n1_; have BK227 := n2_; have GW227 := n3_; have GE227 := n4_; have NB226_227 := n5_; have NB227_226 := n6_; clear n0_ n1_ n2_ n3_ n4_ n5_ n6_; clear hb hbox hg) | ((with_reducible refine gate_dst (N := 5) rfl ?_); refine box_event ?hg (N := 5) ?hd (cs := #[.int .u32 a2_0, .int .u32 a2_1, .int .u8 a2_2, .int .u16 a2_3, .int .u16 a2_4]) (t := 67) ?hr ?_; (case hd => rfl); (case hg => rfl); (case hr => first | (go_simp; done) | (go_simp; rfl)); intro gb228 hg w7 hbox hb; have n0_ := Aside0.mk (bb BK226.out hb); have n1_ := Aside0.mk (bb BK227.out hb); have n2_ := Aside0.mk (below_step (by repeat (first | (with_reducible first | exact HB.out | apply below_alloc | apply pw_below_drewN | apply below_drew1 | refine below_set ?_ GE226.out | refine below_set ?_ GE227.out) | exact HB.out)) hb); have n3_ := Aside0.mk (hbox); have n4_ := Aside0.mk ((by rw [hg]; exact (below_size (by repeat (first | (with_reducible first | exact HB.out | apply below_alloc | apply pw_below_drewN | apply below_drew1 | refine below_set ?_ GE226.out | refine below_set ?_ GE227.out) | exact HB.out))) : w.heap.size ≤ gb228)); have n5_ := Aside0.mk ((by rw [hg]; exact (below_size (by repeat (first | (with_reducible first | exact HB.out | apply below_alloc | apply pw_below_drewN | apply below_drew1 | refine below_set ?_ GE226.out | refine below_set ?_ GE227.out) | exact HB.out))) : w.heap.size ≤ gb228)); have n6_ := Aside0.mk ((ne1 BK226.out hg : gb226 ≠ gb228)); have n7_ := Aside0.mk ((ne2 BK226.out hg : gb228 ≠ gb226)); have n8_ := Aside0.mk ((ne1 BK227.out hg : gb227 ≠ gb228)); have n9_ := Aside0.mk ((ne2 BK227.out hg : gb228 ≠ gb227)); clear BK226; clear BK227; clear HB; have BK226 := n0_; have BK227 := n1_; have HB := n2_; have BK228 := n3_; have GW228 := n4_; have GE228 := n5_; have NB226_228 := n6_; have NB228_226 := n7_; have NB227_228 := n8_; have NB228_227 := n9_; clear n0_ n1_ n2_ n3_ n4_ n5_ n6_ n7_ n8_ n9_; clear hb hbox hg))
 (try simp only [Act.put, List.setIfInBounds_toArray, List.set_cons_zero, List.set_cons_succ])
 go_cut [17] (fun v17 wc => ∃ (kq : Nat) (x17_3 : Bool), v17 = .bool x17_3 ∧ Aside0 (crossbucklaw04_FilterMeets.j0 kq x17_3 a0_0 a0_1 a0_2 a0_3 a0_4 a0_5 a0_6 a0_7 a0_8 a1_0 a1_1 a1_2 a1_3 a1_4 a1_5 a1_6 a1_7 a1_8 a2_0 a2_1 a2_2 a2_3 a2_4 = some r) ∧ Aside0 (kq ≤ k) ∧ Aside0 (wc.heap[gb226]? = some (.cells #[.int .u32 a0_0, .int .i64 a0_1, .int .u32 a0_2, .int .i64 a0_3, .int .i64 a0_4, .int .u16 a0_5, .int .u16 a0_6, .int .u16 a0_7, .int .u16 a0_8] 77 (0, 0))) ∧ Aside0 (wc.heap[gb227]? = some (.cells #[.int .u32 a1_0, .int .i64 a1_1, .int .u32 a1_2, .int .i64 a1_3, .int .i64 a1_4, .int .u16 a1_5, .int .u16 a1_6, .int .u16 a1_7, .int .u16 a1_8] 77 (0, 0))) ∧ Aside0 (wc.heap[gb228]? = some (.cells #[.int .u32 a2_0, .int .u32 a2_1, .int .u8 a2_2, .int .u16 a2_3, .int .u16 a2_4] 67 (0, 0))) ∧ Aside0 (Below w.heap.size w wc))
 case first =>
  have H := HC4.out
  clear HC4
  replace H := Option.bind_eq_some_iff.mp H
  obtain ⟨t229, A80, H⟩ := H
  replace H : (if t229 = 0 then ((crossbuckref04_Check.f k a1_0 a1_1 a1_2 a1_3 a1_4 a1_5 a1_6 a1_7 a1_8).bind fun t230 => (crossbucklaw04_FilterMeets.j0 k (t230 != 0) a0_0 a0_1 a0_2 a0_3 a0_4 a0_5 a0_6 a0_7 a0_8 a1_0 a1_1 a1_2 a1_3 a1_4 a1_5 a1_6 a1_7 a1_8 a2_0 a2_1 a2_2 a2_3 a2_4)) else (crossbucklaw04_FilterMeets.j0 k true a0_0 a0_1 a0_2 a0_3 a0_4 a0_5 a0_6 a0_7 a0_8 a1_0 a1_1 a1_2 a1_3 a1_4 a1_5 a1_6 a1_7 a1_8 a2_0 a2_1 a2_2 a2_3 a2_4)) = some r := H
  have A8 := Aside0.mk A80
  clear A80
  by_cases c9 : t229 = 0
  ·rw [if_pos c9] at H
   have c9b0 : (t229 == 0) = true := beq_iff_eq.mpr c9
   have c9b1 : (t229 != 0) = false := bne_eq_false_iff_eq.mpr c9
   clear c9
   (first | rw [c9b0] | (simp only [i64_w, i32_w]; rw [c9b0]) | skip)
   replace H := Option.bind_eq_some_iff.mp H
   obtain ⟨t230, A100, H⟩ := H
   replace H : (crossbucklaw04_FilterMeets.j0 k (t230 != 0) a0_0 a0_1 a0_2 a0_3 a0_4 a0_5 a0_6 a0_7 a0_8 a1_0 a1_1 a1_2 a1_3 a1_4 a1_5 a1_6 a1_7 a1_8 a2_0 a2_1 a2_2 a2_3 a2_4) = some r := H
   have A10 := Aside0.mk A100
   clear A100
   have H' := Aside0.mk H
   clear H
   have hnb11 := NB226_227.out
   have hnc11 := NB227_226.out
   have hnb12 := NB226_228.out
   have hnc12 := NB228_226.out
   have hcz13 := cz9 BK226.out
   go_wp2_with (first | ((with_reducible refine gate_callee (f := 43) rfl ?_); refine goesL_ (some 11) rfl rfl Tryd.func43 (by kernel_rfl) rfl #[.agg #[.int .u32 a0_0, .int .i64 a0_1, .int .u32 a0_2, .int .i64 a0_3, .int .i64 a0_4, .int .u16 a0_5, .int .u16 a0_6, .int .u16 a0_7, .int .u16 a0_8]] rfl (by (try simp only [List.map_toArray, List.map_cons, List.map_nil]); first | done | rfl | (simp only [List.length_drop, List.length_take]; rfl)) ?_; (with_reducible refine (crossbuckref04_Check.calls k a0_0 a0_1 a0_2 a0_3 a0_4 a0_5 a0_6 a0_7 a0_8 t229 _ A8.out).mono ?_); rintro e w14 ⟨rfl, hb⟩; refine ⟨_, rfl, ?_⟩; have n0_ := Aside0.mk (bb BK226.out hb); have n1_ := Aside0.mk (bb BK227.out hb); have n2_ := Aside0.mk (bb BK228.out hb); have n3_ := Aside0.mk (below_step (by repeat (first | (with_reducible first | exact HB.out | apply below_alloc | apply pw_below_drewN | apply below_drew1 | refine below_set ?_ GE226.out | refine below_set ?_ GE227.out | refine below_set ?_ GE228.out) | exact HB.out)) hb); clear BK226; clear BK227; clear BK228; clear HB; have BK226 := n0_; have BK227 := n1_; have BK228 := n2_; have HB := n3_; clear n0_ n1_ n2_ n3_; (try clear hb); (try clear hb2); (try clear hk); (try clear hi); have hnb15 := NB227_228.out; have hnc15 := NB228_227.out; have hcz16 := cz9 BK227.out) | (go_at_call 43; (with_reducible refine (crossbuckref04_Check.calls k a1_0 a1_1 a1_2 a1_3 a1_4 a1_5 a1_6 a1_7 a1_8 t230 _ A10.out).mono ?_); rintro e w17 ⟨rfl, hb⟩; have n0_ := Aside0.mk (bb BK226.out hb); have n1_ := Aside0.mk (bb BK227.out hb); have n2_ := Aside0.mk (bb BK228.out hb); have n3_ := Aside0.mk (below_step (by repeat (first | (with_reducible first | exact HB.out | apply below_alloc | apply pw_below_drewN | apply below_drew1 | refine below_set ?_ GE226.out | refine below_set ?_ GE227.out | refine below_set ?_ GE228.out) | exact HB.out)) hb); clear BK226; clear BK227; clear BK228; clear HB; have BK226 := n0_; have BK227 := n1_; have BK228 := n2_; have HB := n3_; clear n0_ n1_ n2_ n3_; (try clear hb); (try clear hb2); (try clear hk); (try clear hi)))
   go_meet
   case rel => exact ⟨_, ((t230 != 0)), (by first | rfl | (simp; done) | (simp [*]; done)), H', ⟨by first | omega | exact Nat.le_refl _⟩, ⟨by (with_reducible repeat (first | refine blk_drewN ?_ _ | refine blk_drew ?_ | refine blk_alloc ?_ _)); exact BK226.out⟩, ⟨by (with_reducible repeat (first | refine blk_drewN ?_ _ | refine blk_drew ?_ | refine blk_alloc ?_ _)); exact BK227.out⟩, ⟨by (with_reducible repeat (first | refine blk_drewN ?_ _ | refine blk_drew ?_ | refine blk_alloc ?_ _)); exact BK228.out⟩, ⟨by repeat (first | (with_reducible first | exact HB.out | apply below_alloc | apply pw_below_drewN | apply below_drew1 | refine below_set ?_ GE226.out | refine below_set ?_ GE227.out | refine below_set ?_ GE228.out) | exact HB.out)⟩⟩
  ·rw [if_neg c9] at H
   have c9b0 : (t229 == 0) = false := beq_eq_false_iff_ne.mpr c9
   have c9b1 : (t229 != 0) = true := bne_iff_ne.mpr c9
   (first | rw [c9b0] | (simp only [i64_w, i32_w]; rw [c9b0]) | skip)
   have H' := Aside0.mk H
   clear H
   have hnb18 := NB226_227.out
   have hnc18 := NB227_226.out
   have hnb19 := NB226_228.out
   have hnc19 := NB228_226.out
   have hcz20 := cz9 BK226.out
   go_wp2_with (first | ((with_reducible refine gate_callee (f := 43) rfl ?_); refine goesL_ (some 11) rfl rfl Tryd.func43 (by kernel_rfl) rfl #[.agg #[.int .u32 a0_0, .int .i64 a0_1, .int .u32 a0_2, .int .i64 a0_3, .int .i64 a0_4, .int .u16 a0_5, .int .u16 a0_6, .int .u16 a0_7, .int .u16 a0_8]] rfl (by (try simp only [List.map_toArray, List.map_cons, List.map_nil]); first | done | rfl | (simp only [List.length_drop, List.length_take]; rfl)) ?_; (with_reducible refine (crossbuckref04_Check.calls k a0_0 a0_1 a0_2 a0_3 a0_4 a0_5 a0_6 a0_7 a0_8 t229 _ A8.out).mono ?_); rintro e w21 ⟨rfl, hb⟩; refine ⟨_, rfl, ?_⟩; have n0_ := Aside0.mk (bb BK226.out hb); have n1_ := Aside0.mk (bb BK227.out hb); have n2_ := Aside0.mk (bb BK228.out hb); have n3_ := Aside0.mk (below_step (by repeat (first | (with_reducible first | exact HB.out | apply below_alloc | apply pw_below_drewN | apply below_drew1 | refine below_set ?_ GE226.out | refine below_set ?_ GE227.out | refine below_set ?_ GE228.out) | exact HB.out)) hb); clear BK226; clear BK227; clear BK228; clear HB; have BK226 := n0_; have BK227 := n1_; have BK228 := n2_; have HB := n3_; clear n0_ n1_ n2_ n3_; (try clear hb); (try clear hb2); (try clear hk); (try clear hi)))
   go_meet
   case rel => exact ⟨_, (true), (by first | rfl | (simp; done) | (simp [*]; done)), H', ⟨by first | omega | exact Nat.le_refl _⟩, ⟨by (with_reducible repeat (first | refine blk_drewN ?_ _ | refine blk_drew ?_ | refine blk_alloc ?_ _)); exact BK226.out⟩, ⟨by (with_reducible repeat (first | refine blk_drewN ?_ _ | refine blk_drew ?_ | refine blk_alloc ?_ _)); exact BK227.out⟩, ⟨by (with_reducible repeat (first | refine blk_drewN ?_ _ | refine blk_drew ?_ | refine blk_alloc ?_ _)); exact BK228.out⟩, ⟨by repeat (first | (with_reducible first | exact HB.out | apply below_alloc | apply pw_below_drewN | apply below_drew1 | refine below_set ?_ GE226.out | refine below_set ?_ GE227.out | refine below_set ?_ GE228.out) | exact HB.out)⟩⟩
 case rest =>
  clear HC4
  try clear c1
  try clear p2
  try clear c4
  try clear c9
  try clear c9b0
  try clear c9b1
  try clear c11
  try clear c12
  try clear c15
  try clear c18
  try clear c19
  try clear hcz13
  try clear hcz16
  try clear hcz20
  obtain ⟨kq, x17_3, rfl, HA, HJ3, BK226, BK227, BK228, HB⟩ := hcut
  cases kq with
  | zero => exact absurd HA.out (by simp [crossbucklaw04_FilterMeets.j0])
  | succ kj3 =>
   have H := HA.out
   clear HA
   simp only [crossbucklaw04_FilterMeets.j0] at H
   by_cases c22 : x17_3 = true
   ·subst c22
    have H1 : ((crossbucklaw04_awake.f kj3).bind fun t231 => (some t231)) = some r := by rw [if_pos rfl] at H; exact H
    clear H
    have H := H1
    clear H1
    replace H := Option.bind_eq_some_iff.mp H
    obtain ⟨t231, A230, H⟩ := H
    replace H : (some t231) = some r := H
    have A23 := Aside0.mk A230
    clear A230
    obtain rfl := Option.some.inj H
    go_wp2_with (first | ((with_reducible refine gate_callee (f := 46) rfl ?_); refine goesL_ (some 18) rfl rfl Tryd.func46 (by kernel_rfl) rfl #[] rfl (by (try simp only [List.map_toArray, List.map_cons, List.map_nil]); first | done | rfl | (simp only [List.length_drop, List.length_take]; rfl)) ?_; (with_reducible refine (crossbucklaw04_awake.calls kj3  t231 _ (Hand.Good.below true false hGG.out (by repeat (first | (with_reducible first | exact HB.out | apply below_alloc | apply pw_below_drewN | apply below_drew1 | refine below_set ?_ GE226.out | refine below_set ?_ GE227.out | refine below_set ?_ GE228.out) | exact HB.out)) rfl rfl) A23.out).mono ?_); rintro e w24 ⟨rfl, hb⟩; refine ⟨_, rfl, ?_⟩; have n0_ := Aside0.mk (bb BK226.out hb); have n1_ := Aside0.mk (bb BK227.out hb); have n2_ := Aside0.mk (bb BK228.out hb); have n3_ := Aside0.mk (below_step (by repeat (first | (with_reducible first | exact HB.out | apply below_alloc | apply pw_below_drewN | apply below_drew1 | refine below_set ?_ GE226.out | refine below_set ?_ GE227.out | refine below_set ?_ GE228.out) | exact HB.out)) hb); clear BK226; clear BK227; clear BK228; clear HB; have BK226 := n0_; have BK227 := n1_; have BK228 := n2_; have HB := n3_; clear n0_ n1_ n2_ n3_; (try clear hb); (try clear hb2); (try clear hk); (try clear hi)))
    go_ret
    exact ⟨by first | rfl | (simp [errW_none, errW_some] <;> rfl) | (simp [*, errW_none, errW_some] <;> rfl), by repeat (first | (with_reducible first | exact HB.out | apply below_alloc | apply pw_below_drewN | apply below_drew1 | refine below_set ?_ GE226.out | refine below_set ?_ GE227.out | refine below_set ?_ GE228.out) | exact HB.out)⟩
   ·replace c22 := Bool.eq_false_iff.mpr c22
    subst c22
    have H1 : ((filter_Some.f a0_0 a0_1 a0_2 a0_3 a0_4 a0_5 a0_6 a0_7 a0_8).bind fun bt232 => ((crossbuckref04_Match.f kj3 a0_0 a0_1 a0_2 a0_3 a0_4 a0_5 a0_6 a0_7 a0_8 bt232.1 bt232.2.1 bt232.2.2.1 bt232.2.2.2.1 bt232.2.2.2.2).bind fun t238 => (if t238 = true then ((crossbuckref04_Match.f kj3 a0_0 a0_1 a0_2 a0_3 a0_4 a0_5 a0_6 a0_7 a0_8 a2_0 a2_1 a2_2 a2_3 a2_4).bind fun t239 => (if t239 = true then ((hdr_Compare.f kj3 a2_0 a2_1 a2_2 a2_3 a2_4 bt232.1 bt232.2.1 bt232.2.2.1 bt232.2.2.2.1 bt232.2.2.2.2).bind fun t240 => (if t240 < 0 then (crossbucklaw04_FilterMeets.j1 kj3 true a0_0 a0_1 a0_2 a0_3 a0_4 a0_5 a0_6 a0_7 a0_8 a1_0 a1_1 a1_2 a1_3 a1_4 a1_5 a1_6 a1_7 a1_8 bt232.1 bt232.2.1 bt232.2.2.1 bt232.2.2.2.1 bt232.2.2.2.2) else ((crossbuckref04_Match.f kj3 a0_0 a0_1 a0_2 a0_3 a0_4 a0_5 a0_6 a0_7 a0_8 a2_0 a2_1 a2_2 a2_3 a2_4).bind fun t241 => (if t241 = true then ((crossbuckref04_Match.f kj3 a1_0 a1_1 a1_2 a1_3 a1_4 a1_5 a1_6 a1_7 a1_8 a2_0 a2_1 a2_2 a2_3 a2_4).bind fun t242 => (if t242 = true then ((filter_Meet.f kj3 a0_0 a0_1 a0_2 a0_3 a0_4 a0_5 a0_6 a0_7 a0_8 a1_0 a1_1 a1_2 a1_3 a1_4 a1_5 a1_6 a1_7 a1_8).bind fun t243 => (crossbucklaw04_FilterMeets.j1 kj3 (!t243) a0_0 a0_1 a0_2 a0_3 a0_4 a0_5 a0_6 a0_7 a0_8 a1_0 a1_1 a1_2 a1_3 a1_4 a1_5 a1_6 a1_7 a1_8 bt232.1 bt232.2.1 bt232.2.2.1 bt232.2.2.2.1 bt232.2.2.2.2)) else (crossbucklaw04_FilterMeets.j1 kj3 false a0_0 a0_1 a0_2 a0_3 a0_4 a0_5 a0_6 a0_7 a0_8 a1_0 a1_1 a1_2 a1_3 a1_4 a1_5 a1_6 a1_7 a1_8 bt232.1 bt232.2.1 bt232.2.2.1 bt232.2.2.2.1 bt232.2.2.2.2))) else (crossbucklaw04_FilterMeets.j1 kj3 false a0_0 a0_1 a0_2 a0_3 a0_4 a0_5 a0_6 a0_7 a0_8 a1_0 a1_1 a1_2 a1_3 a1_4 a1_5 a1_6 a1_7 a1_8 bt232.1 bt232.2.1 bt232.2.2.1 bt232.2.2.2.1 bt232.2.2.2.2))))) else ((crossbuckref04_Match.f kj3 a0_0 a0_1 a0_2 a0_3 a0_4 a0_5 a0_6 a0_7 a0_8 a2_0 a2_1 a2_2 a2_3 a2_4).bind fun t244 => (if t244 = true then ((crossbuckref04_Match.f kj3 a1_0 a1_1 a1_2 a1_3 a1_4 a1_5 a1_6 a1_7 a1_8 a2_0 a2_1 a2_2 a2_3 a2_4).bind fun t245 => (if t245 = true then ((filter_Meet.f kj3 a0_0 a0_1 a0_2 a0_3 a0_4 a0_5 a0_6 a0_7 a0_8 a1_0 a1_1 a1_2 a1_3 a1_4 a1_5 a1_6 a1_7 a1_8).bind fun t246 => (crossbucklaw04_FilterMeets.j1 kj3 (!t246) a0_0 a0_1 a0_2 a0_3 a0_4 a0_5 a0_6 a0_7 a0_8 a1_0 a1_1 a1_2 a1_3 a1_4 a1_5 a1_6 a1_7 a1_8 bt232.1 bt232.2.1 bt232.2.2.1 bt232.2.2.2.1 bt232.2.2.2.2)) else (crossbucklaw04_FilterMeets.j1 kj3 false a0_0 a0_1 a0_2 a0_3 a0_4 a0_5 a0_6 a0_7 a0_8 a1_0 a1_1 a1_2 a1_3 a1_4 a1_5 a1_6 a1_7 a1_8 bt232.1 bt232.2.1 bt232.2.2.1 bt232.2.2.2.1 bt232.2.2.2.2))) else (crossbucklaw04_FilterMeets.j1 kj3 false a0_0 a0_1 a0_2 a0_3 a0_4 a0_5 a0_6 a0_7 a0_8 a1_0 a1_1 a1_2 a1_3 a1_4 a1_5 a1_6 a1_7 a1_8 bt232.1 bt232.2.1 bt232.2.2.1 bt232.2.2.2.1 bt232.2.2.2.2))))) else (crossbucklaw04_FilterMeets.j1 kj3 true a0_0 a0_1 a0_2 a0_3 a0_4 a0_5 a0_6 a0_7 a0_8 a1_0 a1_1 a1_2 a1_3 a1_4 a1_5 a1_6 a1_7 a1_8 bt232.1 bt232.2.1 bt232.2.2.1 bt232.2.2.2.1 bt232.2.2.2.2)))) = some r := by rw [if_neg (show ¬ (false = true) by decide)] at H; exact H
    clear H
    have H := H1
    clear H1
    replace H := Option.bind_eq_some_iff.mp H
    obtain ⟨⟨t232, t233, t234, t235, t236⟩, A250, H⟩ := H
    replace H : ((crossbuckref04_Match.f kj3 a0_0 a0_1 a0_2 a0_3 a0_4 a0_5 a0_6 a0_7 a0_8 t232 t233 t234 t235 t236).bind fun t238 => (if t238 = true then ((crossbuckref04_Match.f kj3 a0_0 a0_1 a0_2 a0_3 a0_4 a0_5 a0_6 a0_7 a0_8 a2_0 a2_1 a2_2 a2_3 a2_4).bind fun t239 => (if t239 = true then ((hdr_Compare.f kj3 a2_0 a2_1 a2_2 a2_3 a2_4 t232 t233 t234 t235 t236).bind fun t240 => (if t240 < 0 then (crossbucklaw04_FilterMeets.j1 kj3 true a0_0 a0_1 a0_2 a0_3 a0_4 a0_5 a0_6 a0_7 a0_8 a1_0 a1_1 a1_2 a1_3 a1_4 a1_5 a1_6 a1_7 a1_8 t232 t233 t234 t235 t236) else ((crossbuckref04_Match.f kj3 a0_0 a0_1 a0_2 a0_3 a0_4 a0_5 a0_6 a0_7 a0_8 a2_0 a2_1 a2_2 a2_3 a2_4).bind fun t241 => (if t241 = true then ((crossbuckref04_Match.f kj3 a1_0 a1_1 a1_2 a1_3 a1_4 a1_5 a1_6 a1_7 a1_8 a2_0 a2_1 a2_2 a2_3 a2_4).bind fun t242 => (if t242 = true then ((filter_Meet.f kj3 a0_0 a0_1 a0_2 a0_3 a0_4 a0_5 a0_6 a0_7 a0_8 a1_0 a1_1 a1_2 a1_3 a1_4 a1_5 a1_6 a1_7 a1_8).bind fun t243 => (crossbucklaw04_FilterMeets.j1 kj3 (!t243) a0_0 a0_1 a0_2 a0_3 a0_4 a0_5 a0_6 a0_7 a0_8 a1_0 a1_1 a1_2 a1_3 a1_4 a1_5 a1_6 a1_7 a1_8 t232 t233 t234 t235 t236)) else (crossbucklaw04_FilterMeets.j1 kj3 false a0_0 a0_1 a0_2 a0_3 a0_4 a0_5 a0_6 a0_7 a0_8 a1_0 a1_1 a1_2 a1_3 a1_4 a1_5 a1_6 a1_7 a1_8 t232 t233 t234 t235 t236))) else (crossbucklaw04_FilterMeets.j1 kj3 false a0_0 a0_1 a0_2 a0_3 a0_4 a0_5 a0_6 a0_7 a0_8 a1_0 a1_1 a1_2 a1_3 a1_4 a1_5 a1_6 a1_7 a1_8 t232 t233 t234 t235 t236))))) else ((crossbuckref04_Match.f kj3 a0_0 a0_1 a0_2 a0_3 a0_4 a0_5 a0_6 a0_7 a0_8 a2_0 a2_1 a2_2 a2_3 a2_4).bind fun t244 => (if t244 = true then ((crossbuckref04_Match.f kj3 a1_0 a1_1 a1_2 a1_3 a1_4 a1_5 a1_6 a1_7 a1_8 a2_0 a2_1 a2_2 a2_3 a2_4).bind fun t245 => (if t245 = true then ((filter_Meet.f kj3 a0_0 a0_1 a0_2 a0_3 a0_4 a0_5 a0_6 a0_7 a0_8 a1_0 a1_1 a1_2 a1_3 a1_4 a1_5 a1_6 a1_7 a1_8).bind fun t246 => (crossbucklaw04_FilterMeets.j1 kj3 (!t246) a0_0 a0_1 a0_2 a0_3 a0_4 a0_5 a0_6 a0_7 a0_8 a1_0 a1_1 a1_2 a1_3 a1_4 a1_5 a1_6 a1_7 a1_8 t232 t233 t234 t235 t236)) else (crossbucklaw04_FilterMeets.j1 kj3 false a0_0 a0_1 a0_2 a0_3 a0_4 a0_5 a0_6 a0_7 a0_8 a1_0 a1_1 a1_2 a1_3 a1_4 a1_5 a1_6 a1_7 a1_8 t232 t233 t234 t235 t236))) else (crossbucklaw04_FilterMeets.j1 kj3 false a0_0 a0_1 a0_2 a0_3 a0_4 a0_5 a0_6 a0_7 a0_8 a1_0 a1_1 a1_2 a1_3 a1_4 a1_5 a1_6 a1_7 a1_8 t232 t233 t234 t235 t236))))) else (crossbucklaw04_FilterMeets.j1 kj3 true a0_0 a0_1 a0_2 a0_3 a0_4 a0_5 a0_6 a0_7 a0_8 a1_0 a1_1 a1_2 a1_3 a1_4 a1_5 a1_6 a1_7 a1_8 t232 t233 t234 t235 t236))) = some r := H
    have A25 := Aside0.mk A250
    clear A250
    have HC26 := Aside0.mk H
    clear H
    have hnb27 := NB226_227.out
    have hnc27 := NB227_226.out
    have hnb28 := NB226_228.out
    have hnc28 := NB228_226.out
    have hcz29 := cz9 BK226.out
    go_upto_region 4 with (first | ((with_reducible refine gate_callee (f := 49) rfl ?_); refine goesL_ (some 20) rfl rfl Tryd.func49 (by kernel_rfl) rfl #[.agg #[.int .u32 a0_0, .int .i64 a0_1, .int .u32 a0_2, .int .i64 a0_3, .int .i64 a0_4, .int .u16 a0_5, .int .u16 a0_6, .int .u16 a0_7, .int .u16 a0_8]] rfl (by (try simp only [List.map_toArray, List.map_cons, List.map_nil]); first | done | rfl | (simp only [List.length_drop, List.length_take]; rfl)) ?_; (with_reducible refine (filter_Some.calls a0_0 a0_1 a0_2 a0_3 a0_4 a0_5 a0_6 a0_7 a0_8 t232 t233 t234 t235 t236 _ A25.out).mono ?_); rintro e w30 ⟨rfl, hb⟩; refine ⟨_, rfl, ?_⟩; have n0_ := Aside0.mk (bb BK226.out hb); have n1_ := Aside0.mk (bb BK227.out hb); have n2_ := Aside0.mk (bb BK228.out hb); have n3_ := Aside0.mk (below_step (by repeat (first | (with_reducible first | exact HB.out | apply below_alloc | apply pw_below_drewN | apply below_drew1 | refine below_set ?_ GE226.out | refine below_set ?_ GE227.out | refine below_set ?_ GE228.out) | exact HB.out)) hb); clear BK226; clear BK227; clear BK228; clear HB; have BK226 := n0_; have BK227 := n1_; have BK228 := n2_; have HB := n3_; clear n0_ n1_ n2_ n3_; (try clear hb); (try clear hb2); (try clear hk); (try clear hi)) | ((with_reducible refine gate_dst (N := 7) rfl ?_); refine box_event ?hg (N := 7) ?hd (cs := #[.int .u32 0, .int .u32 0, .int .u8 0, .int .u16 0, .int .u16 0]) (t := 67) ?hr ?_; (case hd => rfl); (case hg => rfl); (case hr => first | (go_simp; done) | (go_simp; rfl)); intro gb237 hg w31 hbox hb; have n0_ := Aside0.mk (bb BK226.out hb); have n1_ := Aside0.mk (bb BK227.out hb); have n2_ := Aside0.mk (bb BK228.out hb); have n3_ := Aside0.mk (below_step (by repeat (first | (with_reducible first | exact HB.out | apply below_alloc | apply pw_below_drewN | apply below_drew1 | refine below_set ?_ GE226.out | refine below_set ?_ GE227.out | refine below_set ?_ GE228.out) | exact HB.out)) hb); have n4_ := Aside0.mk (hbox); have n5_ := Aside0.mk ((by rw [hg]; exact (below_size (by repeat (first | (with_reducible first | exact HB.out | apply below_alloc | apply pw_below_drewN | apply below_drew1 | refine below_set ?_ GE226.out | refine below_set ?_ GE227.out | refine below_set ?_ GE228.out) | exact HB.out))) : w.heap.size ≤ gb237)); have n6_ := Aside0.mk ((by rw [hg]; exact (below_size (by repeat (first | (with_reducible first | exact HB.out | apply below_alloc | apply pw_below_drewN | apply below_drew1 | refine below_set ?_ GE226.out | refine below_set ?_ GE227.out | refine below_set ?_ GE228.out) | exact HB.out))) : w.heap.size ≤ gb237)); have n7_ := Aside0.mk ((ne1 BK226.out hg : gb226 ≠ gb237)); have n8_ := Aside0.mk ((ne2 BK226.out hg : gb237 ≠ gb226)); have n9_ := Aside0.mk ((ne1 BK227.out hg : gb227 ≠ gb237)); have n10_ := Aside0.mk ((ne2 BK227.out hg : gb237 ≠ gb227)); have n11_ := Aside0.mk ((ne1 BK228.out hg : gb228 ≠ gb237)); have n12_ := Aside0.mk ((ne2 BK228.out hg : gb237 ≠ gb228)); clear BK226; clear BK227; clear BK228; clear HB; have BK226 := n0_; have BK227 := n1_; have BK228 := n2_; have HB := n3_; have BK237 := n4_; have GW237 := n5_; have GE237 := n6_; have NB226_237 := n7_; have NB237_226 := n8_; have NB227_237 := n9_; have NB237_227 := n10_; have NB228_237 := n11_; have NB237_228 := n12_; clear n0_ n1_ n2_ n3_ n4_ n5_ n6_ n7_ n8_ n9_ n10_ n11_ n12_; clear hb hbox hg; have hnb32 := NB237_226.out; have hnc32 := NB226_237.out; have hnb33 := NB237_227.out; have hnc33 := NB227_237.out; have hnb34 := NB237_228.out; have hnc34 := NB228_237.out; have hcz35 := cz5 BK237.out; have hcz35b := cz9 BK227.out))
    (try simp only [Act.put, List.setIfInBounds_toArray, List.set_cons_zero, List.set_cons_succ])
    go_cut [51] (fun v51 wc => ∃ (kq : Nat) (x51_25 : Bool), v51 = .bool x51_25 ∧ Aside0 (crossbucklaw04_FilterMeets.j1 kq x51_25 a0_0 a0_1 a0_2 a0_3 a0_4 a0_5 a0_6 a0_7 a0_8 a1_0 a1_1 a1_2 a1_3 a1_4 a1_5 a1_6 a1_7 a1_8 t232 t233 t234 t235 t236 = some r) ∧ Aside0 (kq ≤ kj3) ∧ Aside0 (wc.heap[gb226]? = some (.cells #[.int .u32 a0_0, .int .i64 a0_1, .int .u32 a0_2, .int .i64 a0_3, .int .i64 a0_4, .int .u16 a0_5, .int .u16 a0_6, .int .u16 a0_7, .int .u16 a0_8] 77 (0, 0))) ∧ Aside0 (wc.heap[gb227]? = some (.cells #[.int .u32 a1_0, .int .i64 a1_1, .int .u32 a1_2, .int .i64 a1_3, .int .i64 a1_4, .int .u16 a1_5, .int .u16 a1_6, .int .u16 a1_7, .int .u16 a1_8] 77 (0, 0))) ∧ Aside0 (wc.heap[gb228]? = some (.cells #[.int .u32 a2_0, .int .u32 a2_1, .int .u8 a2_2, .int .u16 a2_3, .int .u16 a2_4] 67 (0, 0))) ∧ Aside0 (wc.heap[gb237]? = some (.cells #[.int .u32 t232, .int .u32 t233, .int .u8 t234, .int .u16 t235, .int .u16 t236] 67 (0, 0))) ∧ Aside0 (Below w.heap.size w wc))
    case first =>
     have H := HC26.out
     clear HC26
     replace H := Option.bind_eq_some_iff.mp H
     obtain ⟨t238, A360, H⟩ := H
     replace H : (if t238 = true then ((crossbuckref04_Match.f kj3 a0_0 a0_1 a0_2 a0_3 a0_4 a0_5 a0_6 a0_7 a0_8 a2_0 a2_1 a2_2 a2_3 a2_4).bind fun t239 => (if t239 = true then ((hdr_Compare.f kj3 a2_0 a2_1 a2_2 a2_3 a2_4 t232 t233 t234 t235 t236).bind fun t240 => (if t240 < 0 then (crossbucklaw04_FilterMeets.j1 kj3 true a0_0 a0_1 a0_2 a0_3 a0_4 a0_5 a0_6 a0_7 a0_8 a1_0 a1_1 a1_2 a1_3 a1_4 a1_5 a1_6 a1_7 a1_8 t232 t233 t234 t235 t236) else ((crossbuckref04_Match.f kj3 a0_0 a0_1 a0_2 a0_3 a0_4 a0_5 a0_6 a0_7 a0_8 a2_0 a2_1 a2_2 a2_3 a2_4).bind fun t241 => (if t241 = true then ((crossbuckref04_Match.f kj3 a1_0 a1_1 a1_2 a1_3 a1_4 a1_5 a1_6 a1_7 a1_8 a2_0 a2_1 a2_2 a2_3 a2_4).bind fun t242 => (if t242 = true then ((filter_Meet.f kj3 a0_0 a0_1 a0_2 a0_3 a0_4 a0_5 a0_6 a0_7 a0_8 a1_0 a1_1 a1_2 a1_3 a1_4 a1_5 a1_6 a1_7 a1_8).bind fun t243 => (crossbucklaw04_FilterMeets.j1 kj3 (!t243) a0_0 a0_1 a0_2 a0_3 a0_4 a0_5 a0_6 a0_7 a0_8 a1_0 a1_1 a1_2 a1_3 a1_4 a1_5 a1_6 a1_7 a1_8 t232 t233 t234 t235 t236)) else (crossbucklaw04_FilterMeets.j1 kj3 false a0_0 a0_1 a0_2 a0_3 a0_4 a0_5 a0_6 a0_7 a0_8 a1_0 a1_1 a1_2 a1_3 a1_4 a1_5 a1_6 a1_7 a1_8 t232 t233 t234 t235 t236))) else (crossbucklaw04_FilterMeets.j1 kj3 false a0_0 a0_1 a0_2 a0_3 a0_4 a0_5 a0_6 a0_7 a0_8 a1_0 a1_1 a1_2 a1_3 a1_4 a1_5 a1_6 a1_7 a1_8 t232 t233 t234 t235 t236))))) else ((crossbuckref04_Match.f kj3 a0_0 a0_1 a0_2 a0_3 a0_4 a0_5 a0_6 a0_7 a0_8 a2_0 a2_1 a2_2 a2_3 a2_4).bind fun t244 => (if t244 = true then ((crossbuckref04_Match.f kj3 a1_0 a1_1 a1_2 a1_3 a1_4 a1_5 a1_6 a1_7 a1_8 a2_0 a2_1 a2_2 a2_3 a2_4).bind fun t245 => (if t245 = true then ((filter_Meet.f kj3 a0_0 a0_1 a0_2 a0_3 a0_4 a0_5 a0_6 a0_7 a0_8 a1_0 a1_1 a1_2 a1_3 a1_4 a1_5 a1_6 a1_7 a1_8).bind fun t246 => (crossbucklaw04_FilterMeets.j1 kj3 (!t246) a0_0 a0_1 a0_2 a0_3 a0_4 a0_5 a0_6 a0_7 a0_8 a1_0 a1_1 a1_2 a1_3 a1_4 a1_5 a1_6 a1_7 a1_8 t232 t233 t234 t235 t236)) else (crossbucklaw04_FilterMeets.j1 kj3 false a0_0 a0_1 a0_2 a0_3 a0_4 a0_5 a0_6 a0_7 a0_8 a1_0 a1_1 a1_2 a1_3 a1_4 a1_5 a1_6 a1_7 a1_8 t232 t233 t234 t235 t236))) else (crossbucklaw04_FilterMeets.j1 kj3 false a0_0 a0_1 a0_2 a0_3 a0_4 a0_5 a0_6 a0_7 a0_8 a1_0 a1_1 a1_2 a1_3 a1_4 a1_5 a1_6 a1_7 a1_8 t232 t233 t234 t235 t236))))) else (crossbucklaw04_FilterMeets.j1 kj3 true a0_0 a0_1 a0_2 a0_3 a0_4 a0_5 a0_6 a0_7 a0_8 a1_0 a1_1 a1_2 a1_3 a1_4 a1_5 a1_6 a1_7 a1_8 t232 t233 t234 t235 t236)) = some r := H
     have A36 := Aside0.mk A360
     clear A360
     by_cases c37 : t238 = true
     ·subst c37
      have H1 : ((crossbuckref04_Match.f kj3 a0_0 a0_1 a0_2 a0_3 a0_4 a0_5 a0_6 a0_7 a0_8 a2_0 a2_1 a2_2 a2_3 a2_4).bind fun t239 => (if t239 = true then ((hdr_Compare.f kj3 a2_0 a2_1 a2_2 a2_3 a2_4 t232 t233 t234 t235 t236).bind fun t240 => (if t240 < 0 then (crossbucklaw04_FilterMeets.j1 kj3 true a0_0 a0_1 a0_2 a0_3 a0_4 a0_5 a0_6 a0_7 a0_8 a1_0 a1_1 a1_2 a1_3 a1_4 a1_5 a1_6 a1_7 a1_8 t232 t233 t234 t235 t236) else ((crossbuckref04_Match.f kj3 a0_0 a0_1 a0_2 a0_3 a0_4 a0_5 a0_6 a0_7 a0_8 a2_0 a2_1 a2_2 a2_3 a2_4).bind fun t241 => (if t241 = true then ((crossbuckref04_Match.f kj3 a1_0 a1_1 a1_2 a1_3 a1_4 a1_5 a1_6 a1_7 a1_8 a2_0 a2_1 a2_2 a2_3 a2_4).bind fun t242 => (if t242 = true then ((filter_Meet.f kj3 a0_0 a0_1 a0_2 a0_3 a0_4 a0_5 a0_6 a0_7 a0_8 a1_0 a1_1 a1_2 a1_3 a1_4 a1_5 a1_6 a1_7 a1_8).bind fun t243 => (crossbucklaw04_FilterMeets.j1 kj3 (!t243) a0_0 a0_1 a0_2 a0_3 a0_4 a0_5 a0_6 a0_7 a0_8 a1_0 a1_1 a1_2 a1_3 a1_4 a1_5 a1_6 a1_7 a1_8 t232 t233 t234 t235 t236)) else (crossbucklaw04_FilterMeets.j1 kj3 false a0_0 a0_1 a0_2 a0_3 a0_4 a0_5 a0_6 a0_7 a0_8 a1_0 a1_1 a1_2 a1_3 a1_4 a1_5 a1_6 a1_7 a1_8 t232 t233 t234 t235 t236))) else (crossbucklaw04_FilterMeets.j1 kj3 false a0_0 a0_1 a0_2 a0_3 a0_4 a0_5 a0_6 a0_7 a0_8 a1_0 a1_1 a1_2 a1_3 a1_4 a1_5 a1_6 a1_7 a1_8 t232 t233 t234 t235 t236))))) else ((crossbuckref04_Match.f kj3 a0_0 a0_1 a0_2 a0_3 a0_4 a0_5 a0_6 a0_7 a0_8 a2_0 a2_1 a2_2 a2_3 a2_4).bind fun t244 => (if t244 = true then ((crossbuckref04_Match.f kj3 a1_0 a1_1 a1_2 a1_3 a1_4 a1_5 a1_6 a1_7 a1_8 a2_0 a2_1 a2_2 a2_3 a2_4).bind fun t245 => (if t245 = true then ((filter_Meet.f kj3 a0_0 a0_1 a0_2 a0_3 a0_4 a0_5 a0_6 a0_7 a0_8 a1_0 a1_1 a1_2 a1_3 a1_4 a1_5 a1_6 a1_7 a1_8).bind fun t246 => (crossbucklaw04_FilterMeets.j1 kj3 (!t246) a0_0 a0_1 a0_2 a0_3 a0_4 a0_5 a0_6 a0_7 a0_8 a1_0 a1_1 a1_2 a1_3 a1_4 a1_5 a1_6 a1_7 a1_8 t232 t233 t234 t235 t236)) else (crossbucklaw04_FilterMeets.j1 kj3 false a0_0 a0_1 a0_2 a0_3 a0_4 a0_5 a0_6 a0_7 a0_8 a1_0 a1_1 a1_2 a1_3 a1_4 a1_5 a1_6 a1_7 a1_8 t232 t233 t234 t235 t236))) else (crossbucklaw04_FilterMeets.j1 kj3 false a0_0 a0_1 a0_2 a0_3 a0_4 a0_5 a0_6 a0_7 a0_8 a1_0 a1_1 a1_2 a1_3 a1_4 a1_5 a1_6 a1_7 a1_8 t232 t233 t234 t235 t236))))) = some r := by rw [if_pos rfl] at H; exact H
      clear H
      have H := H1
      clear H1
      replace H := Option.bind_eq_some_iff.mp H
      obtain ⟨t239, A380, H⟩ := H
      replace H : (if t239 = true then ((hdr_Compare.f kj3 a2_0 a2_1 a2_2 a2_3 a2_4 t232 t233 t234 t235 t236).bind fun t240 => (if t240 < 0 then (crossbucklaw04_FilterMeets.j1 kj3 true a0_0 a0_1 a0_2 a0_3 a0_4 a0_5 a0_6 a0_7 a0_8 a1_0 a1_1 a1_2 a1_3 a1_4 a1_5 a1_6 a1_7 a1_8 t232 t233 t234 t235 t236) else ((crossbuckref04_Match.f kj3 a0_0 a0_1 a0_2 a0_3 a0_4 a0_5 a0_6 a0_7 a0_8 a2_0 a2_1 a2_2 a2_3 a2_4).bind fun t241 => (if t241 = true then ((crossbuckref04_Match.f kj3 a1_0 a1_1 a1_2 a1_3 a1_4 a1_5 a1_6 a1_7 a1_8 a2_0 a2_1 a2_2 a2_3 a2_4).bind fun t242 => (if t242 = true then ((filter_Meet.f kj3 a0_0 a0_1 a0_2 a0_3 a0_4 a0_5 a0_6 a0_7 a0_8 a1_0 a1_1 a1_2 a1_3 a1_4 a1_5 a1_6 a1_7 a1_8).bind fun t243 => (crossbucklaw04_FilterMeets.j1 kj3 (!t243) a0_0 a0_1 a0_2 a0_3 a0_4 a0_5 a0_6 a0_7 a0_8 a1_0 a1_1 a1_2 a1_3 a1_4 a1_5 a1_6 a1_7 a1_8 t232 t233 t234 t235 t236)) else (crossbucklaw04_FilterMeets.j1 kj3 false a0_0 a0_1 a0_2 a0_3 a0_4 a0_5 a0_6 a0_7 a0_8 a1_0 a1_1 a1_2 a1_3 a1_4 a1_5 a1_6 a1_7 a1_8 t232 t233 t234 t235 t236))) else (crossbucklaw04_FilterMeets.j1 kj3 false a0_0 a0_1 a0_2 a0_3 a0_4 a0_5 a0_6 a0_7 a0_8 a1_0 a1_1 a1_2 a1_3 a1_4 a1_5 a1_6 a1_7 a1_8 t232 t233 t234 t235 t236))))) else ((crossbuckref04_Match.f kj3 a0_0 a0_1 a0_2 a0_3 a0_4 a0_5 a0_6 a0_7 a0_8 a2_0 a2_1 a2_2 a2_3 a2_4).bind fun t244 => (if t244 = true then ((crossbuckref04_Match.f kj3 a1_0 a1_1 a1_2 a1_3 a1_4 a1_5 a1_6 a1_7 a1_8 a2_0 a2_1 a2_2 a2_3 a2_4).bind fun t245 => (if t245 = true then ((filter_Meet.f kj3 a0_0 a0_1 a0_2 a0_3 a0_4 a0_5 a0_6 a0_7 a0_8 a1_0 a1_1 a1_2 a1_3 a1_4 a1_5 a1_6 a1_7 a1_8).bind fun t246 => (crossbucklaw04_FilterMeets.j1 kj3 (!t246) a0_0 a0_1 a0_2 a0_3 a0_4 a0_5 a0_6 a0_7 a0_8 a1_0 a1_1 a1_2 a1_3 a1_4 a1_5 a1_6 a1_7 a1_8 t232 t233 t234 t235 t236)) else (crossbucklaw04_FilterMeets.j1 kj3 false a0_0 a0_1 a0_2 a0_3 a0_4 a0_5 a0_6 a0_7 a0_8 a1_0 a1_1 a1_2 a1_3 a1_4 a1_5 a1_6 a1_7 a1_8 t232 t233 t234 t235 t236))) else (crossbucklaw04_FilterMeets.j1 kj3 false a0_0 a0_1 a0_2 a0_3 a0_4 a0_5 a0_6 a0_7 a0_8 a1_0 a1_1 a1_2 a1_3 a1_4 a1_5 a1_6 a1_7 a1_8 t232 t233 t234 t235 t236)))) = some r := H
      have A38 := Aside0.mk A380
      clear A380
      by_cases c39 : t239 = true
      ·subst c39
       have H1 : ((hdr_Compare.f kj3 a2_0 a2_1 a2_2 a2_3 a2_4 t232 t233 t234 t235 t236).bind fun t240 => (if t240 < 0 then (crossbucklaw04_FilterMeets.j1 kj3 true a0_0 a0_1 a0_2 a0_3 a0_4 a0_5 a0_6 a0_7 a0_8 a1_0 a1_1 a1_2 a1_3 a1_4 a1_5 a1_6 a1_7 a1_8 t232 t233 t234 t235 t236) else ((crossbuckref04_Match.f kj3 a0_0 a0_1 a0_2 a0_3 a0_4 a0_5 a0_6 a0_7 a0_8 a2_0 a2_1 a2_2 a2_3 a2_4).bind fun t241 => (if t241 = true then ((crossbuckref04_Match.f kj3 a1_0 a1_1 a1_2 a1_3 a1_4 a1_5 a1_6 a1_7 a1_8 a2_0 a2_1 a2_2 a2_3 a2_4).bind fun t242 => (if t242 = true then ((filter_Meet.f kj3 a0_0 a0_1 a0_2 a0_3 a0_4 a0_5 a0_6 a0_7 a0_8 a1_0 a1_1 a1_2 a1_3 a1_4 a1_5 a1_6 a1_7 a1_8).bind fun t243 => (crossbucklaw04_FilterMeets.j1 kj3 (!t243) a0_0 a0_1 a0_2 a0_3 a0_4 a0_5 a0_6 a0_7 a0_8 a1_0 a1_1 a1_2 a1_3 a1_4 a1_5 a1_6 a1_7 a1_8 t232 t233 t234 t235 t236)) else (crossbucklaw04_FilterMeets.j1 kj3 false a0_0 a0_1 a0_2 a0_3 a0_4 a0_5 a0_6 a0_7 a0_8 a1_0 a1_1 a1_2 a1_3 a1_4 a1_5 a1_6 a1_7 a1_8 t232 t233 t234 t235 t236))) else (crossbucklaw04_FilterMeets.j1 kj3 false a0_0 a0_1 a0_2 a0_3 a0_4 a0_5 a0_6 a0_7 a0_8 a1_0 a1_1 a1_2 a1_3 a1_4 a1_5 a1_6 a1_7 a1_8 t232 t233 t234 t235 t236))))) = some r := by rw [if_pos rfl] at H; exact H
       clear H
       have H := H1
       clear H1
       replace H := Option.bind_eq_some_iff.mp H
       obtain ⟨t240, A400, H⟩ := H
       replace H : (if t240 < 0 then (crossbucklaw04_FilterMeets.j1 kj3 true a0_0 a0_1 a0_2 a0_3 a0_4 a0_5 a0_6 a0_7 a0_8 a1_0 a1_1 a1_2 a1_3 a1_4 a1_5 a1_6 a1_7 a1_8 t232 t233 t234 t235 t236) else ((crossbuckref04_Match.f kj3 a0_0 a0_1 a0_2 a0_3 a0_4 a0_5 a0_6 a0_7 a0_8 a2_0 a2_1 a2_2 a2_3 a2_4).bind fun t241 => (if t241 = true then ((crossbuckref04_Match.f kj3 a1_0 a1_1 a1_2 a1_3 a1_4 a1_5 a1_6 a1_7 a1_8 a2_0 a2_1 a2_2 a2_3 a2_4).bind fun t242 => (if t242 = true then ((filter_Meet.f kj3 a0_0 a0_1 a0_2 a0_3 a0_4 a0_5 a0_6 a0_7 a0_8 a1_0 a1_1 a1_2 a1_3 a1_4 a1_5 a1_6 a1_7 a1_8).bind fun t243 => (crossbucklaw04_FilterMeets.j1 kj3 (!t243) a0_0 a0_1 a0_2 a0_3 a0_4 a0_5 a0_6 a0_7 a0_8 a1_0 a1_1 a1_2 a1_3 a1_4 a1_5 a1_6 a1_7 a1_8 t232 t233 t234 t235 t236)) else (crossbucklaw04_FilterMeets.j1 kj3 false a0_0 a0_1 a0_2 a0_3 a0_4 a0_5 a0_6 a0_7 a0_8 a1_0 a1_1 a1_2 a1_3 a1_4 a1_5 a1_6 a1_7 a1_8 t232 t233 t234 t235 t236))) else (crossbucklaw04_FilterMeets.j1 kj3 false a0_0 a0_1 a0_2 a0_3 a0_4 a0_5 a0_6 a0_7 a0_8 a1_0 a1_1 a1_2 a1_3 a1_4 a1_5 a1_6 a1_7 a1_8 t232 t233 t234 t235 t236)))) = some r := H
       have A40 := Aside0.mk A400
       clear A400
       by_cases c41 : t240 < 0
       ·rw [if_pos c41] at H
        have c41b0 : decide (t240 < 0) = true := decide_eq_true c41
        clear c41
        (first | rw [c41b0] | (simp only [i64_w, i32_w]; rw [c41b0]) | skip)
        exfalso
        unfold crossbucklaw04_FilterMeets.j1 at H
        split at H
        ·exact absurd H (by simp)
        ·rw [if_pos rfl] at H
         exact absurd ((Option.some.inj H).trans hT.out) (by decide)
       ·rw [if_neg c41] at H
        have c41b0 : decide (t240 < 0) = false := decide_eq_false c41
        clear c41
        (first | rw [c41b0] | (simp only [i64_w, i32_w]; rw [c41b0]) | skip)
        replace H := Option.bind_eq_some_iff.mp H
        obtain ⟨t241, A420, H⟩ := H
        replace H : (if t241 = true then ((crossbuckref04_Match.f kj3 a1_0 a1_1 a1_2 a1_3 a1_4 a1_5 a1_6 a1_7 a1_8 a2_0 a2_1 a2_2 a2_3 a2_4).bind fun t242 => (if t242 = true then ((filter_Meet.f kj3 a0_0 a0_1 a0_2 a0_3 a0_4 a0_5 a0_6 a0_7 a0_8 a1_0 a1_1 a1_2 a1_3 a1_4 a1_5 a1_6 a1_7 a1_8).bind fun t243 => (crossbucklaw04_FilterMeets.j1 kj3 (!t243) a0_0 a0_1 a0_2 a0_3 a0_4 a0_5 a0_6 a0_7 a0_8 a1_0 a1_1 a1_2 a1_3 a1_4 a1_5 a1_6 a1_7 a1_8 t232 t233 t234 t235 t236)) else (crossbucklaw04_FilterMeets.j1 kj3 false a0_0 a0_1 a0_2 a0_3 a0_4 a0_5 a0_6 a0_7 a0_8 a1_0 a1_1 a1_2 a1_3 a1_4 a1_5 a1_6 a1_7 a1_8 t232 t233 t234 t235 t236))) else (crossbucklaw04_FilterMeets.j1 kj3 false a0_0 a0_1 a0_2 a0_3 a0_4 a0_5 a0_6 a0_7 a0_8 a1_0 a1_1 a1_2 a1_3 a1_4 a1_5 a1_6 a1_7 a1_8 t232 t233 t234 t235 t236)) = some r := H
        have A42 := Aside0.mk A420
        clear A420
        by_cases c43 : t241 = true
        ·subst c43
         have H1 : ((crossbuckref04_Match.f kj3 a1_0 a1_1 a1_2 a1_3 a1_4 a1_5 a1_6 a1_7 a1_8 a2_0 a2_1 a2_2 a2_3 a2_4).bind fun t242 => (if t242 = true then ((filter_Meet.f kj3 a0_0 a0_1 a0_2 a0_3 a0_4 a0_5 a0_6 a0_7 a0_8 a1_0 a1_1 a1_2 a1_3 a1_4 a1_5 a1_6 a1_7 a1_8).bind fun t243 => (crossbucklaw04_FilterMeets.j1 kj3 (!t243) a0_0 a0_1 a0_2 a0_3 a0_4 a0_5 a0_6 a0_7 a0_8 a1_0 a1_1 a1_2 a1_3 a1_4 a1_5 a1_6 a1_7 a1_8 t232 t233 t234 t235 t236)) else (crossbucklaw04_FilterMeets.j1 kj3 false a0_0 a0_1 a0_2 a0_3 a0_4 a0_5 a0_6 a0_7 a0_8 a1_0 a1_1 a1_2 a1_3 a1_4 a1_5 a1_6 a1_7 a1_8 t232 t233 t234 t235 t236))) = some r := by rw [if_pos rfl] at H; exact H
         clear H
         have H := H1
         clear H1
         replace H := Option.bind_eq_some_iff.mp H
         obtain ⟨t242, A440, H⟩ := H
         replace H : (if t242 = true then ((filter_Meet.f kj3 a0_0 a0_1 a0_2 a0_3 a0_4 a0_5 a0_6 a0_7 a0_8 a1_0 a1_1 a1_2 a1_3 a1_4 a1_5 a1_6 a1_7 a1_8).bind fun t243 => (crossbucklaw04_FilterMeets.j1 kj3 (!t243) a0_0 a0_1 a0_2 a0_3 a0_4 a0_5 a0_6 a0_7 a0_8 a1_0 a1_1 a1_2 a1_3 a1_4 a1_5 a1_6 a1_7 a1_8 t232 t233 t234 t235 t236)) else (crossbucklaw04_FilterMeets.j1 kj3 false a0_0 a0_1 a0_2 a0_3 a0_4 a0_5 a0_6 a0_7 a0_8 a1_0 a1_1 a1_2 a1_3 a1_4 a1_5 a1_6 a1_7 a1_8 t232 t233 t234 t235 t236)) = some r := H
         have A44 := Aside0.mk A440
         clear A440
         by_cases c45 : t242 = true
         ·subst c45
          have H1 : ((filter_Meet.f kj3 a0_0 a0_1 a0_2 a0_3 a0_4 a0_5 a0_6 a0_7 a0_8 a1_0 a1_1 a1_2 a1_3 a1_4 a1_5 a1_6 a1_7 a1_8).bind fun t243 => (crossbucklaw04_FilterMeets.j1 kj3 (!t243) a0_0 a0_1 a0_2 a0_3 a0_4 a0_5 a0_6 a0_7 a0_8 a1_0 a1_1 a1_2 a1_3 a1_4 a1_5 a1_6 a1_7 a1_8 t232 t233 t234 t235 t236)) = some r := by rw [if_pos rfl] at H; exact H
          clear H
          have H := H1
          clear H1
          replace H := Option.bind_eq_some_iff.mp H
          obtain ⟨t243, A460, H⟩ := H
          replace H : (crossbucklaw04_FilterMeets.j1 kj3 (!t243) a0_0 a0_1 a0_2 a0_3 a0_4 a0_5 a0_6 a0_7 a0_8 a1_0 a1_1 a1_2 a1_3 a1_4 a1_5 a1_6 a1_7 a1_8 t232 t233 t234 t235 t236) = some r := H
          have A46 := Aside0.mk A460
          clear A460
          have H' := Aside0.mk H
          clear H
          have hnb47 := NB226_227.out
          have hnc47 := NB227_226.out
          have hnb48 := NB226_228.out
          have hnc48 := NB228_226.out
          have hnb49 := NB226_237.out
          have hnc49 := NB237_226.out
          have hcz50 := cz9 BK226.out
          have hnb51 := NB237_227.out
          have hnc51 := NB227_237.out
          have hnb52 := NB237_228.out
          have hnc52 := NB228_237.out
          have hcz53 := cz5 BK237.out
          go_wp2_with (first | ((with_reducible refine gate_callee (f := 47) rfl ?_); refine goesL_ (some 23) rfl rfl Tryd.func47 (by kernel_rfl) rfl #[.agg #[.int .u32 a0_0, .int .i64 a0_1, .int .u32 a0_2, .int .i64 a0_3, .int .i64 a0_4, .int .u16 a0_5, .int .u16 a0_6, .int .u16 a0_7, .int .u16 a0_8], .agg #[.int .u32 t232, .int .u32 t233, .int .u8 t234, .int .u16 t235, .int .u16 t236]] rfl (by (try simp only [List.map_toArray, List.map_cons, List.map_nil]); first | done | rfl | (simp only [List.length_drop, List.length_take]; rfl)) ?_; (with_reducible refine (crossbuckref04_Match.calls kj3 a0_0 a0_1 a0_2 a0_3 a0_4 a0_5 a0_6 a0_7 a0_8 t232 t233 t234 t235 t236 true _ A36.out).mono ?_); rintro e w54 ⟨rfl, hb⟩; refine ⟨_, rfl, ?_⟩; have n0_ := Aside0.mk (blk_below (g := gb226) (o := .cells #[.int .u32 a0_0, .int .i64 a0_1, .int .u32 a0_2, .int .i64 a0_3, .int .i64 a0_4, .int .u16 a0_5, .int .u16 a0_6, .int .u16 a0_7, .int .u16 a0_8] 77 (0, 0)) (by (with_reducible repeat (first | refine blk_drewN ?_ _ | refine blk_drew ?_ | refine blk_alloc ?_ _)); refine blk_far ?_ NB226_237.out _; (with_reducible repeat (first | refine blk_drewN ?_ _ | refine blk_drew ?_ | refine blk_alloc ?_ _)); refine blk_far ?_ NB226_237.out _; (with_reducible repeat (first | refine blk_drewN ?_ _ | refine blk_drew ?_ | refine blk_alloc ?_ _)); refine blk_far ?_ NB226_237.out _; (with_reducible repeat (first | refine blk_drewN ?_ _ | refine blk_drew ?_ | refine blk_alloc ?_ _)); refine blk_far ?_ NB226_237.out _; (with_reducible repeat (first | refine blk_drewN ?_ _ | refine blk_drew ?_ | refine blk_alloc ?_ _)); refine blk_far ?_ NB226_237.out _; (with_reducible repeat (first | refine blk_drewN ?_ _ | refine blk_drew ?_ | refine blk_alloc ?_ _)); exact BK226.out) hb); have n1_ := Aside0.mk (blk_below (g := gb227) (o := .cells #[.int .u32 a1_0, .int .i64 a1_1, .int .u32 a1_2, .int .i64 a1_3, .int .i64 a1_4, .int .u16 a1_5, .int .u16 a1_6, .int .u16 a1_7, .int .u16 a1_8] 77 (0, 0)) (by (with_reducible repeat (first | refine blk_drewN ?_ _ | refine blk_drew ?_ | refine blk_alloc ?_ _)); refine blk_far ?_ NB227_237.out _; (with_reducible repeat (first | refine blk_drewN ?_ _ | refine blk_drew ?_ | refine blk_alloc ?_ _)); refine blk_far ?_ NB227_237.out _; (with_reducible repeat (first | refine blk_drewN ?_ _ | refine blk_drew ?_ | refine blk_alloc ?_ _)); refine blk_far ?_ NB227_237.out _; (with_reducible repeat (first | refine blk_drewN ?_ _ | refine blk_drew ?_ | refine blk_alloc ?_ _)); refine blk_far ?_ NB227_237.out _; (with_reducible repeat (first | refine blk_drewN ?_ _ | refine blk_drew ?_ | refine blk_alloc ?_ _)); refine blk_far ?_ NB227_237.out _; (with_reducible repeat (first | refine blk_drewN ?_ _ | refine blk_drew ?_ | refine blk_alloc ?_ _)); exact BK227.out) hb); have n2_ := Aside0.mk (blk_below (g := gb228) (o := .cells #[.int .u32 a2_0, .int .u32 a2_1, .int .u8 a2_2, .int .u16 a2_3, .int .u16 a2_4] 67 (0, 0)) (by (with_reducible repeat (first | refine blk_drewN ?_ _ | refine blk_drew ?_ | refine blk_alloc ?_ _)); refine blk_far ?_ NB228_237.out _; (with_reducible repeat (first | refine blk_drewN ?_ _ | refine blk_drew ?_ | refine blk_alloc ?_ _)); refine blk_far ?_ NB228_237.out _; (with_reducible repeat (first | refine blk_drewN ?_ _ | refine blk_drew ?_ | refine blk_alloc ?_ _)); refine blk_far ?_ NB228_237.out _; (with_reducible repeat (first | refine blk_drewN ?_ _ | refine blk_drew ?_ | refine blk_alloc ?_ _)); refine blk_far ?_ NB228_237.out _; (with_reducible repeat (first | refine blk_drewN ?_ _ | refine blk_drew ?_ | refine blk_alloc ?_ _)); refine blk_far ?_ NB228_237.out _; (with_reducible repeat (first | refine blk_drewN ?_ _ | refine blk_drew ?_ | refine blk_alloc ?_ _)); exact BK228.out) hb); have n3_ := Aside0.mk (blk_below (g := gb237) (o := .cells #[.int .u32 t232, .int .u32 t233, .int .u8 t234, .int .u16 t235, .int .u16 t236] 67 (0, 0)) (by (with_reducible repeat (first | refine blk_drewN ?_ _ | refine blk_drew ?_ | refine blk_alloc ?_ _)); refine blk_put (cs := #[.int .u32 t232, .int .u32 t233, .int .u8 t234, .int .u16 t235, .int .u16 0]) ?_ 4 _ rfl; (with_reducible repeat (first | refine blk_drewN ?_ _ | refine blk_drew ?_ | refine blk_alloc ?_ _)); refine blk_put (cs := #[.int .u32 t232, .int .u32 t233, .int .u8 t234, .int .u16 0, .int .u16 0]) ?_ 3 _ rfl; (with_reducible repeat (first | refine blk_drewN ?_ _ | refine blk_drew ?_ | refine blk_alloc ?_ _)); refine blk_put (cs := #[.int .u32 t232, .int .u32 t233, .int .u8 0, .int .u16 0, .int .u16 0]) ?_ 2 _ rfl; (with_reducible repeat (first | refine blk_drewN ?_ _ | refine blk_drew ?_ | refine blk_alloc ?_ _)); refine blk_put (cs := #[.int .u32 t232, .int .u32 0, .int .u8 0, .int .u16 0, .int .u16 0]) ?_ 1 _ rfl; (with_reducible repeat (first | refine blk_drewN ?_ _ | refine blk_drew ?_ | refine blk_alloc ?_ _)); refine blk_put (cs := #[.int .u32 0, .int .u32 0, .int .u8 0, .int .u16 0, .int .u16 0]) ?_ 0 _ rfl; (with_reducible repeat (first | refine blk_drewN ?_ _ | refine blk_drew ?_ | refine blk_alloc ?_ _)); exact BK237.out) hb); have n4_ := Aside0.mk (below_step (by repeat (first | (with_reducible first | exact HB.out | apply below_alloc | apply pw_below_drewN | apply below_drew1 | refine below_set ?_ GE226.out | refine below_set ?_ GE227.out | refine below_set ?_ GE228.out | refine below_set ?_ GE237.out) | exact HB.out)) hb); clear BK226; clear BK227; clear BK228; clear BK237; clear HB; have BK226 := n0_; have BK227 := n1_; have BK228 := n2_; have BK237 := n3_; have HB := n4_; clear n0_ n1_ n2_ n3_ n4_; (try clear hb); (try clear hb2); (try clear hk); (try clear hi); have hcz55 := cz9 BK226.out; have hnb56 := NB228_227.out; have hnc56 := NB227_228.out; have hcz57 := cz5 BK228.out) | (go_at_call 47; (with_reducible refine (crossbuckref04_Match.calls kj3 a0_0 a0_1 a0_2 a0_3 a0_4 a0_5 a0_6 a0_7 a0_8 a2_0 a2_1 a2_2 a2_3 a2_4 true _ A38.out).mono ?_); rintro e w58 ⟨rfl, hb⟩; have n0_ := Aside0.mk (bb BK226.out hb); have n1_ := Aside0.mk (bb BK227.out hb); have n2_ := Aside0.mk (bb BK228.out hb); have n3_ := Aside0.mk (bb BK237.out hb); have n4_ := Aside0.mk (below_step (by repeat (first | (with_reducible first | exact HB.out | apply below_alloc | apply pw_below_drewN | apply below_drew1 | refine below_set ?_ GE226.out | refine below_set ?_ GE227.out | refine below_set ?_ GE228.out | refine below_set ?_ GE237.out) | exact HB.out)) hb); clear BK226; clear BK227; clear BK228; clear BK237; clear HB; have BK226 := n0_; have BK227 := n1_; have BK228 := n2_; have BK237 := n3_; have HB := n4_; clear n0_ n1_ n2_ n3_ n4_; (try clear hb); (try clear hb2); (try clear hk); (try clear hi); have hcz59 := cz5 BK228.out; have hcz60 := cz5 BK237.out; have hcz60b := cz9 BK227.out) | (go_at_call 39; (with_reducible refine (hdr_Compare.calls kj3 a2_0 a2_1 a2_2 a2_3 a2_4 t232 t233 t234 t235 t236 t240 _ A40.out).mono ?_); rintro e w61 ⟨rfl, hb⟩; have n0_ := Aside0.mk (bb BK226.out hb); have n1_ := Aside0.mk (bb BK227.out hb); have n2_ := Aside0.mk (bb BK228.out hb); have n3_ := Aside0.mk (bb BK237.out hb); have n4_ := Aside0.mk (below_step (by repeat (first | (with_reducible first | exact HB.out | apply below_alloc | apply pw_below_drewN | apply below_drew1 | refine below_set ?_ GE226.out | refine below_set ?_ GE227.out | refine below_set ?_ GE228.out | refine below_set ?_ GE237.out) | exact HB.out)) hb); clear BK226; clear BK227; clear BK228; clear BK237; clear HB; have BK226 := n0_; have BK227 := n1_; have BK228 := n2_; have BK237 := n3_; have HB := n4_; clear n0_ n1_ n2_ n3_ n4_; (try clear hb); (try clear hb2); (try clear hk); (try clear hi); have hcz62 := cz9 BK226.out; have hcz63 := cz5 BK228.out) | (go_at_call 47; (with_reducible refine (crossbuckref04_Match.calls kj3 a0_0 a0_1 a0_2 a0_3 a0_4 a0_5 a0_6 a0_7 a0_8 a2_0 a2_1 a2_2 a2_3 a2_4 true _ A42.out).mono ?_); rintro e w64 ⟨rfl, hb⟩; have n0_ := Aside0.mk (bb BK226.out hb); have n1_ := Aside0.mk (bb BK227.out hb); have n2_ := Aside0.mk (bb BK228.out hb); have n3_ := Aside0.mk (bb BK237.out hb); have n4_ := Aside0.mk (below_step (by repeat (first | (with_reducible first | exact HB.out | apply below_alloc | apply pw_below_drewN | apply below_drew1 | refine below_set ?_ GE226.out | refine below_set ?_ GE227.out | refine below_set ?_ GE228.out | refine below_set ?_ GE237.out) | exact HB.out)) hb); clear BK226; clear BK227; clear BK228; clear BK237; clear HB; have BK226 := n0_; have BK227 := n1_; have BK228 := n2_; have BK237 := n3_; have HB := n4_; clear n0_ n1_ n2_ n3_ n4_; (try clear hb); (try clear hb2); (try clear hk); (try clear hi); have hcz65 := cz9 BK227.out; have hcz66 := cz5 BK228.out) | (go_at_call 47; (with_reducible refine (crossbuckref04_Match.calls kj3 a1_0 a1_1 a1_2 a1_3 a1_4 a1_5 a1_6 a1_7 a1_8 a2_0 a2_1 a2_2 a2_3 a2_4 true _ A44.out).mono ?_); rintro e w67 ⟨rfl, hb⟩; have n0_ := Aside0.mk (bb BK226.out hb); have n1_ := Aside0.mk (bb BK227.out hb); have n2_ := Aside0.mk (bb BK228.out hb); have n3_ := Aside0.mk (bb BK237.out hb); have n4_ := Aside0.mk (below_step (by repeat (first | (with_reducible first | exact HB.out | apply below_alloc | apply pw_below_drewN | apply below_drew1 | refine below_set ?_ GE226.out | refine below_set ?_ GE227.out | refine below_set ?_ GE228.out | refine below_set ?_ GE237.out) | exact HB.out)) hb); clear BK226; clear BK227; clear BK228; clear BK237; clear HB; have BK226 := n0_; have BK227 := n1_; have BK228 := n2_; have BK237 := n3_; have HB := n4_; clear n0_ n1_ n2_ n3_ n4_; (try clear hb); (try clear hb2); (try clear hk); (try clear hi); have hcz68 := cz9 BK226.out; have hcz69 := cz9 BK227.out) | (go_at_call 48; (with_reducible refine (filter_Meet.calls kj3 a0_0 a0_1 a0_2 a0_3 a0_4 a0_5 a0_6 a0_7 a0_8 a1_0 a1_1 a1_2 a1_3 a1_4 a1_5 a1_6 a1_7 a1_8 t243 _ A46.out).mono ?_); rintro e w70 ⟨rfl, hb⟩; have n0_ := Aside0.mk (bb BK226.out hb); have n1_ := Aside0.mk (bb BK227.out hb); have n2_ := Aside0.mk (bb BK228.out hb); have n3_ := Aside0.mk (bb BK237.out hb); have n4_ := Aside0.mk (below_step (by repeat (first | (with_reducible first | exact HB.out | apply below_alloc | apply pw_below_drewN | apply below_drew1 | refine below_set ?_ GE226.out | refine below_set ?_ GE227.out | refine below_set ?_ GE228.out | refine below_set ?_ GE237.out) | exact HB.out)) hb); clear BK226; clear BK227; clear BK228; clear BK237; clear HB; have BK226 := n0_; have BK227 := n1_; have BK228 := n2_; have BK237 := n3_; have HB := n4_; clear n0_ n1_ n2_ n3_ n4_; (try clear hb); (try clear hb2); (try clear hk); (try clear hi)))
          go_meet
          case rel => exact ⟨_, (!t243), (by first | rfl | (simp; done) | (simp [*]; done)), H', ⟨by have := HJ3.out; first | omega | exact Nat.le_refl _⟩, ⟨by (with_reducible repeat (first | refine blk_drewN ?_ _ | refine blk_drew ?_ | refine blk_alloc ?_ _)); exact BK226.out⟩, ⟨by (with_reducible repeat (first | refine blk_drewN ?_ _ | refine blk_drew ?_ | refine blk_alloc ?_ _)); exact BK227.out⟩, ⟨by (with_reducible repeat (first | refine blk_drewN ?_ _ | refine blk_drew ?_ | refine blk_alloc ?_ _)); exact BK228.out⟩, ⟨by (with_reducible repeat (first | refine blk_drewN ?_ _ | refine blk_drew ?_ | refine blk_alloc ?_ _)); exact BK237.out⟩, ⟨by repeat (first | (with_reducible first | exact HB.out | apply below_alloc | apply pw_below_drewN | apply below_drew1 | refine below_set ?_ GE226.out | refine below_set ?_ GE227.out | refine below_set ?_ GE228.out | refine below_set ?_ GE237.out) | exact HB.out)⟩⟩
         ·replace c45 := Bool.eq_false_iff.mpr c45
          subst c45
          have H1 : (crossbucklaw04_FilterMeets.j1 kj3 false a0_0 a0_1 a0_2 a0_3 a0_4 a0_5 a0_6 a0_7 a0_8 a1_0 a1_1 a1_2 a1_3 a1_4 a1_5 a1_6 a1_7 a1_8 t232 t233 t234 t235 t236) = some r := by rw [if_neg (show ¬ (false = true) by decide)] at H; exact H
          clear H
          have H := H1
          clear H1
          have H' := Aside0.mk H
          clear H
          have hnb71 := NB226_227.out
          have hnc71 := NB227_226.out
          have hnb72 := NB226_228.out
          have hnc72 := NB228_226.out
          have hnb73 := NB226_237.out
          have hnc73 := NB237_226.out
          have hcz74 := cz9 BK226.out
          have hnb75 := NB237_227.out
          have hnc75 := NB227_237.out
          have hnb76 := NB237_228.out
          have hnc76 := NB228_237.out
          have hcz77 := cz5 BK237.out
          go_wp2_with (first | ((with_reducible refine gate_callee (f := 47) rfl ?_); refine goesL_ (some 23) rfl rfl Tryd.func47 (by kernel_rfl) rfl #[.agg #[.int .u32 a0_0, .int .i64 a0_1, .int .u32 a0_2, .int .i64 a0_3, .int .i64 a0_4, .int .u16 a0_5, .int .u16 a0_6, .int .u16 a0_7, .int .u16 a0_8], .agg #[.int .u32 t232, .int .u32 t233, .int .u8 t234, .int .u16 t235, .int .u16 t236]] rfl (by (try simp only [List.map_toArray, List.map_cons, List.map_nil]); first | done | rfl | (simp only [List.length_drop, List.length_take]; rfl)) ?_; (with_reducible refine (crossbuckref04_Match.calls kj3 a0_0 a0_1 a0_2 a0_3 a0_4 a0_5 a0_6 a0_7 a0_8 t232 t233 t234 t235 t236 true _ A36.out).mono ?_); rintro e w78 ⟨rfl, hb⟩; refine ⟨_, rfl, ?_⟩; have n0_ := Aside0.mk (blk_below (g := gb226) (o := .cells #[.int .u32 a0_0, .int .i64 a0_1, .int .u32 a0_2, .int .i64 a0_3, .int .i64 a0_4, .int .u16 a0_5, .int .u16 a0_6, .int .u16 a0_7, .int .u16 a0_8] 77 (0, 0)) (by (with_reducible repeat (first | refine blk_drewN ?_ _ | refine blk_drew ?_ | refine blk_alloc ?_ _)); refine blk_far ?_ NB226_237.out _; (with_reducible repeat (first | refine blk_drewN ?_ _ | refine blk_drew ?_ | refine blk_alloc ?_ _)); refine blk_far ?_ NB226_237.out _; (with_reducible repeat (first | refine blk_drewN ?_ _ | refine blk_drew ?_ | refine blk_alloc ?_ _)); refine blk_far ?_ NB226_237.out _; (with_reducible repeat (first | refine blk_drewN ?_ _ | refine blk_drew ?_ | refine blk_alloc ?_ _)); refine blk_far ?_ NB226_237.out _; (with_reducible repeat (first | refine blk_drewN ?_ _ | refine blk_drew ?_ | refine blk_alloc ?_ _)); refine blk_far ?_ NB226_237.out _; (with_reducible repeat (first | refine blk_drewN ?_ _ | refine blk_drew ?_ | refine blk_alloc ?_ _)); exact BK226.out) hb); have n1_ := Aside0.mk (blk_below (g := gb227) (o := .cells #[.int .u32 a1_0, .int .i64 a1_1, .int .u32 a1_2, .int .i64 a1_3, .int .i64 a1_4, .int .u16 a1_5, .int .u16 a1_6, .int .u16 a1_7, .int .u16 a1_8] 77 (0, 0)) (by (with_reducible repeat (first | refine blk_drewN ?_ _ | refine blk_drew ?_ | refine blk_alloc ?_ _)); refine blk_far ?_ NB227_237.out _; (with_reducible repeat (first | refine blk_drewN ?_ _ | refine blk_drew ?_ | refine blk_alloc ?_ _)); refine blk_far ?_ NB227_237.out _; (with_reducible repeat (first | refine blk_drewN ?_ _ | refine blk_drew ?_ | refine blk_alloc ?_ _)); refine blk_far ?_ NB227_237.out _; (with_reducible repeat (first | refine blk_drewN ?_ _ | refine blk_drew ?_ | refine blk_alloc ?_ _)); refine blk_far ?_ NB227_237.out _; (with_reducible repeat (first | refine blk_drewN ?_ _ | refine blk_drew ?_ | refine blk_alloc ?_ _)); refine blk_far ?_ NB227_237.out _; (with_reducible repeat (first | refine blk_drewN ?_ _ | refine blk_drew ?_ | refine blk_alloc ?_ _)); exact BK227.out) hb); have n2_ := Aside0.mk (blk_below (g := gb228) (o := .cells #[.int .u32 a2_0, .int .u32 a2_1, .int .u8 a2_2, .int .u16 a2_3, .int .u16 a2_4] 67 (0, 0)) (by (with_reducible repeat (first | refine blk_drewN ?_ _ | refine blk_drew ?_ | refine blk_alloc ?_ _)); refine blk_far ?_ NB228_237.out _; (with_reducible repeat (first | refine blk_drewN ?_ _ | refine blk_drew ?_ | refine blk_alloc ?_ _)); refine blk_far ?_ NB228_237.out _; (with_reducible repeat (first | refine blk_drewN ?_ _ | refine blk_drew ?_ | refine blk_alloc ?_ _)); refine blk_far ?_ NB228_237.out _; (with_reducible repeat (first | refine blk_drewN ?_ _ | refine blk_drew ?_ | refine blk_alloc ?_ _)); refine blk_far ?_ NB228_237.out _; (with_reducible repeat (first | refine blk_drewN ?_ _ | refine blk_drew ?_ | refine blk_alloc ?_ _)); refine blk_far ?_ NB228_237.out _; (with_reducible repeat (first | refine blk_drewN ?_ _ | refine blk_drew ?_ | refine blk_alloc ?_ _)); exact BK228.out) hb); have n3_ := Aside0.mk (blk_below (g := gb237) (o := .cells #[.int .u32 t232, .int .u32 t233, .int .u8 t234, .int .u16 t235, .int .u16 t236] 67 (0, 0)) (by (with_reducible repeat (first | refine blk_drewN ?_ _ | refine blk_drew ?_ | refine blk_alloc ?_ _)); refine blk_put (cs := #[.int .u32 t232, .int .u32 t233, .int .u8 t234, .int .u16 t235, .int .u16 0]) ?_ 4 _ rfl; (with_reducible repeat (first | refine blk_drewN ?_ _ | refine blk_drew ?_ | refine blk_alloc ?_ _)); refine blk_put (cs := #[.int .u32 t232, .int .u32 t233, .int .u8 t234, .int .u16 0, .int .u16 0]) ?_ 3 _ rfl; (with_reducible repeat (first | refine blk_drewN ?_ _ | refine blk_drew ?_ | refine blk_alloc ?_ _)); refine blk_put (cs := #[.int .u32 t232, .int .u32 t233, .int .u8 0, .int .u16 0, .int .u16 0]) ?_ 2 _ rfl; (with_reducible repeat (first | refine blk_drewN ?_ _ | refine blk_drew ?_ | refine blk_alloc ?_ _)); refine blk_put (cs := #[.int .u32 t232, .int .u32 0, .int .u8 0, .int .u16 0, .int .u16 0]) ?_ 1 _ rfl; (with_reducible repeat (first | refine blk_drewN ?_ _ | refine blk_drew ?_ | refine blk_alloc ?_ _)); refine blk_put (cs := #[.int .u32 0, .int .u32 0, .int .u8 0, .int .u16 0, .int .u16 0]) ?_ 0 _ rfl; (with_reducible repeat (first | refine blk_drewN ?_ _ | refine blk_drew ?_ | refine blk_alloc ?_ _)); exact BK237.out) hb); have n4_ := Aside0.mk (below_step (by repeat (first | (with_reducible first | exact HB.out | apply below_alloc | apply pw_below_drewN | apply below_drew1 | refine below_set ?_ GE226.out | refine below_set ?_ GE227.out | refine below_set ?_ GE228.out | refine below_set ?_ GE237.out) | exact HB.out)) hb); clear BK226; clear BK227; clear BK228; clear BK237; clear HB; have BK226 := n0_; have BK227 := n1_; have BK228 := n2_; have BK237 := n3_; have HB := n4_; clear n0_ n1_ n2_ n3_ n4_; (try clear hb); (try clear hb2); (try clear hk); (try clear hi); have hcz79 := cz9 BK226.out; have hnb80 := NB228_227.out; have hnc80 := NB227_228.out; have hcz81 := cz5 BK228.out) | (go_at_call 47; (with_reducible refine (crossbuckref04_Match.calls kj3 a0_0 a0_1 a0_2 a0_3 a0_4 a0_5 a0_6 a0_7 a0_8 a2_0 a2_1 a2_2 a2_3 a2_4 true _ A38.out).mono ?_); rintro e w82 ⟨rfl, hb⟩; have n0_ := Aside0.mk (bb BK226.out hb); have n1_ := Aside0.mk (bb BK227.out hb); have n2_ := Aside0.mk (bb BK228.out hb); have n3_ := Aside0.mk (bb BK237.out hb); have n4_ := Aside0.mk (below_step (by repeat (first | (with_reducible first | exact HB.out | apply below_alloc | apply pw_below_drewN | apply below_drew1 | refine below_set ?_ GE226.out | refine below_set ?_ GE227.out | refine below_set ?_ GE228.out | refine below_set ?_ GE237.out) | exact HB.out)) hb); clear BK226; clear BK227; clear BK228; clear BK237; clear HB; have BK226 := n0_; have BK227 := n1_; have BK228 := n2_; have BK237 := n3_; have HB := n4_; clear n0_ n1_ n2_ n3_ n4_; (try clear hb); (try clear hb2); (try clear hk); (try clear hi); have hcz83 := cz5 BK228.out; have hcz84 := cz5 BK237.out; have hcz84b := cz9 BK227.out) | (go_at_call 39; (with_reducible refine (hdr_Compare.calls kj3 a2_0 a2_1 a2_2 a2_3 a2_4 t232 t233 t234 t235 t236 t240 _ A40.out).mono ?_); rintro e w85 ⟨rfl, hb⟩; have n0_ := Aside0.mk (bb BK226.out hb); have n1_ := Aside0.mk (bb BK227.out hb); have n2_ := Aside0.mk (bb BK228.out hb); have n3_ := Aside0.mk (bb BK237.out hb); have n4_ := Aside0.mk (below_step (by repeat (first | (with_reducible first | exact HB.out | apply below_alloc | apply pw_below_drewN | apply below_drew1 | refine below_set ?_ GE226.out | refine below_set ?_ GE227.out | refine below_set ?_ GE228.out | refine below_set ?_ GE237.out) | exact HB.out)) hb); clear BK226; clear BK227; clear BK228; clear BK237; clear HB; have BK226 := n0_; have BK227 := n1_; have BK228 := n2_; have BK237 := n3_; have HB := n4_; clear n0_ n1_ n2_ n3_ n4_; (try clear hb); (try clear hb2); (try clear hk); (try clear hi); have hcz86 := cz9 BK226.out; have hcz87 := cz5 BK228.out) | (go_at_call 47; (with_reducible refine (crossbuckref04_Match.calls kj3 a0_0 a0_1 a0_2 a0_3 a0_4 a0_5 a0_6 a0_7 a0_8 a2_0 a2_1 a2_2 a2_3 a2_4 true _ A42.out).mono ?_); rintro e w88 ⟨rfl, hb⟩; have n0_ := Aside0.mk (bb BK226.out hb); have n1_ := Aside0.mk (bb BK227.out hb); have n2_ := Aside0.mk (bb BK228.out hb); have n3_ := Aside0.mk (bb BK237.out hb); have n4_ := Aside0.mk (below_step (by repeat (first | (with_reducible first | exact HB.out | apply below_alloc | apply pw_below_drewN | apply below_drew1 | refine below_set ?_ GE226.out | refine below_set ?_ GE227.out | refine below_set ?_ GE228.out | refine below_set ?_ GE237.out) | exact HB.out)) hb); clear BK226; clear BK227; clear BK228; clear BK237; clear HB; have BK226 := n0_; have BK227 := n1_; have BK228 := n2_; have BK237 := n3_; have HB := n4_; clear n0_ n1_ n2_ n3_ n4_; (try clear hb); (try clear hb2); (try clear hk); (try clear hi); have hcz89 := cz9 BK227.out; have hcz90 := cz5 BK228.out) | (go_at_call 47; (with_reducible refine (crossbuckref04_Match.calls kj3 a1_0 a1_1 a1_2 a1_3 a1_4 a1_5 a1_6 a1_7 a1_8 a2_0 a2_1 a2_2 a2_3 a2_4 false _ A44.out).mono ?_); rintro e w91 ⟨rfl, hb⟩; have n0_ := Aside0.mk (bb BK226.out hb); have n1_ := Aside0.mk (bb BK227.out hb); have n2_ := Aside0.mk (bb BK228.out hb); have n3_ := Aside0.mk (bb BK237.out hb); have n4_ := Aside0.mk (below_step (by repeat (first | (with_reducible first | exact HB.out | apply below_alloc | apply pw_below_drewN | apply below_drew1 | refine below_set ?_ GE226.out | refine below_set ?_ GE227.out | refine below_set ?_ GE228.out | refine below_set ?_ GE237.out) | exact HB.out)) hb); clear BK226; clear BK227; clear BK228; clear BK237; clear HB; have BK226 := n0_; have BK227 := n1_; have BK228 := n2_; have BK237 := n3_; have HB := n4_; clear n0_ n1_ n2_ n3_ n4_; (try clear hb); (try clear hb2); (try clear hk); (try clear hi)))
          go_meet
          case rel => exact ⟨_, (false), (by first | rfl | (simp; done) | (simp [*]; done)), H', ⟨by have := HJ3.out; first | omega | exact Nat.le_refl _⟩, ⟨by (with_reducible repeat (first | refine blk_drewN ?_ _ | refine blk_drew ?_ | refine blk_alloc ?_ _)); exact BK226.out⟩, ⟨by (with_reducible repeat (first | refine blk_drewN ?_ _ | refine blk_drew ?_ | refine blk_alloc ?_ _)); exact BK227.out⟩, ⟨by (with_reducible repeat (first | refine blk_drewN ?_ _ | refine blk_drew ?_ | refine blk_alloc ?_ _)); exact BK228.out⟩, ⟨by (with_reducible repeat (first | refine blk_drewN ?_ _ | refine blk_drew ?_ | refine blk_alloc ?_ _)); exact BK237.out⟩, ⟨by repeat (first | (with_reducible first | exact HB.out | apply below_alloc | apply pw_below_drewN | apply below_drew1 | refine below_set ?_ GE226.out | refine below_set ?_ GE227.out | refine below_set ?_ GE228.out | refine below_set ?_ GE237.out) | exact HB.out)⟩⟩
        ·replace c43 := Bool.eq_false_iff.mpr c43
         subst c43
         have H1 : (crossbucklaw04_FilterMeets.j1 kj3 false a0_0 a0_1 a0_2 a0_3 a0_4 a0_5 a0_6 a0_7 a0_8 a1_0 a1_1 a1_2 a1_3 a1_4 a1_5 a1_6 a1_7 a1_8 t232 t233 t234 t235 t236) = some r := by rw [if_neg (show ¬ (false = true) by decide)] at H; exact H
         clear H
         have H := H1
         clear H1
         have H' := Aside0.mk H
         clear H
         have hnb92 := NB226_227.out
         have hnc92 := NB227_226.out
         have hnb93 := NB226_228.out
         have hnc93 := NB228_226.out
         have hnb94 := NB226_237.out
         have hnc94 := NB237_226.out
         have hcz95 := cz9 BK226.out
         have hnb96 := NB237_227.out
         have hnc96 := NB227_237.out
         have hnb97 := NB237_228.out
         have hnc97 := NB228_237.out
         have hcz98 := cz5 BK237.out
         exact absurd (A38.out.symm.trans A42.out) (by simp)
      ·replace c39 := Bool.eq_false_iff.mpr c39
       subst c39
       have H1 : ((crossbuckref04_Match.f kj3 a0_0 a0_1 a0_2 a0_3 a0_4 a0_5 a0_6 a0_7 a0_8 a2_0 a2_1 a2_2 a2_3 a2_4).bind fun t244 => (if t244 = true then ((crossbuckref04_Match.f kj3 a1_0 a1_1 a1_2 a1_3 a1_4 a1_5 a1_6 a1_7 a1_8 a2_0 a2_1 a2_2 a2_3 a2_4).bind fun t245 => (if t245 = true then ((filter_Meet.f kj3 a0_0 a0_1 a0_2 a0_3 a0_4 a0_5 a0_6 a0_7 a0_8 a1_0 a1_1 a1_2 a1_3 a1_4 a1_5 a1_6 a1_7 a1_8).bind fun t246 => (crossbucklaw04_FilterMeets.j1 kj3 (!t246) a0_0 a0_1 a0_2 a0_3 a0_4 a0_5 a0_6 a0_7 a0_8 a1_0 a1_1 a1_2 a1_3 a1_4 a1_5 a1_6 a1_7 a1_8 t232 t233 t234 t235 t236)) else (crossbucklaw04_FilterMeets.j1 kj3 false a0_0 a0_1 a0_2 a0_3 a0_4 a0_5 a0_6 a0_7 a0_8 a1_0 a1_1 a1_2 a1_3 a1_4 a1_5 a1_6 a1_7 a1_8 t232 t233 t234 t235 t236))) else (crossbucklaw04_FilterMeets.j1 kj3 false a0_0 a0_1 a0_2 a0_3 a0_4 a0_5 a0_6 a0_7 a0_8 a1_0 a1_1 a1_2 a1_3 a1_4 a1_5 a1_6 a1_7 a1_8 t232 t233 t234 t235 t236))) = some r := by rw [if_neg (show ¬ (false = true) by decide)] at H; exact H
       clear H
       have H := H1
       clear H1
       replace H := Option.bind_eq_some_iff.mp H
       obtain ⟨t244, A1100, H⟩ := H
       replace H : (if t244 = true then ((crossbuckref04_Match.f kj3 a1_0 a1_1 a1_2 a1_3 a1_4 a1_5 a1_6 a1_7 a1_8 a2_0 a2_1 a2_2 a2_3 a2_4).bind fun t245 => (if t245 = true then ((filter_Meet.f kj3 a0_0 a0_1 a0_2 a0_3 a0_4 a0_5 a0_6 a0_7 a0_8 a1_0 a1_1 a1_2 a1_3 a1_4 a1_5 a1_6 a1_7 a1_8).bind fun t246 => (crossbucklaw04_FilterMeets.j1 kj3 (!t246) a0_0 a0_1 a0_2 a0_3 a0_4 a0_5 a0_6 a0_7 a0_8 a1_0 a1_1 a1_2 a1_3 a1_4 a1_5 a1_6 a1_7 a1_8 t232 t233 t234 t235 t236)) else (crossbucklaw04_FilterMeets.j1 kj3 false a0_0 a0_1 a0_2 a0_3 a0_4 a0_5 a0_6 a0_7 a0_8 a1_0 a1_1 a1_2 a1_3 a1_4 a1_5 a1_6 a1_7 a1_8 t232 t233 t234 t235 t236))) else (crossbucklaw04_FilterMeets.j1 kj3 false a0_0 a0_1 a0_2 a0_3 a0_4 a0_5 a0_6 a0_7 a0_8 a1_0 a1_1 a1_2 a1_3 a1_4 a1_5 a1_6 a1_7 a1_8 t232 t233 t234 t235 t236)) = some r := H
       have A110 := Aside0.mk A1100
       clear A1100
       by_cases c111 : t244 = true
       ·subst c111
        have H1 : ((crossbuckref04_Match.f kj3 a1_0 a1_1 a1_2 a1_3 a1_4 a1_5 a1_6 a1_7 a1_8 a2_0 a2_1 a2_2 a2_3 a2_4).bind fun t245 => (if t245 = true then ((filter_Meet.f kj3 a0_0 a0_1 a0_2 a0_3 a0_4 a0_5 a0_6 a0_7 a0_8 a1_0 a1_1 a1_2 a1_3 a1_4 a1_5 a1_6 a1_7 a1_8).bind fun t246 => (crossbucklaw04_FilterMeets.j1 kj3 (!t246) a0_0 a0_1 a0_2 a0_3 a0_4 a0_5 a0_6 a0_7 a0_8 a1_0 a1_1 a1_2 a1_3 a1_4 a1_5 a1_6 a1_7 a1_8 t232 t233 t234 t235 t236)) else (crossbucklaw04_FilterMeets.j1 kj3 false a0_0 a0_1 a0_2 a0_3 a0_4 a0_5 a0_6 a0_7 a0_8 a1_0 a1_1 a1_2 a1_3 a1_4 a1_5 a1_6 a1_7 a1_8 t232 t233 t234 t235 t236))) = some r := by rw [if_pos rfl] at H; exact H
        clear H
        have H := H1
        clear H1
        replace H := Option.bind_eq_some_iff.mp H
        obtain ⟨t245, A1120, H⟩ := H
        replace H : (if t245 = true then ((filter_Meet.f kj3 a0_0 a0_1 a0_2 a0_3 a0_4 a0_5 a0_6 a0_7 a0_8 a1_0 a1_1 a1_2 a1_3 a1_4 a1_5 a1_6 a1_7 a1_8).bind fun t246 => (crossbucklaw04_FilterMeets.j1 kj3 (!t246) a0_0 a0_1 a0_2 a0_3 a0_4 a0_5 a0_6 a0_7 a0_8 a1_0 a1_1 a1_2 a1_3 a1_4 a1_5 a1_6 a1_7 a1_8 t232 t233 t234 t235 t236)) else (crossbucklaw04_FilterMeets.j1 kj3 false a0_0 a0_1 a0_2 a0_3 a0_4 a0_5 a0_6 a0_7 a0_8 a1_0 a1_1 a1_2 a1_3 a1_4 a1_5 a1_6 a1_7 a1_8 t232 t233 t234 t235 t236)) = some r := H
        have A112 := Aside0.mk A1120
        clear A1120
        by_cases c113 : t245 = true
        ·subst c113
         have H1 : ((filter_Meet.f kj3 a0_0 a0_1 a0_2 a0_3 a0_4 a0_5 a0_6 a0_7 a0_8 a1_0 a1_1 a1_2 a1_3 a1_4 a1_5 a1_6 a1_7 a1_8).bind fun t246 => (crossbucklaw04_FilterMeets.j1 kj3 (!t246) a0_0 a0_1 a0_2 a0_3 a0_4 a0_5 a0_6 a0_7 a0_8 a1_0 a1_1 a1_2 a1_3 a1_4 a1_5 a1_6 a1_7 a1_8 t232 t233 t234 t235 t236)) = some r := by rw [if_pos rfl] at H; exact H
         clear H
         have H := H1
         clear H1
         replace H := Option.bind_eq_some_iff.mp H
         obtain ⟨t246, A1140, H⟩ := H
         replace H : (crossbucklaw04_FilterMeets.j1 kj3 (!t246) a0_0 a0_1 a0_2 a0_3 a0_4 a0_5 a0_6 a0_7 a0_8 a1_0 a1_1 a1_2 a1_3 a1_4 a1_5 a1_6 a1_7 a1_8 t232 t233 t234 t235 t236) = some r := H
         have A114 := Aside0.mk A1140
         clear A1140
         have H' := Aside0.mk H
         clear H
         have hnb115 := NB226_227.out
         have hnc115 := NB227_226.out
         have hnb116 := NB226_228.out
         have hnc116 := NB228_226.out
         have hnb117 := NB226_237.out
         have hnc117 := NB237_226.out
         have hcz118 := cz9 BK226.out
         have hnb119 := NB237_227.out
         have hnc119 := NB227_237.out
         have hnb120 := NB237_228.out
         have hnc120 := NB228_237.out
         have hcz121 := cz5 BK237.out
         exact absurd (A38.out.symm.trans A110.out) (by simp)
        ·replace c113 := Bool.eq_false_iff.mpr c113
         subst c113
         have H1 : (crossbucklaw04_FilterMeets.j1 kj3 false a0_0 a0_1 a0_2 a0_3 a0_4 a0_5 a0_6 a0_7 a0_8 a1_0 a1_1 a1_2 a1_3 a1_4 a1_5 a1_6 a1_7 a1_8 t232 t233 t234 t235 t236) = some r := by rw [if_neg (show ¬ (false = true) by decide)] at H; exact H
         clear H
         have H := H1
         clear H1
         have H' := Aside0.mk H
         clear H
         have hnb136 := NB226_227.out
         have hnc136 := NB227_226.out
         have hnb137 := NB226_228.out
         have hnc137 := NB228_226.out
         have hnb138 := NB226_237.out
         have hnc138 := NB237_226.out
         have hcz139 := cz9 BK226.out
         have hnb140 := NB237_227.out
         have hnc140 := NB227_237.out
         have hnb141 := NB237_228.out
         have hnc141 := NB228_237.out
         have hcz142 := cz5 BK237.out
         exact absurd (A38.out.symm.trans A110.out) (by simp)
       ·replace c111 := Bool.eq_false_iff.mpr c111
        subst c111
        have H1 : (crossbucklaw04_FilterMeets.j1 kj3 false a0_0 a0_1 a0_2 a0_3 a0_4 a0_5 a0_6 a0_7 a0_8 a1_0 a1_1 a1_2 a1_3 a1_4 a1_5 a1_6 a1_7 a1_8 t232 t233 t234 t235 t236) = some r := by rw [if_neg (show ¬ (false = true) by decide)] at H; exact H
        clear H
        have H := H1
        clear H1
        have H' := Aside0.mk H
        clear H
        have hnb154 := NB226_227.out
        have hnc154 := NB227_226.out
        have hnb155 := NB226_228.out
        have hnc155 := NB228_226.out
        have hnb156 := NB226_237.out
        have hnc156 := NB237_226.out
        have hcz157 := cz9 BK226.out
        have hnb158 := NB237_227.out
        have hnc158 := NB227_237.out
        have hnb159 := NB237_228.out
        have hnc159 := NB228_237.out
        have hcz160 := cz5 BK237.out
        go_wp2_with (first | ((with_reducible refine gate_callee (f := 47) rfl ?_); refine goesL_ (some 23) rfl rfl Tryd.func47 (by kernel_rfl) rfl #[.agg #[.int .u32 a0_0, .int .i64 a0_1, .int .u32 a0_2, .int .i64 a0_3, .int .i64 a0_4, .int .u16 a0_5, .int .u16 a0_6, .int .u16 a0_7, .int .u16 a0_8], .agg #[.int .u32 t232, .int .u32 t233, .int .u8 t234, .int .u16 t235, .int .u16 t236]] rfl (by (try simp only [List.map_toArray, List.map_cons, List.map_nil]); first | done | rfl | (simp only [List.length_drop, List.length_take]; rfl)) ?_; (with_reducible refine (crossbuckref04_Match.calls kj3 a0_0 a0_1 a0_2 a0_3 a0_4 a0_5 a0_6 a0_7 a0_8 t232 t233 t234 t235 t236 true _ A36.out).mono ?_); rintro e w161 ⟨rfl, hb⟩; refine ⟨_, rfl, ?_⟩; have n0_ := Aside0.mk (blk_below (g := gb226) (o := .cells #[.int .u32 a0_0, .int .i64 a0_1, .int .u32 a0_2, .int .i64 a0_3, .int .i64 a0_4, .int .u16 a0_5, .int .u16 a0_6, .int .u16 a0_7, .int .u16 a0_8] 77 (0, 0)) (by (with_reducible repeat (first | refine blk_drewN ?_ _ | refine blk_drew ?_ | refine blk_alloc ?_ _)); refine blk_far ?_ NB226_237.out _; (with_reducible repeat (first | refine blk_drewN ?_ _ | refine blk_drew ?_ | refine blk_alloc ?_ _)); refine blk_far ?_ NB226_237.out _; (with_reducible repeat (first | refine blk_drewN ?_ _ | refine blk_drew ?_ | refine blk_alloc ?_ _)); refine blk_far ?_ NB226_237.out _; (with_reducible repeat (first | refine blk_drewN ?_ _ | refine blk_drew ?_ | refine blk_alloc ?_ _)); refine blk_far ?_ NB226_237.out _; (with_reducible repeat (first | refine blk_drewN ?_ _ | refine blk_drew ?_ | refine blk_alloc ?_ _)); refine blk_far ?_ NB226_237.out _; (with_reducible repeat (first | refine blk_drewN ?_ _ | refine blk_drew ?_ | refine blk_alloc ?_ _)); exact BK226.out) hb); have n1_ := Aside0.mk (blk_below (g := gb227) (o := .cells #[.int .u32 a1_0, .int .i64 a1_1, .int .u32 a1_2, .int .i64 a1_3, .int .i64 a1_4, .int .u16 a1_5, .int .u16 a1_6, .int .u16 a1_7, .int .u16 a1_8] 77 (0, 0)) (by (with_reducible repeat (first | refine blk_drewN ?_ _ | refine blk_drew ?_ | refine blk_alloc ?_ _)); refine blk_far ?_ NB227_237.out _; (with_reducible repeat (first | refine blk_drewN ?_ _ | refine blk_drew ?_ | refine blk_alloc ?_ _)); refine blk_far ?_ NB227_237.out _; (with_reducible repeat (first | refine blk_drewN ?_ _ | refine blk_drew ?_ | refine blk_alloc ?_ _)); refine blk_far ?_ NB227_237.out _; (with_reducible repeat (first | refine blk_drewN ?_ _ | refine blk_drew ?_ | refine blk_alloc ?_ _)); refine blk_far ?_ NB227_237.out _; (with_reducible repeat (first | refine blk_drewN ?_ _ | refine blk_drew ?_ | refine blk_alloc ?_ _)); refine blk_far ?_ NB227_237.out _; (with_reducible repeat (first | refine blk_drewN ?_ _ | refine blk_drew ?_ | refine blk_alloc ?_ _)); exact BK227.out) hb); have n2_ := Aside0.mk (blk_below (g := gb228) (o := .cells #[.int .u32 a2_0, .int .u32 a2_1, .int .u8 a2_2, .int .u16 a2_3, .int .u16 a2_4] 67 (0, 0)) (by (with_reducible repeat (first | refine blk_drewN ?_ _ | refine blk_drew ?_ | refine blk_alloc ?_ _)); refine blk_far ?_ NB228_237.out _; (with_reducible repeat (first | refine blk_drewN ?_ _ | refine blk_drew ?_ | refine blk_alloc ?_ _)); refine blk_far ?_ NB228_237.out _; (with_reducible repeat (first | refine blk_drewN ?_ _ | refine blk_drew ?_ | refine blk_alloc ?_ _)); refine blk_far ?_ NB228_237.out _; (with_reducible repeat (first | refine blk_drewN ?_ _ | refine blk_drew ?_ | refine blk_alloc ?_ _)); refine blk_far ?_ NB228_237.out _; (with_reducible repeat (first | refine blk_drewN ?_ _ | refine blk_drew ?_ | refine blk_alloc ?_ _)); refine blk_far ?_ NB228_237.out _; (with_reducible repeat (first | refine blk_drewN ?_ _ | refine blk_drew ?_ | refine blk_alloc ?_ _)); exact BK228.out) hb); have n3_ := Aside0.mk (blk_below (g := gb237) (o := .cells #[.int .u32 t232, .int .u32 t233, .int .u8 t234, .int .u16 t235, .int .u16 t236] 67 (0, 0)) (by (with_reducible repeat (first | refine blk_drewN ?_ _ | refine blk_drew ?_ | refine blk_alloc ?_ _)); refine blk_put (cs := #[.int .u32 t232, .int .u32 t233, .int .u8 t234, .int .u16 t235, .int .u16 0]) ?_ 4 _ rfl; (with_reducible repeat (first | refine blk_drewN ?_ _ | refine blk_drew ?_ | refine blk_alloc ?_ _)); refine blk_put (cs := #[.int .u32 t232, .int .u32 t233, .int .u8 t234, .int .u16 0, .int .u16 0]) ?_ 3 _ rfl; (with_reducible repeat (first | refine blk_drewN ?_ _ | refine blk_drew ?_ | refine blk_alloc ?_ _)); refine blk_put (cs := #[.int .u32 t232, .int .u32 t233, .int .u8 0, .int .u16 0, .int .u16 0]) ?_ 2 _ rfl; (with_reducible repeat (first | refine blk_drewN ?_ _ | refine blk_drew ?_ | refine blk_alloc ?_ _)); refine blk_put (cs := #[.int .u32 t232, .int .u32 0, .int .u8 0, .int .u16 0, .int .u16 0]) ?_ 1 _ rfl; (with_reducible repeat (first | refine blk_drewN ?_ _ | refine blk_drew ?_ | refine blk_alloc ?_ _)); refine blk_put (cs := #[.int .u32 0, .int .u32 0, .int .u8 0, .int .u16 0, .int .u16 0]) ?_ 0 _ rfl; (with_reducible repeat (first | refine blk_drewN ?_ _ | refine blk_drew ?_ | refine blk_alloc ?_ _)); exact BK237.out) hb); have n4_ := Aside0.mk (below_step (by repeat (first | (with_reducible first | exact HB.out | apply below_alloc | apply pw_below_drewN | apply below_drew1 | refine below_set ?_ GE226.out | refine below_set ?_ GE227.out | refine below_set ?_ GE228.out | refine below_set ?_ GE237.out) | exact HB.out)) hb); clear BK226; clear BK227; clear BK228; clear BK237; clear HB; have BK226 := n0_; have BK227 := n1_; have BK228 := n2_; have BK237 := n3_; have HB := n4_; clear n0_ n1_ n2_ n3_ n4_; (try clear hb); (try clear hb2); (try clear hk); (try clear hi); have hcz162 := cz9 BK226.out; have hnb163 := NB228_227.out; have hnc163 := NB227_228.out; have hcz164 := cz5 BK228.out) | (go_at_call 47; (with_reducible refine (crossbuckref04_Match.calls kj3 a0_0 a0_1 a0_2 a0_3 a0_4 a0_5 a0_6 a0_7 a0_8 a2_0 a2_1 a2_2 a2_3 a2_4 false _ A38.out).mono ?_); rintro e w165 ⟨rfl, hb⟩; have n0_ := Aside0.mk (bb BK226.out hb); have n1_ := Aside0.mk (bb BK227.out hb); have n2_ := Aside0.mk (bb BK228.out hb); have n3_ := Aside0.mk (bb BK237.out hb); have n4_ := Aside0.mk (below_step (by repeat (first | (with_reducible first | exact HB.out | apply below_alloc | apply pw_below_drewN | apply below_drew1 | refine below_set ?_ GE226.out | refine below_set ?_ GE227.out | refine below_set ?_ GE228.out | refine below_set ?_ GE237.out) | exact HB.out)) hb); clear BK226; clear BK227; clear BK228; clear BK237; clear HB; have BK226 := n0_; have BK227 := n1_; have BK228 := n2_; have BK237 := n3_; have HB := n4_; clear n0_ n1_ n2_ n3_ n4_; (try clear hb); (try clear hb2); (try clear hk); (try clear hi); have hcz166 := cz9 BK226.out; have hcz167 := cz5 BK228.out) | (go_at_call 47; (with_reducible refine (crossbuckref04_Match.calls kj3 a0_0 a0_1 a0_2 a0_3 a0_4 a0_5 a0_6 a0_7 a0_8 a2_0 a2_1 a2_2 a2_3 a2_4 false _ A110.out).mono ?_); rintro e w168 ⟨rfl, hb⟩; have n0_ := Aside0.mk (bb BK226.out hb); have n1_ := Aside0.mk (bb BK227.out hb); have n2_ := Aside0.mk (bb BK228.out hb); have n3_ := Aside0.mk (bb BK237.out hb); have n4_ := Aside0.mk (below_step (by repeat (first | (with_reducible first | exact HB.out | apply below_alloc | apply pw_below_drewN | apply below_drew1 | refine below_set ?_ GE226.out | refine below_set ?_ GE227.out | refine below_set ?_ GE228.out | refine below_set ?_ GE237.out) | exact HB.out)) hb); clear BK226; clear BK227; clear BK228; clear BK237; clear HB; have BK226 := n0_; have BK227 := n1_; have BK228 := n2_; have BK237 := n3_; have HB := n4_; clear n0_ n1_ n2_ n3_ n4_; (try clear hb); (try clear hb2); (try clear hk); (try clear hi)))
        go_meet
        case rel => exact ⟨_, (false), (by first | rfl | (simp; done) | (simp [*]; done)), H', ⟨by have := HJ3.out; first | omega | exact Nat.le_refl _⟩, ⟨by (with_reducible repeat (first | refine blk_drewN ?_ _ | refine blk_drew ?_ | refine blk_alloc ?_ _)); exact BK226.out⟩, ⟨by (with_reducible repeat (first | refine blk_drewN ?_ _ | refine blk_drew ?_ | refine blk_alloc ?_ _)); exact BK227.out⟩, ⟨by (with_reducible repeat (first | refine blk_drewN ?_ _ | refine blk_drew ?_ | refine blk_alloc ?_ _)); exact BK228.out⟩, ⟨by (with_reducible repeat (first | refine blk_drewN ?_ _ | refine blk_drew ?_ | refine blk_alloc ?_ _)); exact BK237.out⟩, ⟨by repeat (first | (with_reducible first | exact HB.out | apply below_alloc | apply pw_below_drewN | apply below_drew1 | refine below_set ?_ GE226.out | refine below_set ?_ GE227.out | refine below_set ?_ GE228.out | refine below_set ?_ GE237.out) | exact HB.out)⟩⟩
     ·replace c37 := Bool.eq_false_iff.mpr c37
      subst c37
      have H1 : (crossbucklaw04_FilterMeets.j1 kj3 true a0_0 a0_1 a0_2 a0_3 a0_4 a0_5 a0_6 a0_7 a0_8 a1_0 a1_1 a1_2 a1_3 a1_4 a1_5 a1_6 a1_7 a1_8 t232 t233 t234 t235 t236) = some r := by rw [if_neg (show ¬ (false = true) by decide)] at H; exact H
      clear H
      have H := H1
      clear H1
      exfalso
      unfold crossbucklaw04_FilterMeets.j1 at H
      split at H
      ·exact absurd H (by simp)
      ·rw [if_pos rfl] at H
       exact absurd ((Option.some.inj H).trans hT.out) (by decide)
    case rest =>
     clear HC26
     try clear c1
     try clear c2
     try clear p2
     try clear c3
     try clear c4
     try clear c5
     try clear c7
     try clear c8
     try clear c9
     try clear c9b0
     try clear c9b1
     try clear c10
     try clear c11
     try clear c12
     try clear c13
     try clear c14
     try clear c15
     try clear c16
     try clear c18
     try clear c19
     try clear c22
     try clear c27
     try clear c28
     try clear c32
     try clear c33
     try clear c34
     try clear c37
     try clear c39
     try clear c41
     try clear c41b0
     try clear c43
     try clear c45
     try clear c46
     try clear c47
     try clear c48
     try clear c49
     try clear c51
     try clear c52
     try clear c56
     try clear c71
     try clear c72
     try clear c73
     try clear c75
     try clear c76
     try clear c80
     try clear c92
     try clear c93
     try clear c94
     try clear c96
     try clear c97
     try clear c101
     try clear c111
     try clear c113
     try clear c115
     try clear c116
     try clear c117
     try clear c119
     try clear c120
     try clear c124
     try clear c136
     try clear c137
     try clear c138
     try clear c140
     try clear c141
     try clear c145
     try clear c154
     try clear c155
     try clear c156
     try clear c158
     try clear c159
     try clear c163
     try clear hcz100
     try clear hcz102
     try clear hcz104
     try clear hcz105
     try clear hcz107
     try clear hcz108
     try clear hcz118
     try clear hcz121
     try clear hcz123
     try clear hcz125
     try clear hcz127
     try clear hcz128
     try clear hcz130
     try clear hcz131
     try clear hcz133
     try clear hcz134
     try clear hcz139
     try clear hcz13
     try clear hcz142
     try clear hcz144
     try clear hcz146
     try clear hcz148
     try clear hcz149
     try clear hcz151
     try clear hcz152
     try clear hcz157
     try clear hcz160
     try clear hcz162
     try clear hcz164
     try clear hcz166
     try clear hcz167
     try clear hcz16
     try clear hcz20
     try clear hcz29
     try clear hcz35
     try clear hcz50
     try clear hcz53
     try clear hcz55
     try clear hcz57
     try clear hcz59
     try clear hcz60
     try clear hcz62
     try clear hcz63
     try clear hcz65
     try clear hcz66
     try clear hcz68
     try clear hcz69
     try clear hcz74
     try clear hcz77
     try clear hcz79
     try clear hcz81
     try clear hcz83
     try clear hcz84
     try clear hcz86
     try clear hcz87
     try clear hcz89
     try clear hcz90
     try clear hcz95
     try clear hcz98
     try clear p2
     obtain ⟨kq, x51_25, rfl, HA, HJ25, BK226, BK227, BK228, BK237, HB⟩ := hcut
     cases kq with
     | zero => exact absurd HA.out (by simp [crossbucklaw04_FilterMeets.j1])
     | succ kj25 =>
      have H := HA.out
      clear HA
      simp only [crossbucklaw04_FilterMeets.j1] at H
      by_cases c169 : x51_25 = true
      ·subst c169
       have H1 : (some false) = some r := by rw [if_pos rfl] at H; exact H
       clear H
       have H := H1
       clear H1
       exact absurd ((Option.some.inj H).trans hT.out) (by decide)
      ·replace c169 := Bool.eq_false_iff.mpr c169
       subst c169
       have H1 : ((filter_Meet.f kj25 a0_0 a0_1 a0_2 a0_3 a0_4 a0_5 a0_6 a0_7 a0_8 a1_0 a1_1 a1_2 a1_3 a1_4 a1_5 a1_6 a1_7 a1_8).bind fun t247 => ((filter_Meet.f kj25 a1_0 a1_1 a1_2 a1_3 a1_4 a1_5 a1_6 a1_7 a1_8 a0_0 a0_1 a0_2 a0_3 a0_4 a0_5 a0_6 a0_7 a0_8).bind fun t248 => (if (t247 != t248) = true then (crossbucklaw04_FilterMeets.j2 kj25 true a0_0 a0_1 a0_2 a0_3 a0_4 a0_5 a0_6 a0_7 a0_8 a1_0 a1_1 a1_2 a1_3 a1_4 a1_5 a1_6 a1_7 a1_8 t232 t233 t234 t235 t236) else ((filter_Meet.f kj25 a0_0 a0_1 a0_2 a0_3 a0_4 a0_5 a0_6 a0_7 a0_8 a0_0 a0_1 a0_2 a0_3 a0_4 a0_5 a0_6 a0_7 a0_8).bind fun t249 => (crossbucklaw04_FilterMeets.j2 kj25 (!t249) a0_0 a0_1 a0_2 a0_3 a0_4 a0_5 a0_6 a0_7 a0_8 a1_0 a1_1 a1_2 a1_3 a1_4 a1_5 a1_6 a1_7 a1_8 t232 t233 t234 t235 t236))))) = some r := by rw [if_neg (show ¬ (false = true) by decide)] at H; exact H
       clear H
       have H := H1
       clear H1
       have HC170 := Aside0.mk H
       clear H
       go_upto_region 6 with (fail)
       go_cut [64] (fun v64 wc => ∃ (kq : Nat) (x64_169 : Bool), v64 = .bool x64_169 ∧ Aside0 (crossbucklaw04_FilterMeets.j2 kq x64_169 a0_0 a0_1 a0_2 a0_3 a0_4 a0_5 a0_6 a0_7 a0_8 a1_0 a1_1 a1_2 a1_3 a1_4 a1_5 a1_6 a1_7 a1_8 t232 t233 t234 t235 t236 = some r) ∧ Aside0 (kq ≤ kj25) ∧ Aside0 (wc.heap[gb226]? = some (.cells #[.int .u32 a0_0, .int .i64 a0_1, .int .u32 a0_2, .int .i64 a0_3, .int .i64 a0_4, .int .u16 a0_5, .int .u16 a0_6, .int .u16 a0_7, .int .u16 a0_8] 77 (0, 0))) ∧ Aside0 (wc.heap[gb227]? = some (.cells #[.int .u32 a1_0, .int .i64 a1_1, .int .u32 a1_2, .int .i64 a1_3, .int .i64 a1_4, .int .u16 a1_5, .int .u16 a1_6, .int .u16 a1_7, .int .u16 a1_8] 77 (0, 0))) ∧ Aside0 (wc.heap[gb228]? = some (.cells #[.int .u32 a2_0, .int .u32 a2_1, .int .u8 a2_2, .int .u16 a2_3, .int .u16 a2_4] 67 (0, 0))) ∧ Aside0 (wc.heap[gb237]? = some (.cells #[.int .u32 t232, .int .u32 t233, .int .u8 t234, .int .u16 t235, .int .u16 t236] 67 (0, 0))) ∧ Aside0 (Below w.heap.size w wc))
       case first =>
        have H := HC170.out
        clear HC170
        replace H := Option.bind_eq_some_iff.mp H
        obtain ⟨t247, A1710, H⟩ := H
        replace H : ((filter_Meet.f kj25 a1_0 a1_1 a1_2 a1_3 a1_4 a1_5 a1_6 a1_7 a1_8 a0_0 a0_1 a0_2 a0_3 a0_4 a0_5 a0_6 a0_7 a0_8).bind fun t248 => (if (t247 != t248) = true then (crossbucklaw04_FilterMeets.j2 kj25 true a0_0 a0_1 a0_2 a0_3 a0_4 a0_5 a0_6 a0_7 a0_8 a1_0 a1_1 a1_2 a1_3 a1_4 a1_5 a1_6 a1_7 a1_8 t232 t233 t234 t235 t236) else ((filter_Meet.f kj25 a0_0 a0_1 a0_2 a0_3 a0_4 a0_5 a0_6 a0_7 a0_8 a0_0 a0_1 a0_2 a0_3 a0_4 a0_5 a0_6 a0_7 a0_8).bind fun t249 => (crossbucklaw04_FilterMeets.j2 kj25 (!t249) a0_0 a0_1 a0_2 a0_3 a0_4 a0_5 a0_6 a0_7 a0_8 a1_0 a1_1 a1_2 a1_3 a1_4 a1_5 a1_6 a1_7 a1_8 t232 t233 t234 t235 t236)))) = some r := H
        have A171 := Aside0.mk A1710
        clear A1710
        replace H := Option.bind_eq_some_iff.mp H
        obtain ⟨t248, A1720, H⟩ := H
        replace H : (if (t247 != t248) = true then (crossbucklaw04_FilterMeets.j2 kj25 true a0_0 a0_1 a0_2 a0_3 a0_4 a0_5 a0_6 a0_7 a0_8 a1_0 a1_1 a1_2 a1_3 a1_4 a1_5 a1_6 a1_7 a1_8 t232 t233 t234 t235 t236) else ((filter_Meet.f kj25 a0_0 a0_1 a0_2 a0_3 a0_4 a0_5 a0_6 a0_7 a0_8 a0_0 a0_1 a0_2 a0_3 a0_4 a0_5 a0_6 a0_7 a0_8).bind fun t249 => (crossbucklaw04_FilterMeets.j2 kj25 (!t249) a0_0 a0_1 a0_2 a0_3 a0_4 a0_5 a0_6 a0_7 a0_8 a1_0 a1_1 a1_2 a1_3 a1_4 a1_5 a1_6 a1_7 a1_8 t232 t233 t234 t235 t236))) = some r := H
        have A172 := Aside0.mk A1720
        clear A1720
        by_cases c173 : (t247 != t248) = true
        ·rw [if_pos c173] at H
         have c173b0 : (t247 != t248) = true := c173
         (try (have c173b1 : decide (t247 = t248) = false := by simpa using c173))
         (try (have c173b2 : (t247 == t248) = false := by simpa using c173))
         (try (have c173b3 : ¬ (t247 = t248) := by simpa using c173))
         clear c173
         (first | rw [c173b0] | (simp only [i64_w, i32_w]; rw [c173b0]) | skip)
         exfalso
         unfold crossbucklaw04_FilterMeets.j2 at H
         split at H
         ·exact absurd H (by simp)
         ·rw [if_pos rfl] at H
          exact absurd ((Option.some.inj H).trans hT.out) (by decide)
        ·rw [if_neg c173] at H
         have c173b0 : (t247 != t248) = false := by simpa using c173
         (try (have c173b1 : decide (t247 = t248) = true := by simpa using c173))
         (try (have c173b2 : (t247 == t248) = true := by simpa using c173))
         clear c173
         (first | rw [c173b0] | (simp only [i64_w, i32_w]; rw [c173b0]) | skip)
         replace H := Option.bind_eq_some_iff.mp H
         obtain ⟨t249, A1740, H⟩ := H
         replace H : (crossbucklaw04_FilterMeets.j2 kj25 (!t249) a0_0 a0_1 a0_2 a0_3 a0_4 a0_5 a0_6 a0_7 a0_8 a1_0 a1_1 a1_2 a1_3 a1_4 a1_5 a1_6 a1_7 a1_8 t232 t233 t234 t235 t236) = some r := H
         have A174 := Aside0.mk A1740
         clear A1740
         have H' := Aside0.mk H
         clear H
         try go_wp2
         have n0_ := Aside0.mk (blk_drew BK226.out)
         have n1_ := Aside0.mk (blk_drew BK227.out)
         have n2_ := Aside0.mk (blk_drew BK228.out)
         have n3_ := Aside0.mk (blk_drew BK237.out)
         have n4_ := Aside0.mk (below_drew1 HB.out)
         clear BK226
         clear BK227
         clear BK228
         clear BK237
         clear HB
         have BK226 := n0_
         have BK227 := n1_
         have BK228 := n2_
         have BK237 := n3_
         have HB := n4_
         clear n0_ n1_ n2_ n3_ n4_
         refine start_ (n := 13) (S := fun w' => w'.cell? ⟨gb226, 0, none⟩ = some (.int .u32 a0_0) ∧ w'.cell? ⟨gb226, 1, none⟩ = some (.int .i64 a0_1) ∧ w'.cell? ⟨gb226, 2, none⟩ = some (.int .u32 a0_2) ∧ w'.cell? ⟨gb226, 3, none⟩ = some (.int .i64 a0_3) ∧ w'.cell? ⟨gb226, 4, none⟩ = some (.int .i64 a0_4) ∧ w'.cell? ⟨gb226, 5, none⟩ = some (.int .u16 a0_5) ∧ w'.cell? ⟨gb226, 6, none⟩ = some (.int .u16 a0_6) ∧ w'.cell? ⟨gb226, 7, none⟩ = some (.int .u16 a0_7) ∧ w'.cell? ⟨gb226, 8, none⟩ = some (.int .u16 a0_8) ∧ w'.cell? ⟨gb227, 0, none⟩ = some (.int .u32 a1_0) ∧ w'.cell? ⟨gb227, 1, none⟩ = some (.int .i64 a1_1) ∧ w'.cell? ⟨gb227, 2, none⟩ = some (.int .u32 a1_2) ∧ w'.cell? ⟨gb227, 3, none⟩ = some (.int .i64 a1_3) ∧ w'.cell? ⟨gb227, 4, none⟩ = some (.int .i64 a1_4) ∧ w'.cell? ⟨gb227, 5, none⟩ = some (.int .u16 a1_5) ∧ w'.cell? ⟨gb227, 6, none⟩ = some (.int .u16 a1_6) ∧ w'.cell? ⟨gb227, 7, none⟩ = some (.int .u16 a1_7) ∧ w'.cell? ⟨gb227, 8, none⟩ = some (.int .u16 a1_8)) (ds := []) #[false, false, false, false, false, false, false, false, false, false, false, false, false] (by kernel_rfl) rfl rfl ⟨(blk_cell BK226.out 0).trans rfl, (blk_cell BK226.out 1).trans rfl, (blk_cell BK226.out 2).trans rfl, (blk_cell BK226.out 3).trans rfl, (blk_cell BK226.out 4).trans rfl, (blk_cell BK226.out 5).trans rfl, (blk_cell BK226.out 6).trans rfl, (blk_cell BK226.out 7).trans rfl, (blk_cell BK226.out 8).trans rfl, (blk_cell BK227.out 0).trans rfl, (blk_cell BK227.out 1).trans rfl, (blk_cell BK227.out 2).trans rfl, (blk_cell BK227.out 3).trans rfl, (blk_cell BK227.out 4).trans rfl, (blk_cell BK227.out 5).trans rfl, (blk_cell BK227.out 6).trans rfl, (blk_cell BK227.out 7).trans rfl, (blk_cell BK227.out 8).trans rfl⟩ (fun hHeld => ?_); refine with_tabW crossbucklaw04_FilterMeets.tab6 crossbucklaw04_FilterMeets.bits6 (fun HT_ HW_ => ?_)
         generalize wc.drew = w175 at BK226 BK227 BK228 BK237 HB hHeld ⊢
         refine take_ (i := 0) (N := some 52) (v := ?_) (a' := ?_) #[true, false, false, false, false, false, false, false, false, false, false, false, false] rfl rfl (take_ofW HT_.out HW_.out (by kernel_rfl)) (fun _ _ _ h => h) (Or.inl ⟨by rfl, ?_⟩) hHeld ?_ ?_
         rotate_left
         ·rintro w' ⟨s0, s1, s2, s3, s4, s5, s6, s7, s8, s9, s10, s11, s12, s13, s14, s15, s16, s17⟩
          go_simp
          with_reducible rfl
         rotate_left
         ·simp only [Act.put, List.setIfInBounds_toArray, List.set_cons_zero, List.set_cons_succ, i64_w, i32_w]
          rfl
         refine take_ (i := 1) (N := some 53) (v := ?_) (a' := ?_) #[true, true, false, false, false, false, false, false, false, false, false, false, false] rfl rfl (take_ofW HT_.out HW_.out (by kernel_rfl)) (fun _ _ _ h => h) (Or.inl ⟨by rfl, ?_⟩) hHeld ?_ ?_
         rotate_left
         ·rintro w' ⟨s0, s1, s2, s3, s4, s5, s6, s7, s8, s9, s10, s11, s12, s13, s14, s15, s16, s17⟩
          go_simp
          with_reducible rfl
         rotate_left
         ·simp only [Act.put, List.setIfInBounds_toArray, List.set_cons_zero, List.set_cons_succ, i64_w, i32_w]
          rfl
         refine take_ (i := 3) (N := some 55) (v := ?_) (a' := ?_) #[true, true, false, true, false, false, false, false, false, false, false, false, false] rfl rfl (take_ofW HT_.out HW_.out (by kernel_rfl)) (fun _ _ _ h => h) (Or.inl ⟨by rfl, ?_⟩) hHeld ?_ ?_
         rotate_left
         ·rintro w' ⟨s0, s1, s2, s3, s4, s5, s6, s7, s8, s9, s10, s11, s12, s13, s14, s15, s16, s17⟩
          go_simp
          with_reducible rfl
         rotate_left
         ·simp only [Act.put, List.setIfInBounds_toArray, List.set_cons_zero, List.set_cons_succ, i64_w, i32_w]
          rfl
         refine take_ (i := 4) (N := some 56) (v := ?_) (a' := ?_) #[true, true, false, true, true, false, false, false, false, false, false, false, false] rfl rfl (take_ofW HT_.out HW_.out (by kernel_rfl)) (fun _ _ _ h => h) (Or.inl ⟨by rfl, ?_⟩) hHeld ?_ ?_
         rotate_left
         ·rintro w' ⟨s0, s1, s2, s3, s4, s5, s6, s7, s8, s9, s10, s11, s12, s13, s14, s15, s16, s17⟩
          go_simp
          with_reducible rfl
         rotate_left
         ·simp only [Act.put, List.setIfInBounds_toArray, List.set_cons_zero, List.set_cons_succ, i64_w, i32_w]
          rfl
         refine one_ (i := 2) (N := some 54) #[true, true, true, true, true, false, false, false, false, false, false, false, false] rfl rfl (one_of HT_.out (by kernel_rfl)) (by decide) (fun K hK => ?_)
         refine goes_ Tryd.func48 (by kernel_rfl) rfl #[.agg #[.int .u32 a0_0, .int .i64 a0_1, .int .u32 a0_2, .int .i64 a0_3, .int .i64 a0_4, .int .u16 a0_5, .int .u16 a0_6, .int .u16 a0_7, .int .u16 a0_8], .agg #[.int .u32 a1_0, .int .i64 a1_1, .int .u32 a1_2, .int .i64 a1_3, .int .i64 a1_4, .int .u16 a1_5, .int .u16 a1_6, .int .u16 a1_7, .int .u16 a1_8]] (by rfl) rfl rfl (by (try simp only [List.map_toArray, List.map_cons, List.map_nil]); first | done | rfl | (simp only [List.length_drop, List.length_take]; rfl)) ?_
         with_reducible refine (filter_Meet.calls kj25 a0_0 a0_1 a0_2 a0_3 a0_4 a0_5 a0_6 a0_7 a0_8 a1_0 a1_1 a1_2 a1_3 a1_4 a1_5 a1_6 a1_7 a1_8 t247 _ A171.out).mono ?_
         rintro e w176 ⟨rfl, hb⟩
         refine ⟨_, rfl, ?_⟩
         have n0_ := Aside0.mk (bb BK226.out hb)
         have n1_ := Aside0.mk (bb BK227.out hb)
         have n2_ := Aside0.mk (bb BK228.out hb)
         have n3_ := Aside0.mk (bb BK237.out hb)
         have n4_ := Aside0.mk (below_step (by repeat (first | (with_reducible first | exact HB.out | apply below_alloc | apply pw_below_drewN | apply below_drew1 | refine below_set ?_ GE226.out | refine below_set ?_ GE227.out | refine below_set ?_ GE228.out | refine below_set ?_ GE237.out) | exact HB.out)) hb)
         clear BK226
         clear BK227
         clear BK228
         clear BK237
         clear HB
         have BK226 := n0_
         have BK227 := n1_
         have BK228 := n2_
         have BK237 := n3_
         have HB := n4_
         clear n0_ n1_ n2_ n3_ n4_
         (try clear hb)
         (try clear hb2)
         (try clear hk)
         (try clear hi)
         refine hK.out _ _ ⟨(blk_cell BK226.out 0).trans rfl, (blk_cell BK226.out 1).trans rfl, (blk_cell BK226.out 2).trans rfl, (blk_cell BK226.out 3).trans rfl, (blk_cell BK226.out 4).trans rfl, (blk_cell BK226.out 5).trans rfl, (blk_cell BK226.out 6).trans rfl, (blk_cell BK226.out 7).trans rfl, (blk_cell BK226.out 8).trans rfl, (blk_cell BK227.out 0).trans rfl, (blk_cell BK227.out 1).trans rfl, (blk_cell BK227.out 2).trans rfl, (blk_cell BK227.out 3).trans rfl, (blk_cell BK227.out 4).trans rfl, (blk_cell BK227.out 5).trans rfl, (blk_cell BK227.out 6).trans rfl, (blk_cell BK227.out 7).trans rfl, (blk_cell BK227.out 8).trans rfl⟩ (fun hHeld => ?_)
         clear hK K
         refine norm_ (a' := ?_) ?_ ?_
         rotate_left
         ·show Act.put _ (some 54) _ = _
          simp only [Act.put, List.setIfInBounds_toArray, List.set_cons_zero, List.set_cons_succ, i64_w, i32_w]
          rfl
         refine one_ (i := 5) (N := some 57) #[true, true, true, true, true, true, false, false, false, false, false, false, false] rfl rfl (one_of HT_.out (by kernel_rfl)) (by decide) (fun K hK => ?_)
         refine goes_ Tryd.func48 (by kernel_rfl) rfl #[.agg #[.int .u32 a1_0, .int .i64 a1_1, .int .u32 a1_2, .int .i64 a1_3, .int .i64 a1_4, .int .u16 a1_5, .int .u16 a1_6, .int .u16 a1_7, .int .u16 a1_8], .agg #[.int .u32 a0_0, .int .i64 a0_1, .int .u32 a0_2, .int .i64 a0_3, .int .i64 a0_4, .int .u16 a0_5, .int .u16 a0_6, .int .u16 a0_7, .int .u16 a0_8]] (by rfl) rfl rfl (by (try simp only [List.map_toArray, List.map_cons, List.map_nil]); first | done | rfl | (simp only [List.length_drop, List.length_take]; rfl)) ?_
         with_reducible refine (filter_Meet.calls kj25 a1_0 a1_1 a1_2 a1_3 a1_4 a1_5 a1_6 a1_7 a1_8 a0_0 a0_1 a0_2 a0_3 a0_4 a0_5 a0_6 a0_7 a0_8 t248 _ A172.out).mono ?_
         rintro e w177 ⟨rfl, hb⟩
         refine ⟨_, rfl, ?_⟩
         have n0_ := Aside0.mk (bb BK226.out hb)
         have n1_ := Aside0.mk (bb BK227.out hb)
         have n2_ := Aside0.mk (bb BK228.out hb)
         have n3_ := Aside0.mk (bb BK237.out hb)
         have n4_ := Aside0.mk (below_step (by repeat (first | (with_reducible first | exact HB.out | apply below_alloc | apply pw_below_drewN | apply below_drew1 | refine below_set ?_ GE226.out | refine below_set ?_ GE227.out | refine below_set ?_ GE228.out | refine below_set ?_ GE237.out) | exact HB.out)) hb)
         clear BK226
         clear BK227
         clear BK228
         clear BK237
         clear HB
         have BK226 := n0_
         have BK227 := n1_
         have BK228 := n2_
         have BK237 := n3_
         have HB := n4_
         clear n0_ n1_ n2_ n3_ n4_
         (try clear hb)
         (try clear hb2)
         (try clear hk)
         (try clear hi)
         refine hK.out _ _ ⟨(blk_cell BK226.out 0).trans rfl, (blk_cell BK226.out 1).trans rfl, (blk_cell BK226.out 2).trans rfl, (blk_cell BK226.out 3).trans rfl, (blk_cell BK226.out 4).trans rfl, (blk_cell BK226.out 5).trans rfl, (blk_cell BK226.out 6).trans rfl, (blk_cell BK226.out 7).trans rfl, (blk_cell BK226.out 8).trans rfl, (blk_cell BK227.out 0).trans rfl, (blk_cell BK227.out 1).trans rfl, (blk_cell BK227.out 2).trans rfl, (blk_cell BK227.out 3).trans rfl, (blk_cell BK227.out 4).trans rfl, (blk_cell BK227.out 5).trans rfl, (blk_cell BK227.out 6).trans rfl, (blk_cell BK227.out 7).trans rfl, (blk_cell BK227.out 8).trans rfl⟩ (fun hHeld => ?_)
         clear hK K
         refine norm_ (a' := ?_) ?_ ?_
         rotate_left
         ·show Act.put _ (some 57) _ = _
          simp only [Act.put, List.setIfInBounds_toArray, List.set_cons_zero, List.set_cons_succ, i64_w, i32_w]
          rfl
         refine pure_ (i := 6) (N := some 58) (v := ?_) (a' := ?_) #[true, true, true, true, true, true, true, false, false, false, false, false, false] rfl rfl (any_of HT_.out (by kernel_rfl)) (fun _ _ _ h => h) (Or.inl ⟨by rfl, ?_⟩) ?_ ?_
         rotate_left
         ·intro w'
          go_simp
          with_reducible rfl
         rotate_left
         ·simp only [Act.put, List.setIfInBounds_toArray, List.set_cons_zero, List.set_cons_succ, i64_w, i32_w]
          rfl
         refine pure_ (i := 7) (N := some 59) (v := ?_) (a' := ?_) #[true, true, true, true, true, true, true, true, false, false, false, false, false] rfl rfl (any_of HT_.out (by kernel_rfl)) (fun _ _ _ h => h) (Or.inl ⟨by rfl, ?_⟩) ?_ ?_
         rotate_left
         ·intro w'
          go_simp
          with_reducible rfl
         rotate_left
         ·simp only [Act.put, List.setIfInBounds_toArray, List.set_cons_zero, List.set_cons_succ, i64_w, i32_w]
          rfl
         refine take_ (i := 8) (N := some 60) (v := ?_) (a' := ?_) #[true, true, true, true, true, true, true, true, true, false, false, false, false] rfl rfl (take_ofW HT_.out HW_.out (by kernel_rfl)) (fun _ _ _ h => h) (Or.inl ⟨by rfl, ?_⟩) hHeld ?_ ?_
         rotate_left
         ·rintro w' ⟨s0, s1, s2, s3, s4, s5, s6, s7, s8, s9, s10, s11, s12, s13, s14, s15, s16, s17⟩
          go_simp
          with_reducible rfl
         rotate_left
         ·simp only [Act.put, List.setIfInBounds_toArray, List.set_cons_zero, List.set_cons_succ, i64_w, i32_w]
          rfl
         refine take_ (i := 9) (N := some 61) (v := ?_) (a' := ?_) #[true, true, true, true, true, true, true, true, true, true, false, false, false] rfl rfl (take_ofW HT_.out HW_.out (by kernel_rfl)) (fun _ _ _ h => h) (Or.inl ⟨by rfl, ?_⟩) hHeld ?_ ?_
         rotate_left
         ·rintro w' ⟨s0, s1, s2, s3, s4, s5, s6, s7, s8, s9, s10, s11, s12, s13, s14, s15, s16, s17⟩
          go_simp
          with_reducible rfl
         rotate_left
         ·simp only [Act.put, List.setIfInBounds_toArray, List.set_cons_zero, List.set_cons_succ, i64_w, i32_w]
          rfl
         refine one_ (i := 10) (N := some 62) #[true, true, true, true, true, true, true, true, true, true, true, false, false] rfl rfl (one_of HT_.out (by kernel_rfl)) (by decide) (fun K hK => ?_)
         refine goes_ Tryd.func48 (by kernel_rfl) rfl #[.agg #[.int .u32 a0_0, .int .i64 a0_1, .int .u32 a0_2, .int .i64 a0_3, .int .i64 a0_4, .int .u16 a0_5, .int .u16 a0_6, .int .u16 a0_7, .int .u16 a0_8], .agg #[.int .u32 a0_0, .int .i64 a0_1, .int .u32 a0_2, .int .i64 a0_3, .int .i64 a0_4, .int .u16 a0_5, .int .u16 a0_6, .int .u16 a0_7, .int .u16 a0_8]] (by rfl) rfl rfl (by (try simp only [List.map_toArray, List.map_cons, List.map_nil]); first | done | rfl | (simp only [List.length_drop, List.length_take]; rfl)) ?_
         with_reducible refine (filter_Meet.calls kj25 a0_0 a0_1 a0_2 a0_3 a0_4 a0_5 a0_6 a0_7 a0_8 a0_0 a0_1 a0_2 a0_3 a0_4 a0_5 a0_6 a0_7 a0_8 t249 _ A174.out).mono ?_
         rintro e w178 ⟨rfl, hb⟩
         refine ⟨_, rfl, ?_⟩
         have n0_ := Aside0.mk (bb BK226.out hb)
         have n1_ := Aside0.mk (bb BK227.out hb)
         have n2_ := Aside0.mk (bb BK228.out hb)
         have n3_ := Aside0.mk (bb BK237.out hb)
         have n4_ := Aside0.mk (below_step (by repeat (first | (with_reducible first | exact HB.out | apply below_alloc | apply pw_below_drewN | apply below_drew1 | refine below_set ?_ GE226.out | refine below_set ?_ GE227.out | refine below_set ?_ GE228.out | refine below_set ?_ GE237.out) | exact HB.out)) hb)
         clear BK226
         clear BK227
         clear BK228
         clear BK237
         clear HB
         have BK226 := n0_
         have BK227 := n1_
         have BK228 := n2_
         have BK237 := n3_
         have HB := n4_
         clear n0_ n1_ n2_ n3_ n4_
         (try clear hb)
         (try clear hb2)
         (try clear hk)
         (try clear hi)
         refine hK.out _ _ ⟨(blk_cell BK226.out 0).trans rfl, (blk_cell BK226.out 1).trans rfl, (blk_cell BK226.out 2).trans rfl, (blk_cell BK226.out 3).trans rfl, (blk_cell BK226.out 4).trans rfl, (blk_cell BK226.out 5).trans rfl, (blk_cell BK226.out 6).trans rfl, (blk_cell BK226.out 7).trans rfl, (blk_cell BK226.out 8).trans rfl, (blk_cell BK227.out 0).trans rfl, (blk_cell BK227.out 1).trans rfl, (blk_cell BK227.out 2).trans rfl, (blk_cell BK227.out 3).trans rfl, (blk_cell BK227.out 4).trans rfl, (blk_cell BK227.out 5).trans rfl, (blk_cell BK227.out 6).trans rfl, (blk_cell BK227.out 7).trans rfl, (blk_cell BK227.out 8).trans rfl⟩ (fun hHeld => ?_)
         clear hK K
         refine norm_ (a' := ?_) ?_ ?_
         rotate_left
         ·show Act.put _ (some 62) _ = _
          simp only [Act.put, List.setIfInBounds_toArray, List.set_cons_zero, List.set_cons_succ, i64_w, i32_w]
          rfl
         refine pure_ (i := 11) (N := some 63) (v := ?_) (a' := ?_) #[true, true, true, true, true, true, true, true, true, true, true, true, false] rfl rfl (any_of HT_.out (by kernel_rfl)) (fun _ _ _ h => h) (Or.inl ⟨by rfl, ?_⟩) ?_ ?_
         rotate_left
         ·intro w'
          go_simp
          with_reducible rfl
         rotate_left
         ·simp only [Act.put, List.setIfInBounds_toArray, List.set_cons_zero, List.set_cons_succ, i64_w, i32_w]
          rfl
         refine pure_ (i := 12) (N := some 64) (v := ?_) (a' := ?_) #[true, true, true, true, true, true, true, true, true, true, true, true, true] rfl rfl (any_of HT_.out (by kernel_rfl)) (fun _ _ _ h => h) (Or.inl ⟨by rfl, ?_⟩) ?_ ?_
         rotate_left
         ·intro w'
          go_simp
          with_reducible rfl
         rotate_left
         ·simp only [Act.put, List.setIfInBounds_toArray, List.set_cons_zero, List.set_cons_succ, i64_w, i32_w]
          rfl
         refine done_ (done_of HT_.out (by kernel_rfl)) ?_
         try go_wp2
         go_meet
         case rel => exact ⟨_, (!t249), (by first | rfl | (simp; done) | (simp [*]; done)), H', ⟨by have := HJ3.out; have := HJ25.out; first | omega | exact Nat.le_refl _⟩, ⟨by (with_reducible repeat (first | refine blk_drewN ?_ _ | refine blk_drew ?_ | refine blk_alloc ?_ _)); exact BK226.out⟩, ⟨by (with_reducible repeat (first | refine blk_drewN ?_ _ | refine blk_drew ?_ | refine blk_alloc ?_ _)); exact BK227.out⟩, ⟨by (with_reducible repeat (first | refine blk_drewN ?_ _ | refine blk_drew ?_ | refine blk_alloc ?_ _)); exact BK228.out⟩, ⟨by (with_reducible repeat (first | refine blk_drewN ?_ _ | refine blk_drew ?_ | refine blk_alloc ?_ _)); exact BK237.out⟩, ⟨by repeat (first | (with_reducible first | exact HB.out | apply below_alloc | apply pw_below_drewN | apply below_drew1 | refine below_set ?_ GE226.out | refine below_set ?_ GE227.out | refine below_set ?_ GE228.out | refine below_set ?_ GE237.out) | exact HB.out)⟩⟩
       case rest =>
        clear HC170
        try clear c1
        try clear p2
        try clear c4
        try clear c16
        try clear c17
        try clear c48
        try clear c169
        try clear c173
        try clear c173b0
        try clear c173b1
        try clear c173b2
        try clear p2
        obtain ⟨kq, x64_169, rfl, HA, HJ169, BK226, BK227, BK228, BK237, HB⟩ := hcut
        cases kq with
        | zero => exact absurd HA.out (by simp [crossbucklaw04_FilterMeets.j2])
        | succ kj169 =>
         have H := HA.out
         clear HA
         simp only [crossbucklaw04_FilterMeets.j2] at H
         by_cases c179 : x64_169 = true
         ·subst c179
          have H1 : (some false) = some r := by rw [if_pos rfl] at H; exact H
          clear H
          have H := H1
          clear H1
          exact absurd ((Option.some.inj H).trans hT.out) (by decide)
         ·replace c179 := Bool.eq_false_iff.mpr c179
          subst c179
          have H1 : ((filter_Meet.f kj169 a0_0 a0_1 a0_2 a0_3 a0_4 a0_5 a0_6 a0_7 a0_8 a1_0 a1_1 a1_2 a1_3 a1_4 a1_5 a1_6 a1_7 a1_8).bind fun t250 => (if t250 = true then ((filter_Some.f a1_0 a1_1 a1_2 a1_3 a1_4 a1_5 a1_6 a1_7 a1_8).bind fun bt259 => ((crossbucklaw04_awake.f kj169).bind fun t266 => (if t266 = true then ((crossbuckref04_Match.f kj169 a0_0 a0_1 a0_2 a0_3 a0_4 a0_5 a0_6 a0_7 a0_8 (mx t232 bt259.1) (mx t233 bt259.2.1) (mx t234 bt259.2.2.1) (mx t235 bt259.2.2.2.1) (mx t236 bt259.2.2.2.2)).bind fun t267 => (if t267 = true then ((crossbuckref04_Match.f kj169 a1_0 a1_1 a1_2 a1_3 a1_4 a1_5 a1_6 a1_7 a1_8 (mx t232 bt259.1) (mx t233 bt259.2.1) (mx t234 bt259.2.2.1) (mx t235 bt259.2.2.2.1) (mx t236 bt259.2.2.2.2)).bind fun t268 => (some t268)) else (some false))) else (some false)))) else ((crossbucklaw04_awake.f kj169).bind fun t251 => (if t251 = true then ((crossbuckref04_Match.f kj169 a1_0 a1_1 a1_2 a1_3 a1_4 a1_5 a1_6 a1_7 a1_8 t232 t233 t234 t235 t236).bind fun t252 => (if t252 = true then ((filter_Some.f a1_0 a1_1 a1_2 a1_3 a1_4 a1_5 a1_6 a1_7 a1_8).bind fun bt253 => ((crossbuckref04_Match.f kj169 a0_0 a0_1 a0_2 a0_3 a0_4 a0_5 a0_6 a0_7 a0_8 bt253.1 bt253.2.1 bt253.2.2.1 bt253.2.2.2.1 bt253.2.2.2.2).bind fun t258 => (some (!t258)))) else (some (!false)))) else (some false))))) = some r := by rw [if_neg (show ¬ (false = true) by decide)] at H; exact H
          clear H
          have H := H1
          clear H1
          replace H := Option.bind_eq_some_iff.mp H
          obtain ⟨t250, A1800, H⟩ := H
          replace H : (if t250 = true then ((filter_Some.f a1_0 a1_1 a1_2 a1_3 a1_4 a1_5 a1_6 a1_7 a1_8).bind fun bt259 => ((crossbucklaw04_awake.f kj169).bind fun t266 => (if t266 = true then ((crossbuckref04_Match.f kj169 a0_0 a0_1 a0_2 a0_3 a0_4 a0_5 a0_6 a0_7 a0_8 (mx t232 bt259.1) (mx t233 bt259.2.1) (mx t234 bt259.2.2.1) (mx t235 bt259.2.2.2.1) (mx t236 bt259.2.2.2.2)).bind fun t267 => (if t267 = true then ((crossbuckref04_Match.f kj169 a1_0 a1_1 a1_2 a1_3 a1_4 a1_5 a1_6 a1_7 a1_8 (mx t232 bt259.1) (mx t233 bt259.2.1) (mx t234 bt259.2.2.1) (mx t235 bt259.2.2.2.1) (mx t236 bt259.2.2.2.2)).bind fun t268 => (some t268)) else (some false))) else (some false)))) else ((crossbucklaw04_awake.f kj169).bind fun t251 => (if t251 = true then ((crossbuckref04_Match.f kj169 a1_0 a1_1 a1_2 a1_3 a1_4 a1_5 a1_6 a1_7 a1_8 t232 t233 t234 t235 t236).bind fun t252 => (if t252 = true then ((filter_Some.f a1_0 a1_1 a1_2 a1_3 a1_4 a1_5 a1_6 a1_7 a1_8).bind fun bt253 => ((crossbuckref04_Match.f kj169 a0_0 a0_1 a0_2 a0_3 a0_4 a0_5 a0_6 a0_7 a0_8 bt253.1 bt253.2.1 bt253.2.2.1 bt253.2.2.2.1 bt253.2.2.2.2).bind fun t258 => (some (!t258)))) else (some (!false)))) else (some false)))) = some r := H
          have A180 := Aside0.mk A1800
          clear A1800
          by_cases c181 : t250 = true
          ·subst c181
           have H1 : ((filter_Some.f a1_0 a1_1 a1_2 a1_3 a1_4 a1_5 a1_6 a1_7 a1_8).bind fun bt259 => ((crossbucklaw04_awake.f kj169).bind fun t266 => (if t266 = true then ((crossbuckref04_Match.f kj169 a0_0 a0_1 a0_2 a0_3 a0_4 a0_5 a0_6 a0_7 a0_8 (mx t232 bt259.1) (mx t233 bt259.2.1) (mx t234 bt259.2.2.1) (mx t235 bt259.2.2.2.1) (mx t236 bt259.2.2.2.2)).bind fun t267 => (if t267 = true then ((crossbuckref04_Match.f kj169 a1_0 a1_1 a1_2 a1_3 a1_4 a1_5 a1_6 a1_7 a1_8 (mx t232 bt259.1) (mx t233 bt259.2.1) (mx t234 bt259.2.2.1) (mx t235 bt259.2.2.2.1) (mx t236 bt259.2.2.2.2)).bind fun t268 => (some t268)) else (some false))) else (some false)))) = some r := by rw [if_pos rfl] at H; exact H
           clear H
           have H := H1
           clear H1
           replace H := Option.bind_eq_some_iff.mp H
           obtain ⟨⟨t259, t260, t261, t262, t263⟩, A1820, H⟩ := H
           replace H : ((crossbucklaw04_awake.f kj169).bind fun t266 => (if t266 = true then ((crossbuckref04_Match.f kj169 a0_0 a0_1 a0_2 a0_3 a0_4 a0_5 a0_6 a0_7 a0_8 (mx t232 t259) (mx t233 t260) (mx t234 t261) (mx t235 t262) (mx t236 t263)).bind fun t267 => (if t267 = true then ((crossbuckref04_Match.f kj169 a1_0 a1_1 a1_2 a1_3 a1_4 a1_5 a1_6 a1_7 a1_8 (mx t232 t259) (mx t233 t260) (mx t234 t261) (mx t235 t262) (mx t236 t263)).bind fun t268 => (some t268)) else (some false))) else (some false))) = some r := H
           have A182 := Aside0.mk A1820
           clear A1820
           obtain ⟨ji183, hji183⟩ : ∃ j_ : Int, (mx t232 t259) = j_ := ⟨_, rfl⟩
           replace H : ((crossbucklaw04_awake.f kj169).bind fun t266 => (if t266 = true then ((crossbuckref04_Match.f kj169 a0_0 a0_1 a0_2 a0_3 a0_4 a0_5 a0_6 a0_7 a0_8 (ji183) (mx t233 t260) (mx t234 t261) (mx t235 t262) (mx t236 t263)).bind fun t267 => (if t267 = true then ((crossbuckref04_Match.f kj169 a1_0 a1_1 a1_2 a1_3 a1_4 a1_5 a1_6 a1_7 a1_8 (ji183) (mx t233 t260) (mx t234 t261) (mx t235 t262) (mx t236 t263)).bind fun t268 => (some t268)) else (some false))) else (some false))) = some r := by first | (rw [hji183] at H; exact H) | (simp only [hji183] at H ⊢; exact H)
           (try rw [hji183] at A180)
           (try rw [hji183] at A182)
           have hji183_ : (if t232 < t259 then t259 else t232) = ji183 := hji183
           obtain ⟨ji184, hji184⟩ : ∃ j_ : Int, (mx t233 t260) = j_ := ⟨_, rfl⟩
           replace H : ((crossbucklaw04_awake.f kj169).bind fun t266 => (if t266 = true then ((crossbuckref04_Match.f kj169 a0_0 a0_1 a0_2 a0_3 a0_4 a0_5 a0_6 a0_7 a0_8 (ji183) (ji184) (mx t234 t261) (mx t235 t262) (mx t236 t263)).bind fun t267 => (if t267 = true then ((crossbuckref04_Match.f kj169 a1_0 a1_1 a1_2 a1_3 a1_4 a1_5 a1_6 a1_7 a1_8 (ji183) (ji184) (mx t234 t261) (mx t235 t262) (mx t236 t263)).bind fun t268 => (some t268)) else (some false))) else (some false))) = some r := by first | (rw [hji184] at H; exact H) | (simp only [hji184] at H ⊢; exact H)
           (try rw [hji184] at A180)
           (try rw [hji184] at A182)
           have hji184_ : (if t233 < t260 then t260 else t233) = ji184 := hji184
           obtain ⟨ji185, hji185⟩ : ∃ j_ : Int, (mx t234 t261) = j_ := ⟨_, rfl⟩
           replace H : ((crossbucklaw04_awake.f kj169).bind fun t266 => (if t266 = true then ((crossbuckref04_Match.f kj169 a0_0 a0_1 a0_2 a0_3 a0_4 a0_5 a0_6 a0_7 a0_8 (ji183) (ji184) (ji185) (mx t235 t262) (mx t236 t263)).bind fun t267 => (if t267 = true then ((crossbuckref04_Match.f kj169 a1_0 a1_1 a1_2 a1_3 a1_4 a1_5 a1_6 a1_7 a1_8 (ji183) (ji184) (ji185) (mx t235 t262) (mx t236 t263)).bind fun t268 => (some t268)) else (some false))) else (some false))) = some r := by first | (rw [hji185] at H; exact H) | (simp only [hji185] at H ⊢; exact H)
           (try rw [hji185] at A180)
           (try rw [hji185] at A182)
           have hji185_ : (if t234 < t261 then t261 else t234) = ji185 := hji185
           obtain ⟨ji186, hji186⟩ : ∃ j_ : Int, (mx t235 t262) = j_ := ⟨_, rfl⟩
           replace H : ((crossbucklaw04_awake.f kj169).bind fun t266 => (if t266 = true then ((crossbuckref04_Match.f kj169 a0_0 a0_1 a0_2 a0_3 a0_4 a0_5 a0_6 a0_7 a0_8 (ji183) (ji184) (ji185) (ji186) (mx t236 t263)).bind fun t267 => (if t267 = true then ((crossbuckref04_Match.f kj169 a1_0 a1_1 a1_2 a1_3 a1_4 a1_5 a1_6 a1_7 a1_8 (ji183) (ji184) (ji185) (ji186) (mx t236 t263)).bind fun t268 => (some t268)) else (some false))) else (some false))) = some r := by first | (rw [hji186] at H; exact H) | (simp only [hji186] at H ⊢; exact H)
           (try rw [hji186] at A180)
           (try rw [hji186] at A182)
           have hji186_ : (if t235 < t262 then t262 else t235) = ji186 := hji186
           obtain ⟨ji187, hji187⟩ : ∃ j_ : Int, (mx t236 t263) = j_ := ⟨_, rfl⟩
           replace H : ((crossbucklaw04_awake.f kj169).bind fun t266 => (if t266 = true then ((crossbuckref04_Match.f kj169 a0_0 a0_1 a0_2 a0_3 a0_4 a0_5 a0_6 a0_7 a0_8 (ji183) (ji184) (ji185) (ji186) (ji187)).bind fun t267 => (if t267 = true then ((crossbuckref04_Match.f kj169 a1_0 a1_1 a1_2 a1_3 a1_4 a1_5 a1_6 a1_7 a1_8 (ji183) (ji184) (ji185) (ji186) (ji187)).bind fun t268 => (some t268)) else (some false))) else (some false))) = some r := by first | (rw [hji187] at H; exact H) | (simp only [hji187] at H ⊢; exact H)
           (try rw [hji187] at A180)
           (try rw [hji187] at A182)
           have hji187_ : (if t236 < t263 then t263 else t236) = ji187 := hji187
           replace H := Option.bind_eq_some_iff.mp H
           obtain ⟨t266, A1880, H⟩ := H
           replace H : (if t266 = true then ((crossbuckref04_Match.f kj169 a0_0 a0_1 a0_2 a0_3 a0_4 a0_5 a0_6 a0_7 a0_8 (ji183) (ji184) (ji185) (ji186) (ji187)).bind fun t267 => (if t267 = true then ((crossbuckref04_Match.f kj169 a1_0 a1_1 a1_2 a1_3 a1_4 a1_5 a1_6 a1_7 a1_8 (ji183) (ji184) (ji185) (ji186) (ji187)).bind fun t268 => (some t268)) else (some false))) else (some false)) = some r := H
           have A188 := Aside0.mk A1880
           clear A1880
           by_cases c189 : t266 = true
           ·subst c189
            have H1 : ((crossbuckref04_Match.f kj169 a0_0 a0_1 a0_2 a0_3 a0_4 a0_5 a0_6 a0_7 a0_8 (ji183) (ji184) (ji185) (ji186) (ji187)).bind fun t267 => (if t267 = true then ((crossbuckref04_Match.f kj169 a1_0 a1_1 a1_2 a1_3 a1_4 a1_5 a1_6 a1_7 a1_8 (ji183) (ji184) (ji185) (ji186) (ji187)).bind fun t268 => (some t268)) else (some false))) = some r := by rw [if_pos rfl] at H; exact H
            clear H
            have H := H1
            clear H1
            replace H := Option.bind_eq_some_iff.mp H
            obtain ⟨t267, A1900, H⟩ := H
            replace H : (if t267 = true then ((crossbuckref04_Match.f kj169 a1_0 a1_1 a1_2 a1_3 a1_4 a1_5 a1_6 a1_7 a1_8 (ji183) (ji184) (ji185) (ji186) (ji187)).bind fun t268 => (some t268)) else (some false)) = some r := H
            have A190 := Aside0.mk A1900
            clear A1900
            by_cases c191 : t267 = true
            ·subst c191
             have H1 : ((crossbuckref04_Match.f kj169 a1_0 a1_1 a1_2 a1_3 a1_4 a1_5 a1_6 a1_7 a1_8 (ji183) (ji184) (ji185) (ji186) (ji187)).bind fun t268 => (some t268)) = some r := by rw [if_pos rfl] at H; exact H
             clear H
             have H := H1
             clear H1
             replace H := Option.bind_eq_some_iff.mp H
             obtain ⟨t268, A1920, H⟩ := H
             replace H : (some t268) = some r := H
             have A192 := Aside0.mk A1920
             clear A1920
             obtain rfl := Option.some.inj H
             have hnb193 := NB226_227.out
             have hnc193 := NB227_226.out
             have hnb194 := NB226_228.out
             have hnc194 := NB228_226.out
             have hnb195 := NB226_237.out
             have hnc195 := NB237_226.out
             have hcz196 := cz9 BK226.out
             have hnb197 := NB227_228.out
             have hnc197 := NB228_227.out
             have hnb198 := NB227_237.out
             have hnc198 := NB237_227.out
             have hcz199 := cz9 BK227.out
             go_wp2_with (first | ((with_reducible refine gate_callee (f := 48) rfl ?_); refine goesL_ (some 67) rfl rfl Tryd.func48 (by kernel_rfl) rfl #[.agg #[.int .u32 a0_0, .int .i64 a0_1, .int .u32 a0_2, .int .i64 a0_3, .int .i64 a0_4, .int .u16 a0_5, .int .u16 a0_6, .int .u16 a0_7, .int .u16 a0_8], .agg #[.int .u32 a1_0, .int .i64 a1_1, .int .u32 a1_2, .int .i64 a1_3, .int .i64 a1_4, .int .u16 a1_5, .int .u16 a1_6, .int .u16 a1_7, .int .u16 a1_8]] rfl (by (try simp only [List.map_toArray, List.map_cons, List.map_nil]); first | done | rfl | (simp only [List.length_drop, List.length_take]; rfl)) ?_; (with_reducible refine (filter_Meet.calls kj169 a0_0 a0_1 a0_2 a0_3 a0_4 a0_5 a0_6 a0_7 a0_8 a1_0 a1_1 a1_2 a1_3 a1_4 a1_5 a1_6 a1_7 a1_8 true _ A180.out).mono ?_); rintro e w200 ⟨rfl, hb⟩; refine ⟨_, rfl, ?_⟩; have n0_ := Aside0.mk (bb BK226.out hb); have n1_ := Aside0.mk (bb BK227.out hb); have n2_ := Aside0.mk (bb BK228.out hb); have n3_ := Aside0.mk (bb BK237.out hb); have n4_ := Aside0.mk (below_step (by repeat (first | (with_reducible first | exact HB.out | apply below_alloc | apply pw_below_drewN | apply below_drew1 | refine below_set ?_ GE226.out | refine below_set ?_ GE227.out | refine below_set ?_ GE228.out | refine below_set ?_ GE237.out) | exact HB.out)) hb); clear BK226; clear BK227; clear BK228; clear BK237; clear HB; have BK226 := n0_; have BK227 := n1_; have BK228 := n2_; have BK237 := n3_; have HB := n4_; clear n0_ n1_ n2_ n3_ n4_; (try clear hb); (try clear hb2); (try clear hk); (try clear hi); have hcz201 := cz9 BK227.out) | ((with_reducible refine gate_callee (f := 49) rfl ?_); refine goesL_ (some 83) rfl rfl Tryd.func49 (by kernel_rfl) rfl #[.agg #[.int .u32 a1_0, .int .i64 a1_1, .int .u32 a1_2, .int .i64 a1_3, .int .i64 a1_4, .int .u16 a1_5, .int .u16 a1_6, .int .u16 a1_7, .int .u16 a1_8]] rfl (by (try simp only [List.map_toArray, List.map_cons, List.map_nil]); first | done | rfl | (simp only [List.length_drop, List.length_take]; rfl)) ?_; (with_reducible refine (filter_Some.calls a1_0 a1_1 a1_2 a1_3 a1_4 a1_5 a1_6 a1_7 a1_8 t259 t260 t261 t262 t263 _ A182.out).mono ?_); rintro e w202 ⟨rfl, hb⟩; refine ⟨_, rfl, ?_⟩; have n0_ := Aside0.mk (bb BK226.out hb); have n1_ := Aside0.mk (bb BK227.out hb); have n2_ := Aside0.mk (bb BK228.out hb); have n3_ := Aside0.mk (bb BK237.out hb); have n4_ := Aside0.mk (below_step (by repeat (first | (with_reducible first | exact HB.out | apply below_alloc | apply pw_below_drewN | apply below_drew1 | refine below_set ?_ GE226.out | refine below_set ?_ GE227.out | refine below_set ?_ GE228.out | refine below_set ?_ GE237.out) | exact HB.out)) hb); clear BK226; clear BK227; clear BK228; clear BK237; clear HB; have BK226 := n0_; have BK227 := n1_; have BK228 := n2_; have BK237 := n3_; have HB := n4_; clear n0_ n1_ n2_ n3_ n4_; (try clear hb); (try clear hb2); (try clear hk); (try clear hi)) | ((with_reducible refine gate_dst (N := 8) rfl ?_); refine box_event ?hg (N := 8) ?hd (cs := #[.int .u32 0, .int .u32 0, .int .u8 0, .int .u16 0, .int .u16 0]) (t := 67) ?hr ?_; (case hd => rfl); (case hg => rfl); (case hr => first | (go_simp; done) | (go_simp; rfl)); intro gb264 hg w203 hbox hb; have n0_ := Aside0.mk (bb BK226.out hb); have n1_ := Aside0.mk (bb BK227.out hb); have n2_ := Aside0.mk (bb BK228.out hb); have n3_ := Aside0.mk (bb BK237.out hb); have n4_ := Aside0.mk (below_step (by repeat (first | (with_reducible first | exact HB.out | apply below_alloc | apply pw_below_drewN | apply below_drew1 | refine below_set ?_ GE226.out | refine below_set ?_ GE227.out | refine below_set ?_ GE228.out | refine below_set ?_ GE237.out) | exact HB.out)) hb); have n5_ := Aside0.mk (hbox); have n6_ := Aside0.mk ((by rw [hg]; exact (below_size (by repeat (first | (with_reducible first | exact HB.out | apply below_alloc | apply pw_below_drewN | apply below_drew1 | refine below_set ?_ GE226.out | refine below_set ?_ GE227.out | refine below_set ?_ GE228.out | refine below_set ?_ GE237.out) | exact HB.out))) : w.heap.size ≤ gb264)); have n7_ := Aside0.mk ((by rw [hg]; exact (below_size (by repeat (first | (with_reducible first | exact HB.out | apply below_alloc | apply pw_below_drewN | apply below_drew1 | refine below_set ?_ GE226.out | refine below_set ?_ GE227.out | refine below_set ?_ GE228.out | refine below_set ?_ GE237.out) | exact HB.out))) : w.heap.size ≤ gb264)); have n8_ := Aside0.mk ((ne1 BK226.out hg : gb226 ≠ gb264)); have n9_ := Aside0.mk ((ne2 BK226.out hg : gb264 ≠ gb226)); have n10_ := Aside0.mk ((ne1 BK227.out hg : gb227 ≠ gb264)); have n11_ := Aside0.mk ((ne2 BK227.out hg : gb264 ≠ gb227)); have n12_ := Aside0.mk ((ne1 BK228.out hg : gb228 ≠ gb264)); have n13_ := Aside0.mk ((ne2 BK228.out hg : gb264 ≠ gb228)); have n14_ := Aside0.mk ((ne1 BK237.out hg : gb237 ≠ gb264)); have n15_ := Aside0.mk ((ne2 BK237.out hg : gb264 ≠ gb237)); clear BK226; clear BK227; clear BK228; clear BK237; clear HB; have BK226 := n0_; have BK227 := n1_; have BK228 := n2_; have BK237 := n3_; have HB := n4_; have BK264 := n5_; have GW264 := n6_; have GE264 := n7_; have NB226_264 := n8_; have NB264_226 := n9_; have NB227_264 := n10_; have NB264_227 := n11_; have NB228_264 := n12_; have NB264_228 := n13_; have NB237_264 := n14_; have NB264_237 := n15_; clear n0_ n1_ n2_ n3_ n4_ n5_ n6_ n7_ n8_ n9_ n10_ n11_ n12_ n13_ n14_ n15_; clear hb hbox hg; have hnb204 := NB264_226.out; have hnc204 := NB226_264.out; have hnb205 := NB264_227.out; have hnc205 := NB227_264.out; have hnb206 := NB264_228.out; have hnc206 := NB228_264.out; have hnb207 := NB264_237.out; have hnc207 := NB237_264.out; have hcz208 := cz5 BK264.out; have hnb209 := NB237_228.out; have hnc209 := NB228_237.out; have hcz210 := cz5 BK237.out; have hcz210b := cz9 BK227.out) | ((with_reducible refine gate_dst (N := 9) rfl ?_); refine box_event ?hg (N := 9) ?hd (cs := #[.int .u32 0, .int .u32 0, .int .u8 0, .int .u16 0, .int .u16 0]) (t := 67) ?hr ?_; (case hd => rfl); (case hg => rfl); (case hr => first | (go_simp; done) | (go_simp; rfl)); intro gb265 hg w211 hbox hb; have n0_ := Aside0.mk (blk_below (g := gb226) (o := .cells #[.int .u32 a0_0, .int .i64 a0_1, .int .u32 a0_2, .int .i64 a0_3, .int .i64 a0_4, .int .u16 a0_5, .int .u16 a0_6, .int .u16 a0_7, .int .u16 a0_8] 77 (0, 0)) (by (with_reducible repeat (first | refine blk_drewN ?_ _ | refine blk_drew ?_ | refine blk_alloc ?_ _)); refine blk_far ?_ NB226_264.out _; (with_reducible repeat (first | refine blk_drewN ?_ _ | refine blk_drew ?_ | refine blk_alloc ?_ _)); refine blk_far ?_ NB226_264.out _; (with_reducible repeat (first | refine blk_drewN ?_ _ | refine blk_drew ?_ | refine blk_alloc ?_ _)); refine blk_far ?_ NB226_264.out _; (with_reducible repeat (first | refine blk_drewN ?_ _ | refine blk_drew ?_ | refine blk_alloc ?_ _)); refine blk_far ?_ NB226_264.out _; (with_reducible repeat (first | refine blk_drewN ?_ _ | refine blk_drew ?_ | refine blk_alloc ?_ _)); refine blk_far ?_ NB226_264.out _; (with_reducible repeat (first | refine blk_drewN ?_ _ | refine blk_drew ?_ | refine blk_alloc ?_ _)); exact BK226.out) hb); have n1_ := Aside0.mk (blk_below (g := gb227) (o := .cells #[.int .u32 a1_0, .int .i64 a1_1, .int .u32 a1_2, .int .i64 a1_3, .int .i64 a1_4, .int .u16 a1_5, .int .u16 a1_6, .int .u16 a1_7, .int .u16 a1_8] 77 (0, 0)) (by (with_reducible repeat (first | refine blk_drewN ?_ _ | refine blk_drew ?_ | refine blk_alloc ?_ _)); refine blk_far ?_ NB227_264.out _; (with_reducible repeat (first | refine blk_drewN ?_ _ | refine blk_drew ?_ | refine blk_alloc ?_ _)); refine blk_far ?_ NB227_264.out _; (with_reducible repeat (first | refine blk_drewN ?_ _ | refine blk_drew ?_ | refine blk_alloc ?_ _)); refine blk_far ?_ NB227_264.out _; (with_reducible repeat (first | refine blk_drewN ?_ _ | refine blk_drew ?_ | refine blk_alloc ?_ _)); refine blk_far ?_ NB227_264.out _; (with_reducible repeat (first | refine blk_drewN ?_ _ | refine blk_drew ?_ | refine blk_alloc ?_ _)); refine blk_far ?_ NB227_264.out _; (with_reducible repeat (first | refine blk_drewN ?_ _ | refine blk_drew ?_ | refine blk_alloc ?_ _)); exact BK227.out) hb); have n2_ := Aside0.mk (blk_below (g := gb228) (o := .cells #[.int .u32 a2_0, .int .u32 a2_1, .int .u8 a2_2, .int .u16 a2_3, .int .u16 a2_4] 67 (0, 0)) (by (with_reducible repeat (first | refine blk_drewN ?_ _ | refine blk_drew ?_ | refine blk_alloc ?_ _)); refine blk_far ?_ NB228_264.out _; (with_reducible repeat (first | refine blk_drewN ?_ _ | refine blk_drew ?_ | refine blk_alloc ?_ _)); refine blk_far ?_ NB228_264.out _; (with_reducible repeat (first | refine blk_drewN ?_ _ | refine blk_drew ?_ | refine blk_alloc ?_ _)); refine blk_far ?_ NB228_264.out _; (with_reducible repeat (first | refine blk_drewN ?_ _ | refine blk_drew ?_ | refine blk_alloc ?_ _)); refine blk_far ?_ NB228_264.out _; (with_reducible repeat (first | refine blk_drewN ?_ _ | refine blk_drew ?_ | refine blk_alloc ?_ _)); refine blk_far ?_ NB228_264.out _; (with_reducible repeat (first | refine blk_drewN ?_ _ | refine blk_drew ?_ | refine blk_alloc ?_ _)); exact BK228.out) hb); have n3_ := Aside0.mk (blk_below (g := gb237) (o := .cells #[.int .u32 t232, .int .u32 t233, .int .u8 t234, .int .u16 t235, .int .u16 t236] 67 (0, 0)) (by (with_reducible repeat (first | refine blk_drewN ?_ _ | refine blk_drew ?_ | refine blk_alloc ?_ _)); refine blk_far ?_ NB237_264.out _; (with_reducible repeat (first | refine blk_drewN ?_ _ | refine blk_drew ?_ | refine blk_alloc ?_ _)); refine blk_far ?_ NB237_264.out _; (with_reducible repeat (first | refine blk_drewN ?_ _ | refine blk_drew ?_ | refine blk_alloc ?_ _)); refine blk_far ?_ NB237_264.out _; (with_reducible repeat (first | refine blk_drewN ?_ _ | refine blk_drew ?_ | refine blk_alloc ?_ _)); refine blk_far ?_ NB237_264.out _; (with_reducible repeat (first | refine blk_drewN ?_ _ | refine blk_drew ?_ | refine blk_alloc ?_ _)); refine blk_far ?_ NB237_264.out _; (with_reducible repeat (first | refine blk_drewN ?_ _ | refine blk_drew ?_ | refine blk_alloc ?_ _)); exact BK237.out) hb); have n4_ := Aside0.mk (blk_below (g := gb264) (o := .cells #[.int .u32 t259, .int .u32 t260, .int .u8 t261, .int .u16 t262, .int .u16 t263] 67 (0, 0)) (by (with_reducible repeat (first | refine blk_drewN ?_ _ | refine blk_drew ?_ | refine blk_alloc ?_ _)); refine blk_put (cs := #[.int .u32 t259, .int .u32 t260, .int .u8 t261, .int .u16 t262, .int .u16 0]) ?_ 4 _ rfl; (with_reducible repeat (first | refine blk_drewN ?_ _ | refine blk_drew ?_ | refine blk_alloc ?_ _)); refine blk_put (cs := #[.int .u32 t259, .int .u32 t260, .int .u8 t261, .int .u16 0, .int .u16 0]) ?_ 3 _ rfl; (with_reducible repeat (first | refine blk_drewN ?_ _ | refine blk_drew ?_ | refine blk_alloc ?_ _)); refine blk_put (cs := #[.int .u32 t259, .int .u32 t260, .int .u8 0, .int .u16 0, .int .u16 0]) ?_ 2 _ rfl; (with_reducible repeat (first | refine blk_drewN ?_ _ | refine blk_drew ?_ | refine blk_alloc ?_ _)); refine blk_put (cs := #[.int .u32 t259, .int .u32 0, .int .u8 0, .int .u16 0, .int .u16 0]) ?_ 1 _ rfl; (with_reducible repeat (first | refine blk_drewN ?_ _ | refine blk_drew ?_ | refine blk_alloc ?_ _)); refine blk_put (cs := #[.int .u32 0, .int .u32 0, .int .u8 0, .int .u16 0, .int .u16 0]) ?_ 0 _ rfl; (with_reducible repeat (first | refine blk_drewN ?_ _ | refine blk_drew ?_ | refine blk_alloc ?_ _)); exact BK264.out) hb); have n5_ := Aside0.mk (below_step (by repeat (first | (with_reducible first | exact HB.out | apply below_alloc | apply pw_below_drewN | apply below_drew1 | refine below_set ?_ GE226.out | refine below_set ?_ GE227.out | refine below_set ?_ GE228.out | refine below_set ?_ GE237.out | refine below_set ?_ GE264.out) | exact HB.out)) hb); have n6_ := Aside0.mk (hbox); have n7_ := Aside0.mk ((by rw [hg]; exact (below_size (by repeat (first | (with_reducible first | exact HB.out | apply below_alloc | apply pw_below_drewN | apply below_drew1 | refine below_set ?_ GE226.out | refine below_set ?_ GE227.out | refine below_set ?_ GE228.out | refine below_set ?_ GE237.out | refine below_set ?_ GE264.out) | exact HB.out))) : w.heap.size ≤ gb265)); have n8_ := Aside0.mk ((by rw [hg]; exact (below_size (by repeat (first | (with_reducible first | exact HB.out | apply below_alloc | apply pw_below_drewN | apply below_drew1 | refine below_set ?_ GE226.out | refine below_set ?_ GE227.out | refine below_set ?_ GE228.out | refine below_set ?_ GE237.out | refine below_set ?_ GE264.out) | exact HB.out))) : w.heap.size ≤ gb265)); have n9_ := Aside0.mk ((by rw [hg]; exact Nat.ne_of_lt (blk_lt (g := gb226) (o := .cells #[.int .u32 a0_0, .int .i64 a0_1, .int .u32 a0_2, .int .i64 a0_3, .int .i64 a0_4, .int .u16 a0_5, .int .u16 a0_6, .int .u16 a0_7, .int .u16 a0_8] 77 (0, 0)) (by (with_reducible repeat (first | refine blk_drewN ?_ _ | refine blk_drew ?_ | refine blk_alloc ?_ _)); refine blk_far ?_ NB226_264.out _; (with_reducible repeat (first | refine blk_drewN ?_ _ | refine blk_drew ?_ | refine blk_alloc ?_ _)); refine blk_far ?_ NB226_264.out _; (with_reducible repeat (first | refine blk_drewN ?_ _ | refine blk_drew ?_ | refine blk_alloc ?_ _)); refine blk_far ?_ NB226_264.out _; (with_reducible repeat (first | refine blk_drewN ?_ _ | refine blk_drew ?_ | refine blk_alloc ?_ _)); refine blk_far ?_ NB226_264.out _; (with_reducible repeat (first | refine blk_drewN ?_ _ | refine blk_drew ?_ | refine blk_alloc ?_ _)); refine blk_far ?_ NB226_264.out _; (with_reducible repeat (first | refine blk_drewN ?_ _ | refine blk_drew ?_ | refine blk_alloc ?_ _)); exact BK226.out)) : gb226 ≠ gb265)); have n10_ := Aside0.mk ((by rw [hg]; exact Nat.ne_of_gt (blk_lt (g := gb226) (o := .cells #[.int .u32 a0_0, .int .i64 a0_1, .int .u32 a0_2, .int .i64 a0_3, .int .i64 a0_4, .int .u16 a0_5, .int .u16 a0_6, .int .u16 a0_7, .int .u16 a0_8] 77 (0, 0)) (by (with_reducible repeat (first | refine blk_drewN ?_ _ | refine blk_drew ?_ | refine blk_alloc ?_ _)); refine blk_far ?_ NB226_264.out _; (with_reducible repeat (first | refine blk_drewN ?_ _ | refine blk_drew ?_ | refine blk_alloc ?_ _)); refine blk_far ?_ NB226_264.out _; (with_reducible repeat (first | refine blk_drewN ?_ _ | refine blk_drew ?_ | refine blk_alloc ?_ _)); refine blk_far ?_ NB226_264.out _; (with_reducible repeat (first | refine blk_drewN ?_ _ | refine blk_drew ?_ | refine blk_alloc ?_ _)); refine blk_far ?_ NB226_264.out _; (with_reducible repeat (first | refine blk_drewN ?_ _ | refine blk_drew ?_ | refine blk_alloc ?_ _)); refine blk_far ?_ NB226_264.out _; (with_reducible repeat (first | refine blk_drewN ?_ _ | refine blk_drew ?_ | refine blk_alloc ?_ _)); exact BK226.out)) : gb265 ≠ gb226)); have n11_ := Aside0.mk ((by rw [hg]; exact Nat.ne_of_lt (blk_lt (g := gb227) (o := .cells #[.int .u32 a1_0, .int .i64 a1_1, .int .u32 a1_2, .int .i64 a1_3, .int .i64 a1_4, .int .u16 a1_5, .int .u16 a1_6, .int .u16 a1_7, .int .u16 a1_8] 77 (0, 0)) (by (with_reducible repeat (first | refine blk_drewN ?_ _ | refine blk_drew ?_ | refine blk_alloc ?_ _)); refine blk_far ?_ NB227_264.out _; (with_reducible repeat (first | refine blk_drewN ?_ _ | refine blk_drew ?_ | refine blk_alloc ?_ _)); refine blk_far ?_ NB227_264.out _; (with_reducible repeat (first | refine blk_drewN ?_ _ | refine blk_drew ?_ | refine blk_alloc ?_ _)); refine blk_far ?_ NB227_264.out _; (with_reducible repeat (first | refine blk_drewN ?_ _ | refine blk_drew ?_ | refine blk_alloc ?_ _)); refine blk_far ?_ NB227_264.out _; (with_reducible repeat (first | refine blk_drewN ?_ _ | refine blk_drew ?_ | refine blk_alloc ?_ _)); refine blk_far ?_ NB227_264.out _; (with_reducible repeat (first | refine blk_drewN ?_ _ | refine blk_drew ?_ | refine blk_alloc ?_ _)); exact BK227.out)) : gb227 ≠ gb265)); have n12_ := Aside0.mk ((by rw [hg]; exact Nat.ne_of_gt (blk_lt (g := gb227) (o := .cells #[.int .u32 a1_0, .int .i64 a1_1, .int .u32 a1_2, .int .i64 a1_3, .int .i64 a1_4, .int .u16 a1_5, .int .u16 a1_6, .int .u16 a1_7, .int .u16 a1_8] 77 (0, 0)) (by (with_reducible repeat (first | refine blk_drewN ?_ _ | refine blk_drew ?_ | refine blk_alloc ?_ _)); refine blk_far ?_ NB227_264.out _; (with_reducible repeat (first | refine blk_drewN ?_ _ | refine blk_drew ?_ | refine blk_alloc ?_ _)); refine blk_far ?_ NB227_264.out _; (with_reducible repeat (first | refine blk_drewN ?_ _ | refine blk_drew ?_ | refine blk_alloc ?_ _)); refine blk_far ?_ NB227_264.out _; (with_reducible repeat (first | refine blk_drewN ?_ _ | refine blk_drew ?_ | refine blk_alloc ?_ _)); refine blk_far ?_ NB227_264.out _; (with_reducible repeat (first | refine blk_drewN ?_ _ | refine blk_drew ?_ | refine blk_alloc ?_ _)); refine blk_far ?_ NB227_264.out _; (with_reducible repeat (first | refine blk_drewN ?_ _ | refine blk_drew ?_ | refine blk_alloc ?_ _)); exact BK227.out)) : gb265 ≠ gb227)); have n13_ := Aside0.mk ((by rw [hg]; exact Nat.ne_of_lt (blk_lt (g := gb228) (o := .cells #[.int .u32 a2_0, .int .u32 a2_1, .int .u8 a2_2, .int .u16 a2_3, .int .u16 a2_4] 67 (0, 0)) (by (with_reducible repeat (first | refine blk_drewN ?_ _ | refine blk_drew ?_ | refine blk_alloc ?_ _)); refine blk_far ?_ NB228_264.out _; (with_reducible repeat (first | refine blk_drewN ?_ _ | refine blk_drew ?_ | refine blk_alloc ?_ _)); refine blk_far ?_ NB228_264.out _; (with_reducible repeat (first | refine blk_drewN ?_ _ | refine blk_drew ?_ | refine blk_alloc ?_ _)); refine blk_far ?_ NB228_264.out _; (with_reducible repeat (first | refine blk_drewN ?_ _ | refine blk_drew ?_ | refine blk_alloc ?_ _)); refine blk_far ?_ NB228_264.out _; (with_reducible repeat (first | refine blk_drewN ?_ _ | refine blk_drew ?_ | refine blk_alloc ?_ _)); refine blk_far ?_ NB228_264.out _; (with_reducible repeat (first | refine blk_drewN ?_ _ | refine blk_drew ?_ | refine blk_alloc ?_ _)); exact BK228.out)) : gb228 ≠ gb265)); have n14_ := Aside0.mk ((by rw [hg]; exact Nat.ne_of_gt (blk_lt (g := gb228) (o := .cells #[.int .u32 a2_0, .int .u32 a2_1, .int .u8 a2_2, .int .u16 a2_3, .int .u16 a2_4] 67 (0, 0)) (by (with_reducible repeat (first | refine blk_drewN ?_ _ | refine blk_drew ?_ | refine blk_alloc ?_ _)); refine blk_far ?_ NB228_264.out _; (with_reducible repeat (first | refine blk_drewN ?_ _ | refine blk_drew ?_ | refine blk_alloc ?_ _)); refine blk_far ?_ NB228_264.out _; (with_reducible repeat (first | refine blk_drewN ?_ _ | refine blk_drew ?_ | refine blk_alloc ?_ _)); refine blk_far ?_ NB228_264.out _; (with_reducible repeat (first | refine blk_drewN ?_ _ | refine blk_drew ?_ | refine blk_alloc ?_ _)); refine blk_far ?_ NB228_264.out _; (with_reducible repeat (first | refine blk_drewN ?_ _ | refine blk_drew ?_ | refine blk_alloc ?_ _)); refine blk_far ?_ NB228_264.out _; (with_reducible repeat (first | refine blk_drewN ?_ _ | refine blk_drew ?_ | refine blk_alloc ?_ _)); exact BK228.out)) : gb265 ≠ gb228)); have n15_ := Aside0.mk ((by rw [hg]; exact Nat.ne_of_lt (blk_lt (g := gb237) (o := .cells #[.int .u32 t232, .int .u32 t233, .int .u8 t234, .int .u16 t235, .int .u16 t236] 67 (0, 0)) (by (with_reducible repeat (first | refine blk_drewN ?_ _ | refine blk_drew ?_ | refine blk_alloc ?_ _)); refine blk_far ?_ NB237_264.out _; (with_reducible repeat (first | refine blk_drewN ?_ _ | refine blk_drew ?_ | refine blk_alloc ?_ _)); refine blk_far ?_ NB237_264.out _; (with_reducible repeat (first | refine blk_drewN ?_ _ | refine blk_drew ?_ | refine blk_alloc ?_ _)); refine blk_far ?_ NB237_264.out _; (with_reducible repeat (first | refine blk_drewN ?_ _ | refine blk_drew ?_ | refine blk_alloc ?_ _)); refine blk_far ?_ NB237_264.out _; (with_reducible repeat (first | refine blk_drewN ?_ _ | refine blk_drew ?_ | refine blk_alloc ?_ _)); refine blk_far ?_ NB237_264.out _; (with_reducible repeat (first | refine blk_drewN ?_ _ | refine blk_drew ?_ | refine blk_alloc ?_ _)); exact BK237.out)) : gb237 ≠ gb265)); have n16_ := Aside0.mk ((by rw [hg]; exact Nat.ne_of_gt (blk_lt (g := gb237) (o := .cells #[.int .u32 t232, .int .u32 t233, .int .u8 t234, .int .u16 t235, .int .u16 t236] 67 (0, 0)) (by (with_reducible repeat (first | refine blk_drewN ?_ _ | refine blk_drew ?_ | refine blk_alloc ?_ _)); refine blk_far ?_ NB237_264.out _; (with_reducible repeat (first | refine blk_drewN ?_ _ | refine blk_drew ?_ | refine blk_alloc ?_ _)); refine blk_far ?_ NB237_264.out _; (with_reducible repeat (first | refine blk_drewN ?_ _ | refine blk_drew ?_ | refine blk_alloc ?_ _)); refine blk_far ?_ NB237_264.out _; (with_reducible repeat (first | refine blk_drewN ?_ _ | refine blk_drew ?_ | refine blk_alloc ?_ _)); refine blk_far ?_ NB237_264.out _; (with_reducible repeat (first | refine blk_drewN ?_ _ | refine blk_drew ?_ | refine blk_alloc ?_ _)); refine blk_far ?_ NB237_264.out _; (with_reducible repeat (first | refine blk_drewN ?_ _ | refine blk_drew ?_ | refine blk_alloc ?_ _)); exact BK237.out)) : gb265 ≠ gb237)); have n17_ := Aside0.mk ((by rw [hg]; exact Nat.ne_of_lt (blk_lt (g := gb264) (o := .cells #[.int .u32 t259, .int .u32 t260, .int .u8 t261, .int .u16 t262, .int .u16 t263] 67 (0, 0)) (by (with_reducible repeat (first | refine blk_drewN ?_ _ | refine blk_drew ?_ | refine blk_alloc ?_ _)); refine blk_put (cs := #[.int .u32 t259, .int .u32 t260, .int .u8 t261, .int .u16 t262, .int .u16 0]) ?_ 4 _ rfl; (with_reducible repeat (first | refine blk_drewN ?_ _ | refine blk_drew ?_ | refine blk_alloc ?_ _)); refine blk_put (cs := #[.int .u32 t259, .int .u32 t260, .int .u8 t261, .int .u16 0, .int .u16 0]) ?_ 3 _ rfl; (with_reducible repeat (first | refine blk_drewN ?_ _ | refine blk_drew ?_ | refine blk_alloc ?_ _)); refine blk_put (cs := #[.int .u32 t259, .int .u32 t260, .int .u8 0, .int .u16 0, .int .u16 0]) ?_ 2 _ rfl; (with_reducible repeat (first | refine blk_drewN ?_ _ | refine blk_drew ?_ | refine blk_alloc ?_ _)); refine blk_put (cs := #[.int .u32 t259, .int .u32 0, .int .u8 0, .int .u16 0, .int .u16 0]) ?_ 1 _ rfl; (with_reducible repeat (first | refine blk_drewN ?_ _ | refine blk_drew ?_ | refine blk_alloc ?_ _)); refine blk_put (cs := #[.int .u32 0, .int .u32 0, .int .u8 0, .int .u16 0, .int .u16 0]) ?_ 0 _ rfl; (with_reducible repeat (first | refine blk_drewN ?_ _ | refine blk_drew ?_ | refine blk_alloc ?_ _)); exact BK264.out)) : gb264 ≠ gb265)); have n18_ := Aside0.mk ((by rw [hg]; exact Nat.ne_of_gt (blk_lt (g := gb264) (o := .cells #[.int .u32 t259, .int .u32 t260, .int .u8 t261, .int .u16 t262, .int .u16 t263] 67 (0, 0)) (by (with_reducible repeat (first | refine blk_drewN ?_ _ | refine blk_drew ?_ | refine blk_alloc ?_ _)); refine blk_put (cs := #[.int .u32 t259, .int .u32 t260, .int .u8 t261, .int .u16 t262, .int .u16 0]) ?_ 4 _ rfl; (with_reducible repeat (first | refine blk_drewN ?_ _ | refine blk_drew ?_ | refine blk_alloc ?_ _)); refine blk_put (cs := #[.int .u32 t259, .int .u32 t260, .int .u8 t261, .int .u16 0, .int .u16 0]) ?_ 3 _ rfl; (with_reducible repeat (first | refine blk_drewN ?_ _ | refine blk_drew ?_ | refine blk_alloc ?_ _)); refine blk_put (cs := #[.int .u32 t259, .int .u32 t260, .int .u8 0, .int .u16 0, .int .u16 0]) ?_ 2 _ rfl; (with_reducible repeat (first | refine blk_drewN ?_ _ | refine blk_drew ?_ | refine blk_alloc ?_ _)); refine blk_put (cs := #[.int .u32 t259, .int .u32 0, .int .u8 0, .int .u16 0, .int .u16 0]) ?_ 1 _ rfl; (with_reducible repeat (first | refine blk_drewN ?_ _ | refine blk_drew ?_ | refine blk_alloc ?_ _)); refine blk_put (cs := #[.int .u32 0, .int .u32 0, .int .u8 0, .int .u16 0, .int .u16 0]) ?_ 0 _ rfl; (with_reducible repeat (first | refine blk_drewN ?_ _ | refine blk_drew ?_ | refine blk_alloc ?_ _)); exact BK264.out)) : gb265 ≠ gb264)); clear BK226; clear BK227; clear BK228; clear BK237; clear BK264; clear HB; have BK226 := n0_; have BK227 := n1_; have BK228 := n2_; have BK237 := n3_; have BK264 := n4_; have HB := n5_; have BK265 := n6_; have GW265 := n7_; have GE265 := n8_; have NB226_265 := n9_; have NB265_226 := n10_; have NB227_265 := n11_; have NB265_227 := n12_; have NB228_265 := n13_; have NB265_228 := n14_; have NB237_265 := n15_; have NB265_237 := n16_; have NB264_265 := n17_; have NB265_264 := n18_; clear n0_ n1_ n2_ n3_ n4_ n5_ n6_ n7_ n8_ n9_ n10_ n11_ n12_ n13_ n14_ n15_ n16_ n17_ n18_; clear hb hbox hg; have hnb212 := NB265_226.out; have hnc212 := NB226_265.out; have hnb213 := NB265_227.out; have hnc213 := NB227_265.out; have hnb214 := NB265_228.out; have hnc214 := NB228_265.out; have hnb215 := NB265_237.out; have hnc215 := NB237_265.out; have hnb216 := NB265_264.out; have hnc216 := NB264_265.out; have hcz217 := cz5 BK265.out) | ((with_reducible refine gate_callee (f := 46) rfl ?_); refine goesL_ (some 110) rfl rfl Tryd.func46 (by kernel_rfl) rfl #[] rfl (by (try simp only [List.map_toArray, List.map_cons, List.map_nil]); first | done | rfl | (simp only [List.length_drop, List.length_take]; rfl)) ?_; (with_reducible refine (crossbucklaw04_awake.calls kj169  true _ (Hand.Good.below true false hGG.out (by repeat (first | (with_reducible first | exact HB.out | apply below_alloc | apply pw_below_drewN | apply below_drew1 | refine below_set ?_ GE226.out | refine below_set ?_ GE227.out | refine below_set ?_ GE228.out | refine below_set ?_ GE237.out | refine below_set ?_ GE264.out | refine below_set ?_ GE265.out) | exact HB.out)) rfl rfl) A188.out).mono ?_); rintro e w218 ⟨rfl, hb⟩; refine ⟨_, rfl, ?_⟩; have n0_ := Aside0.mk (blk_below (g := gb226) (o := .cells #[.int .u32 a0_0, .int .i64 a0_1, .int .u32 a0_2, .int .i64 a0_3, .int .i64 a0_4, .int .u16 a0_5, .int .u16 a0_6, .int .u16 a0_7, .int .u16 a0_8] 77 (0, 0)) (by (with_reducible repeat (first | refine blk_drewN ?_ _ | refine blk_drew ?_ | refine blk_alloc ?_ _)); refine blk_far ?_ NB226_265.out _; (with_reducible repeat (first | refine blk_drewN ?_ _ | refine blk_drew ?_ | refine blk_alloc ?_ _)); refine blk_far ?_ NB226_265.out _; (with_reducible repeat (first | refine blk_drewN ?_ _ | refine blk_drew ?_ | refine blk_alloc ?_ _)); refine blk_far ?_ NB226_265.out _; (with_reducible repeat (first | refine blk_drewN ?_ _ | refine blk_drew ?_ | refine blk_alloc ?_ _)); refine blk_far ?_ NB226_265.out _; (with_reducible repeat (first | refine blk_drewN ?_ _ | refine blk_drew ?_ | refine blk_alloc ?_ _)); refine blk_far ?_ NB226_265.out _; (with_reducible repeat (first | refine blk_drewN ?_ _ | refine blk_drew ?_ | refine blk_alloc ?_ _)); exact BK226.out) hb); have n1_ := Aside0.mk (blk_below (g := gb227) (o := .cells #[.int .u32 a1_0, .int .i64 a1_1, .int .u32 a1_2, .int .i64 a1_3, .int .i64 a1_4, .int .u16 a1_5, .int .u16 a1_6, .int .u16 a1_7, .int .u16 a1_8] 77 (0, 0)) (by (with_reducible repeat (first | refine blk_drewN ?_ _ | refine blk_drew ?_ | refine blk_alloc ?_ _)); refine blk_far ?_ NB227_265.out _; (with_reducible repeat (first | refine blk_drewN ?_ _ | refine blk_drew ?_ | refine blk_alloc ?_ _)); refine blk_far ?_ NB227_265.out _; (with_reducible repeat (first | refine blk_drewN ?_ _ | refine blk_drew ?_ | refine blk_alloc ?_ _)); refine blk_far ?_ NB227_265.out _; (with_reducible repeat (first | refine blk_drewN ?_ _ | refine blk_drew ?_ | refine blk_alloc ?_ _)); refine blk_far ?_ NB227_265.out _; (with_reducible repeat (first | refine blk_drewN ?_ _ | refine blk_drew ?_ | refine blk_alloc ?_ _)); refine blk_far ?_ NB227_265.out _; (with_reducible repeat (first | refine blk_drewN ?_ _ | refine blk_drew ?_ | refine blk_alloc ?_ _)); exact BK227.out) hb); have n2_ := Aside0.mk (blk_below (g := gb228) (o := .cells #[.int .u32 a2_0, .int .u32 a2_1, .int .u8 a2_2, .int .u16 a2_3, .int .u16 a2_4] 67 (0, 0)) (by (with_reducible repeat (first | refine blk_drewN ?_ _ | refine blk_drew ?_ | refine blk_alloc ?_ _)); refine blk_far ?_ NB228_265.out _; (with_reducible repeat (first | refine blk_drewN ?_ _ | refine blk_drew ?_ | refine blk_alloc ?_ _)); refine blk_far ?_ NB228_265.out _; (with_reducible repeat (first | refine blk_drewN ?_ _ | refine blk_drew ?_ | refine blk_alloc ?_ _)); refine blk_far ?_ NB228_265.out _; (with_reducible repeat (first | refine blk_drewN ?_ _ | refine blk_drew ?_ | refine blk_alloc ?_ _)); refine blk_far ?_ NB228_265.out _; (with_reducible repeat (first | refine blk_drewN ?_ _ | refine blk_drew ?_ | refine blk_alloc ?_ _)); refine blk_far ?_ NB228_265.out _; (with_reducible repeat (first | refine blk_drewN ?_ _ | refine blk_drew ?_ | refine blk_alloc ?_ _)); exact BK228.out) hb); have n3_ := Aside0.mk (blk_below (g := gb237) (o := .cells #[.int .u32 t232, .int .u32 t233, .int .u8 t234, .int .u16 t235, .int .u16 t236] 67 (0, 0)) (by (with_reducible repeat (first | refine blk_drewN ?_ _ | refine blk_drew ?_ | refine blk_alloc ?_ _)); refine blk_far ?_ NB237_265.out _; (with_reducible repeat (first | refine blk_drewN ?_ _ | refine blk_drew ?_ | refine blk_alloc ?_ _)); refine blk_far ?_ NB237_265.out _; (with_reducible repeat (first | refine blk_drewN ?_ _ | refine blk_drew ?_ | refine blk_alloc ?_ _)); refine blk_far ?_ NB237_265.out _; (with_reducible repeat (first | refine blk_drewN ?_ _ | refine blk_drew ?_ | refine blk_alloc ?_ _)); refine blk_far ?_ NB237_265.out _; (with_reducible repeat (first | refine blk_drewN ?_ _ | refine blk_drew ?_ | refine blk_alloc ?_ _)); refine blk_far ?_ NB237_265.out _; (with_reducible repeat (first | refine blk_drewN ?_ _ | refine blk_drew ?_ | refine blk_alloc ?_ _)); exact BK237.out) hb); have n4_ := Aside0.mk (blk_below (g := gb264) (o := .cells #[.int .u32 t259, .int .u32 t260, .int .u8 t261, .int .u16 t262, .int .u16 t263] 67 (0, 0)) (by (with_reducible repeat (first | refine blk_drewN ?_ _ | refine blk_drew ?_ | refine blk_alloc ?_ _)); refine blk_far ?_ NB264_265.out _; (with_reducible repeat (first | refine blk_drewN ?_ _ | refine blk_drew ?_ | refine blk_alloc ?_ _)); refine blk_far ?_ NB264_265.out _; (with_reducible repeat (first | refine blk_drewN ?_ _ | refine blk_drew ?_ | refine blk_alloc ?_ _)); refine blk_far ?_ NB264_265.out _; (with_reducible repeat (first | refine blk_drewN ?_ _ | refine blk_drew ?_ | refine blk_alloc ?_ _)); refine blk_far ?_ NB264_265.out _; (with_reducible repeat (first | refine blk_drewN ?_ _ | refine blk_drew ?_ | refine blk_alloc ?_ _)); refine blk_far ?_ NB264_265.out _; (with_reducible repeat (first | refine blk_drewN ?_ _ | refine blk_drew ?_ | refine blk_alloc ?_ _)); exact BK264.out) hb); have n5_ := Aside0.mk (blk_below (g := gb265) (o := .cells #[.int .u32 ji183, .int .u32 ji184, .int .u8 ji185, .int .u16 ji186, .int .u16 ji187] 67 (0, 0)) (by (with_reducible repeat (first | refine blk_drewN ?_ _ | refine blk_drew ?_ | refine blk_alloc ?_ _)); refine blk_put (cs := #[.int .u32 ji183, .int .u32 ji184, .int .u8 ji185, .int .u16 ji186, .int .u16 0]) ?_ 4 _ rfl; (with_reducible repeat (first | refine blk_drewN ?_ _ | refine blk_drew ?_ | refine blk_alloc ?_ _)); refine blk_put (cs := #[.int .u32 ji183, .int .u32 ji184, .int .u8 ji185, .int .u16 0, .int .u16 0]) ?_ 3 _ rfl; (with_reducible repeat (first | refine blk_drewN ?_ _ | refine blk_drew ?_ | refine blk_alloc ?_ _)); refine blk_put (cs := #[.int .u32 ji183, .int .u32 ji184, .int .u8 0, .int .u16 0, .int .u16 0]) ?_ 2 _ rfl; (with_reducible repeat (first | refine blk_drewN ?_ _ | refine blk_drew ?_ | refine blk_alloc ?_ _)); refine blk_put (cs := #[.int .u32 ji183, .int .u32 0, .int .u8 0, .int .u16 0, .int .u16 0]) ?_ 1 _ rfl; (with_reducible repeat (first | refine blk_drewN ?_ _ | refine blk_drew ?_ | refine blk_alloc ?_ _)); refine blk_put (cs := #[.int .u32 0, .int .u32 0, .int .u8 0, .int .u16 0, .int .u16 0]) ?_ 0 _ rfl; (with_reducible repeat (first | refine blk_drewN ?_ _ | refine blk_drew ?_ | refine blk_alloc ?_ _)); exact BK265.out) hb); have n6_ := Aside0.mk (below_step (by repeat (first | (with_reducible first | exact HB.out | apply below_alloc | apply pw_below_drewN | apply below_drew1 | refine below_set ?_ GE226.out | refine below_set ?_ GE227.out | refine below_set ?_ GE228.out | refine below_set ?_ GE237.out | refine below_set ?_ GE264.out | refine below_set ?_ GE265.out) | exact HB.out)) hb); clear BK226; clear BK227; clear BK228; clear BK237; clear BK264; clear BK265; clear HB; have BK226 := n0_; have BK227 := n1_; have BK228 := n2_; have BK237 := n3_; have BK264 := n4_; have BK265 := n5_; have HB := n6_; clear n0_ n1_ n2_ n3_ n4_ n5_ n6_; (try clear hb); (try clear hb2); (try clear hk); (try clear hi); have hcz219 := cz9 BK226.out; have hcz220 := cz5 BK265.out) | (go_at_call 47; (with_reducible refine (crossbuckref04_Match.calls kj169 a0_0 a0_1 a0_2 a0_3 a0_4 a0_5 a0_6 a0_7 a0_8 ji183 ji184 ji185 ji186 ji187 true _ A190.out).mono ?_); rintro e w221 ⟨rfl, hb⟩; have n0_ := Aside0.mk (bb BK226.out hb); have n1_ := Aside0.mk (bb BK227.out hb); have n2_ := Aside0.mk (bb BK228.out hb); have n3_ := Aside0.mk (bb BK237.out hb); have n4_ := Aside0.mk (bb BK264.out hb); have n5_ := Aside0.mk (bb BK265.out hb); have n6_ := Aside0.mk (below_step (by repeat (first | (with_reducible first | exact HB.out | apply below_alloc | apply pw_below_drewN | apply below_drew1 | refine below_set ?_ GE226.out | refine below_set ?_ GE227.out | refine below_set ?_ GE228.out | refine below_set ?_ GE237.out | refine below_set ?_ GE264.out | refine below_set ?_ GE265.out) | exact HB.out)) hb); clear BK226; clear BK227; clear BK228; clear BK237; clear BK264; clear BK265; clear HB; have BK226 := n0_; have BK227 := n1_; have BK228 := n2_; have BK237 := n3_; have BK264 := n4_; have BK265 := n5_; have HB := n6_; clear n0_ n1_ n2_ n3_ n4_ n5_ n6_; (try clear hb); (try clear hb2); (try clear hk); (try clear hi); have hcz222 := cz9 BK227.out; have hcz223 := cz5 BK265.out) | (go_at_call 47; (with_reducible refine (crossbuckref04_Match.calls kj169 a1_0 a1_1 a1_2 a1_3 a1_4 a1_5 a1_6 a1_7 a1_8 ji183 ji184 ji185 ji186 ji187 t268 _ A192.out).mono ?_); rintro e w224 ⟨rfl, hb⟩; have n0_ := Aside0.mk (bb BK226.out hb); have n1_ := Aside0.mk (bb BK227.out hb); have n2_ := Aside0.mk (bb BK228.out hb); have n3_ := Aside0.mk (bb BK237.out hb); have n4_ := Aside0.mk (bb BK264.out hb); have n5_ := Aside0.mk (bb BK265.out hb); have n6_ := Aside0.mk (below_step (by repeat (first | (with_reducible first | exact HB.out | apply below_alloc | apply pw_below_drewN | apply below_drew1 | refine below_set ?_ GE226.out | refine below_set ?_ GE227.out | refine below_set ?_ GE228.out | refine below_set ?_ GE237.out | refine below_set ?_ GE264.out | refine below_set ?_ GE265.out) | exact HB.out)) hb); clear BK226; clear BK227; clear BK228; clear BK237; clear BK264; clear BK265; clear HB; have BK226 := n0_; have BK227 := n1_; have BK228 := n2_; have BK237 := n3_; have BK264 := n4_; have BK265 := n5_; have HB := n6_; clear n0_ n1_ n2_ n3_ n4_ n5_ n6_; (try clear hb); (try clear hb2); (try clear hk); (try clear hi)))
             go_ret
             exact ⟨by first | rfl | (simp [errW_none, errW_some] <;> rfl) | (simp only [← hji183, ← hji184, ← hji185, ← hji186, ← hji187]; first | rfl | (simp [errW_none, errW_some] <;> rfl)) | (simp [*, errW_none, errW_some] <;> rfl), by repeat (first | (with_reducible first | exact HB.out | apply below_alloc | apply pw_below_drewN | apply below_drew1 | refine below_set ?_ GE226.out | refine below_set ?_ GE227.out | refine below_set ?_ GE228.out | refine below_set ?_ GE237.out | refine below_set ?_ GE264.out | refine below_set ?_ GE265.out) | exact HB.out)⟩
            ·replace c191 := Bool.eq_false_iff.mpr c191
             subst c191
             have H1 : (some false) = some r := by rw [if_neg (show ¬ (false = true) by decide)] at H; exact H
             clear H
             have H := H1
             clear H1
             exact absurd ((Option.some.inj H).trans hT.out) (by decide)
           ·replace c189 := Bool.eq_false_iff.mpr c189
            subst c189
            have H1 : (some false) = some r := by rw [if_neg (show ¬ (false = true) by decide)] at H; exact H
            clear H
            have H := H1
            clear H1
            exact absurd ((Option.some.inj H).trans hT.out) (by decide)
          ·replace c181 := Bool.eq_false_iff.mpr c181
           subst c181
           have H1 : ((crossbucklaw04_awake.f kj169).bind fun t251 => (if t251 = true then ((crossbuckref04_Match.f kj169 a1_0 a1_1 a1_2 a1_3 a1_4 a1_5 a1_6 a1_7 a1_8 t232 t233 t234 t235 t236).bind fun t252 => (if t252 = true then ((filter_Some.f a1_0 a1_1 a1_2 a1_3 a1_4 a1_5 a1_6 a1_7 a1_8).bind fun bt253 => ((crossbuckref04_Match.f kj169 a0_0 a0_1 a0_2 a0_3 a0_4 a0_5 a0_6 a0_7 a0_8 bt253.1 bt253.2.1 bt253.2.2.1 bt253.2.2.2.1 bt253.2.2.2.2).bind fun t258 => (some (!t258)))) else (some (!false)))) else (some false))) = some r := by rw [if_neg (show ¬ (false = true) by decide)] at H; exact H
           clear H
           have H := H1
           clear H1
           replace H := Option.bind_eq_some_iff.mp H
           obtain ⟨t251, A2250, H⟩ := H
           replace H : (if t251 = true then ((crossbuckref04_Match.f kj169 a1_0 a1_1 a1_2 a1_3 a1_4 a1_5 a1_6 a1_7 a1_8 t232 t233 t234 t235 t236).bind fun t252 => (if t252 = true then ((filter_Some.f a1_0 a1_1 a1_2 a1_3 a1_4 a1_5 a1_6 a1_7 a1_8).bind fun bt253 => ((crossbuckref04_Match.f kj169 a0_0 a0_1 a0_2 a0_3 a0_4 a0_5 a0_6 a0_7 a0_8 bt253.1 bt253.2.1 bt253.2.2.1 bt253.2.2.2.1 bt253.2.2.2.2).bind fun t258 => (some (!t258)))) else (some (!false)))) else (some false)) = some r := H
           have A225 := Aside0.mk A2250
           clear A2250
           by_cases c226 : t251 = true
           ·subst c226
            have H1 : ((crossbuckref04_Match.f kj169 a1_0 a1_1 a1_2 a1_3 a1_4 a1_5 a1_6 a1_7 a1_8 t232 t233 t234 t235 t236).bind fun t252 => (if t252 = true then ((filter_Some.f a1_0 a1_1 a1_2 a1_3 a1_4 a1_5 a1_6 a1_7 a1_8).bind fun bt253 => ((crossbuckref04_Match.f kj169 a0_0 a0_1 a0_2 a0_3 a0_4 a0_5 a0_6 a0_7 a0_8 bt253.1 bt253.2.1 bt253.2.2.1 bt253.2.2.2.1 bt253.2.2.2.2).bind fun t258 => (some (!t258)))) else (some (!false)))) = some r := by rw [if_pos rfl] at H; exact H
            clear H
            have H := H1
            clear H1
            replace H := Option.bind_eq_some_iff.mp H
            obtain ⟨t252, A2270, H⟩ := H
            replace H : (if t252 = true then ((filter_Some.f a1_0 a1_1 a1_2 a1_3 a1_4 a1_5 a1_6 a1_7 a1_8).bind fun bt253 => ((crossbuckref04_Match.f kj169 a0_0 a0_1 a0_2 a0_3 a0_4 a0_5 a0_6 a0_7 a0_8 bt253.1 bt253.2.1 bt253.2.2.1 bt253.2.2.2.1 bt253.2.2.2.2).bind fun t258 => (some (!t258)))) else (some (!false))) = some r := H
            have A227 := Aside0.mk A2270
            clear A2270
            by_cases c228 : t252 = true
            ·subst c228
             have H1 : ((filter_Some.f a1_0 a1_1 a1_2 a1_3 a1_4 a1_5 a1_6 a1_7 a1_8).bind fun bt253 => ((crossbuckref04_Match.f kj169 a0_0 a0_1 a0_2 a0_3 a0_4 a0_5 a0_6 a0_7 a0_8 bt253.1 bt253.2.1 bt253.2.2.1 bt253.2.2.2.1 bt253.2.2.2.2).bind fun t258 => (some (!t258)))) = some r := by rw [if_pos rfl] at H; exact H
             clear H
             have H := H1
             clear H1
             replace H := Option.bind_eq_some_iff.mp H
             obtain ⟨⟨t253, t254, t255, t256, t257⟩, A2290, H⟩ := H
             replace H : ((crossbuckref04_Match.f kj169 a0_0 a0_1 a0_2 a0_3 a0_4 a0_5 a0_6 a0_7 a0_8 t253 t254 t255 t256 t257).bind fun t258 => (some (!t258))) = some r := H
             have A229 := Aside0.mk A2290
             clear A2290
             replace H := Option.bind_eq_some_iff.mp H
             obtain ⟨t258, A2300, H⟩ := H
             replace H : (some (!t258)) = some r := H
             have A230 := Aside0.mk A2300
             clear A2300
             obtain rfl := Option.some.inj H
             have hnb231 := NB226_227.out
             have hnc231 := NB227_226.out
             have hnb232 := NB226_228.out
             have hnc232 := NB228_226.out
             have hnb233 := NB226_237.out
             have hnc233 := NB237_226.out
             have hcz234 := cz9 BK226.out
             have hnb235 := NB227_228.out
             have hnc235 := NB228_227.out
             have hnb236 := NB227_237.out
             have hnc236 := NB237_227.out
             have hcz237 := cz9 BK227.out
             try go_wp2_with (first | ((with_reducible refine gate_callee (f := 48) rfl ?_); refine goesL_ (some 67) rfl rfl Tryd.func48 (by kernel_rfl) rfl #[.agg #[.int .u32 a0_0, .int .i64 a0_1, .int .u32 a0_2, .int .i64 a0_3, .int .i64 a0_4, .int .u16 a0_5, .int .u16 a0_6, .int .u16 a0_7, .int .u16 a0_8], .agg #[.int .u32 a1_0, .int .i64 a1_1, .int .u32 a1_2, .int .i64 a1_3, .int .i64 a1_4, .int .u16 a1_5, .int .u16 a1_6, .int .u16 a1_7, .int .u16 a1_8]] rfl (by (try simp only [List.map_toArray, List.map_cons, List.map_nil]); first | done | rfl | (simp only [List.length_drop, List.length_take]; rfl)) ?_; (with_reducible refine (filter_Meet.calls kj169 a0_0 a0_1 a0_2 a0_3 a0_4 a0_5 a0_6 a0_7 a0_8 a1_0 a1_1 a1_2 a1_3 a1_4 a1_5 a1_6 a1_7 a1_8 false _ A180.out).mono ?_); rintro e w238 ⟨rfl, hb⟩; refine ⟨_, rfl, ?_⟩; have n0_ := Aside0.mk (bb BK226.out hb); have n1_ := Aside0.mk (bb BK227.out hb); have n2_ := Aside0.mk (bb BK228.out hb); have n3_ := Aside0.mk (bb BK237.out hb); have n4_ := Aside0.mk (below_step (by repeat (first | (with_reducible first | exact HB.out | apply below_alloc | apply pw_below_drewN | apply below_drew1 | refine below_set ?_ GE226.out | refine below_set ?_ GE227.out | refine below_set ?_ GE228.out | refine below_set ?_ GE237.out) | exact HB.out)) hb); clear BK226; clear BK227; clear BK228; clear BK237; clear HB; have BK226 := n0_; have BK227 := n1_; have BK228 := n2_; have BK237 := n3_; have HB := n4_; clear n0_ n1_ n2_ n3_ n4_; (try clear hb); (try clear hb2); (try clear hk); (try clear hi)))
             have n0_ := Aside0.mk (blk_drew BK226.out)
             have n1_ := Aside0.mk (blk_drew BK227.out)
             have n2_ := Aside0.mk (blk_drew BK228.out)
             have n3_ := Aside0.mk (blk_drew BK237.out)
             have n4_ := Aside0.mk (below_drew1 HB.out)
             clear BK226
             clear BK227
             clear BK228
             clear BK237
             clear HB
             have BK226 := n0_
             have BK227 := n1_
             have BK228 := n2_
             have BK237 := n3_
             have HB := n4_
             clear n0_ n1_ n2_ n3_ n4_
             refine start_ (n := 14) (S := fun w' => w'.cell? ⟨gb227, 0, none⟩ = some (.int .u32 a1_0) ∧ w'.cell? ⟨gb227, 1, none⟩ = some (.int .i64 a1_1) ∧ w'.cell? ⟨gb227, 2, none⟩ = some (.int .u32 a1_2) ∧ w'.cell? ⟨gb227, 3, none⟩ = some (.int .i64 a1_3) ∧ w'.cell? ⟨gb227, 4, none⟩ = some (.int .i64 a1_4) ∧ w'.cell? ⟨gb227, 5, none⟩ = some (.int .u16 a1_5) ∧ w'.cell? ⟨gb227, 6, none⟩ = some (.int .u16 a1_6) ∧ w'.cell? ⟨gb227, 7, none⟩ = some (.int .u16 a1_7) ∧ w'.cell? ⟨gb227, 8, none⟩ = some (.int .u16 a1_8) ∧ w'.cell? ⟨gb237, 0, none⟩ = some (.int .u32 t232) ∧ w'.cell? ⟨gb237, 1, none⟩ = some (.int .u32 t233) ∧ w'.cell? ⟨gb237, 2, none⟩ = some (.int .u8 t234) ∧ w'.cell? ⟨gb237, 3, none⟩ = some (.int .u16 t235) ∧ w'.cell? ⟨gb237, 4, none⟩ = some (.int .u16 t236) ∧ w'.cell? ⟨gb226, 0, none⟩ = some (.int .u32 a0_0) ∧ w'.cell? ⟨gb226, 1, none⟩ = some (.int .i64 a0_1) ∧ w'.cell? ⟨gb226, 2, none⟩ = some (.int .u32 a0_2) ∧ w'.cell? ⟨gb226, 3, none⟩ = some (.int .i64 a0_3) ∧ w'.cell? ⟨gb226, 4, none⟩ = some (.int .i64 a0_4) ∧ w'.cell? ⟨gb226, 5, none⟩ = some (.int .u16 a0_5) ∧ w'.cell? ⟨gb226, 6, none⟩ = some (.int .u16 a0_6) ∧ w'.cell? ⟨gb226, 7, none⟩ = some (.int .u16 a0_7) ∧ w'.cell? ⟨gb226, 8, none⟩ = some (.int .u16 a0_8)) (ds := []) #[false, false, false, false, false, false, false, false, false, false, false, false, false, false] (by kernel_rfl) rfl rfl ⟨(blk_cell BK227.out 0).trans rfl, (blk_cell BK227.out 1).trans rfl, (blk_cell BK227.out 2).trans rfl, (blk_cell BK227.out 3).trans rfl, (blk_cell BK227.out 4).trans rfl, (blk_cell BK227.out 5).trans rfl, (blk_cell BK227.out 6).trans rfl, (blk_cell BK227.out 7).trans rfl, (blk_cell BK227.out 8).trans rfl, (blk_cell BK237.out 0).trans rfl, (blk_cell BK237.out 1).trans rfl, (blk_cell BK237.out 2).trans rfl, (blk_cell BK237.out 3).trans rfl, (blk_cell BK237.out 4).trans rfl, (blk_cell BK226.out 0).trans rfl, (blk_cell BK226.out 1).trans rfl, (blk_cell BK226.out 2).trans rfl, (blk_cell BK226.out 3).trans rfl, (blk_cell BK226.out 4).trans rfl, (blk_cell BK226.out 5).trans rfl, (blk_cell BK226.out 6).trans rfl, (blk_cell BK226.out 7).trans rfl, (blk_cell BK226.out 8).trans rfl⟩ (fun hHeld => ?_); refine with_tabW crossbucklaw04_FilterMeets.tab9 crossbucklaw04_FilterMeets.bits9 (fun HT_ HW_ => ?_)
             generalize w238.drew = w239 at BK226 BK227 BK228 BK237 HB hHeld ⊢
             refine one_ (i := 0) (N := some 69) #[true, false, false, false, false, false, false, false, false, false, false, false, false, false] rfl rfl (one_of HT_.out (by kernel_rfl)) (by decide) (fun K hK => ?_)
             refine goes_ Tryd.func46 (by kernel_rfl) rfl #[] (by rfl) rfl rfl (by (try simp only [List.map_toArray, List.map_cons, List.map_nil]); first | done | rfl | (simp only [List.length_drop, List.length_take]; rfl)) ?_
             with_reducible refine (crossbucklaw04_awake.calls kj169  true _ (Hand.Good.below true false hGG.out (by repeat (first | (with_reducible first | exact HB.out | apply below_alloc | apply pw_below_drewN | apply below_drew1 | refine below_set ?_ GE226.out | refine below_set ?_ GE227.out | refine below_set ?_ GE228.out | refine below_set ?_ GE237.out) | exact HB.out)) rfl rfl) A225.out).mono ?_
             rintro e w240 ⟨rfl, hb⟩
             refine ⟨_, rfl, ?_⟩
             have n0_ := Aside0.mk (bb BK226.out hb)
             have n1_ := Aside0.mk (bb BK227.out hb)
             have n2_ := Aside0.mk (bb BK228.out hb)
             have n3_ := Aside0.mk (bb BK237.out hb)
             have n4_ := Aside0.mk (below_step (by repeat (first | (with_reducible first | exact HB.out | apply below_alloc | apply pw_below_drewN | apply below_drew1 | refine below_set ?_ GE226.out | refine below_set ?_ GE227.out | refine below_set ?_ GE228.out | refine below_set ?_ GE237.out) | exact HB.out)) hb)
             clear BK226
             clear BK227
             clear BK228
             clear BK237
             clear HB
             have BK226 := n0_
             have BK227 := n1_
             have BK228 := n2_
             have BK237 := n3_
             have HB := n4_
             clear n0_ n1_ n2_ n3_ n4_
             (try clear hb)
             (try clear hb2)
             (try clear hk)
             (try clear hi)
             refine hK.out _ _ ⟨(blk_cell BK227.out 0).trans rfl, (blk_cell BK227.out 1).trans rfl, (blk_cell BK227.out 2).trans rfl, (blk_cell BK227.out 3).trans rfl, (blk_cell BK227.out 4).trans rfl, (blk_cell BK227.out 5).trans rfl, (blk_cell BK227.out 6).trans rfl, (blk_cell BK227.out 7).trans rfl, (blk_cell BK227.out 8).trans rfl, (blk_cell BK237.out 0).trans rfl, (blk_cell BK237.out 1).trans rfl, (blk_cell BK237.out 2).trans rfl, (blk_cell BK237.out 3).trans rfl, (blk_cell BK237.out 4).trans rfl, (blk_cell BK226.out 0).trans rfl, (blk_cell BK226.out 1).trans rfl, (blk_cell BK226.out 2).trans rfl, (blk_cell BK226.out 3).trans rfl, (blk_cell BK226.out 4).trans rfl, (blk_cell BK226.out 5).trans rfl, (blk_cell BK226.out 6).trans rfl, (blk_cell BK226.out 7).trans rfl, (blk_cell BK226.out 8).trans rfl⟩ (fun hHeld => ?_)
             clear hK K
             refine norm_ (a' := ?_) ?_ ?_
             rotate_left
             ·show Act.put _ (some 69) _ = _
              simp only [Act.put, List.setIfInBounds_toArray, List.set_cons_zero, List.set_cons_succ, i64_w, i32_w]
              rfl
             refine pure_ (i := 1) (N := some 70) (v := ?_) (a' := ?_) #[true, true, false, false, false, false, false, false, false, false, false, false, false, false] rfl rfl (any_of HT_.out (by kernel_rfl)) (fun _ _ _ h => h) (Or.inl ⟨by rfl, ?_⟩) ?_ ?_
             rotate_left
             ·intro w'
              go_simp
              with_reducible rfl
             rotate_left
             ·simp only [Act.put, List.setIfInBounds_toArray, List.set_cons_zero, List.set_cons_succ, i64_w, i32_w]
              rfl
             refine take_ (i := 2) (N := some 71) (v := ?_) (a' := ?_) #[true, true, true, false, false, false, false, false, false, false, false, false, false, false] rfl rfl (take_ofW HT_.out HW_.out (by kernel_rfl)) (fun _ _ _ h => h) (Or.inl ⟨by rfl, ?_⟩) hHeld ?_ ?_
             rotate_left
             ·rintro w' ⟨s0, s1, s2, s3, s4, s5, s6, s7, s8, s9, s10, s11, s12, s13, s14, s15, s16, s17, s18, s19, s20, s21, s22⟩
              go_simp
              with_reducible rfl
             rotate_left
             ·simp only [Act.put, List.setIfInBounds_toArray, List.set_cons_zero, List.set_cons_succ, i64_w, i32_w]
              rfl
             refine take_ (i := 3) (N := some 72) (v := ?_) (a' := ?_) #[true, true, true, true, false, false, false, false, false, false, false, false, false, false] rfl rfl (take_ofW HT_.out HW_.out (by kernel_rfl)) (fun _ _ _ h => h) (Or.inl ⟨by rfl, ?_⟩) hHeld ?_ ?_
             rotate_left
             ·rintro w' ⟨s0, s1, s2, s3, s4, s5, s6, s7, s8, s9, s10, s11, s12, s13, s14, s15, s16, s17, s18, s19, s20, s21, s22⟩
              go_simp
              with_reducible rfl
             rotate_left
             ·simp only [Act.put, List.setIfInBounds_toArray, List.set_cons_zero, List.set_cons_succ, i64_w, i32_w]
              rfl
             refine one_ (i := 4) (N := some 73) #[true, true, true, true, true, false, false, false, false, false, false, false, false, false] rfl rfl (one_of HT_.out (by kernel_rfl)) (by decide) (fun K hK => ?_)
             refine goes_ Tryd.func47 (by kernel_rfl) rfl #[.agg #[.int .u32 a1_0, .int .i64 a1_1, .int .u32 a1_2, .int .i64 a1_3, .int .i64 a1_4, .int .u16 a1_5, .int .u16 a1_6, .int .u16 a1_7, .int .u16 a1_8], .agg #[.int .u32 t232, .int .u32 t233, .int .u8 t234, .int .u16 t235, .int .u16 t236]] (by rfl) rfl rfl (by (try simp only [List.map_toArray, List.map_cons, List.map_nil]); first | done | rfl | (simp only [List.length_drop, List.length_take]; rfl)) ?_
             with_reducible refine (crossbuckref04_Match.calls kj169 a1_0 a1_1 a1_2 a1_3 a1_4 a1_5 a1_6 a1_7 a1_8 t232 t233 t234 t235 t236 true _ A227.out).mono ?_
             rintro e w241 ⟨rfl, hb⟩
             refine ⟨_, rfl, ?_⟩
             have n0_ := Aside0.mk (bb BK226.out hb)
             have n1_ := Aside0.mk (bb BK227.out hb)
             have n2_ := Aside0.mk (bb BK228.out hb)
             have n3_ := Aside0.mk (bb BK237.out hb)
             have n4_ := Aside0.mk (below_step (by repeat (first | (with_reducible first | exact HB.out | apply below_alloc | apply pw_below_drewN | apply below_drew1 | refine below_set ?_ GE226.out | refine below_set ?_ GE227.out | refine below_set ?_ GE228.out | refine below_set ?_ GE237.out) | exact HB.out)) hb)
             clear BK226
             clear BK227
             clear BK228
             clear BK237
             clear HB
             have BK226 := n0_
             have BK227 := n1_
             have BK228 := n2_
             have BK237 := n3_
             have HB := n4_
             clear n0_ n1_ n2_ n3_ n4_
             (try clear hb)
             (try clear hb2)
             (try clear hk)
             (try clear hi)
             refine hK.out _ _ ⟨(blk_cell BK227.out 0).trans rfl, (blk_cell BK227.out 1).trans rfl, (blk_cell BK227.out 2).trans rfl, (blk_cell BK227.out 3).trans rfl, (blk_cell BK227.out 4).trans rfl, (blk_cell BK227.out 5).trans rfl, (blk_cell BK227.out 6).trans rfl, (blk_cell BK227.out 7).trans rfl, (blk_cell BK227.out 8).trans rfl, (blk_cell BK237.out 0).trans rfl, (blk_cell BK237.out 1).trans rfl, (blk_cell BK237.out 2).trans rfl, (blk_cell BK237.out 3).trans rfl, (blk_cell BK237.out 4).trans rfl, (blk_cell BK226.out 0).trans rfl, (blk_cell BK226.out 1).trans rfl, (blk_cell BK226.out 2).trans rfl, (blk_cell BK226.out 3).trans rfl, (blk_cell BK226.out 4).trans rfl, (blk_cell BK226.out 5).trans rfl, (blk_cell BK226.out 6).trans rfl, (blk_cell BK226.out 7).trans rfl, (blk_cell BK226.out 8).trans rfl⟩ (fun hHeld => ?_)
             clear hK K
             refine norm_ (a' := ?_) ?_ ?_
             rotate_left
             ·show Act.put _ (some 73) _ = _
              simp only [Act.put, List.setIfInBounds_toArray, List.set_cons_zero, List.set_cons_succ, i64_w, i32_w]
              rfl
             refine pure_ (i := 5) (N := some 74) (v := ?_) (a' := ?_) #[true, true, true, true, true, true, false, false, false, false, false, false, false, false] rfl rfl (any_of HT_.out (by kernel_rfl)) (fun _ _ _ h => h) (Or.inl ⟨by rfl, ?_⟩) ?_ ?_
             rotate_left
             ·intro w'
              go_simp
              with_reducible rfl
             rotate_left
             ·simp only [Act.put, List.setIfInBounds_toArray, List.set_cons_zero, List.set_cons_succ, i64_w, i32_w]
              rfl
             refine take_ (i := 6) (N := some 75) (v := ?_) (a' := ?_) #[true, true, true, true, true, true, true, false, false, false, false, false, false, false] rfl rfl (take_ofW HT_.out HW_.out (by kernel_rfl)) (fun _ _ _ h => h) (Or.inl ⟨by rfl, ?_⟩) hHeld ?_ ?_
             rotate_left
             ·rintro w' ⟨s0, s1, s2, s3, s4, s5, s6, s7, s8, s9, s10, s11, s12, s13, s14, s15, s16, s17, s18, s19, s20, s21, s22⟩
              go_simp
              with_reducible rfl
             rotate_left
             ·simp only [Act.put, List.setIfInBounds_toArray, List.set_cons_zero, List.set_cons_succ, i64_w, i32_w]
              rfl
             refine take_ (i := 7) (N := some 76) (v := ?_) (a' := ?_) #[true, true, true, true, true, true, true, true, false, false, false, false, false, false] rfl rfl (take_ofW HT_.out HW_.out (by kernel_rfl)) (fun _ _ _ h => h) (Or.inl ⟨by rfl, ?_⟩) hHeld ?_ ?_
             rotate_left
             ·rintro w' ⟨s0, s1, s2, s3, s4, s5, s6, s7, s8, s9, s10, s11, s12, s13, s14, s15, s16, s17, s18, s19, s20, s21, s22⟩
              go_simp
              with_reducible rfl
             rotate_left
             ·simp only [Act.put, List.setIfInBounds_toArray, List.set_cons_zero, List.set_cons_succ, i64_w, i32_w]
              rfl
             refine one_ (i := 8) (N := some 77) #[true, true, true, true, true, true, true, true, true, false, false, false, false, false] rfl rfl (one_of HT_.out (by kernel_rfl)) (by decide) (fun K hK => ?_)
             refine goes_ Tryd.func49 (by kernel_rfl) rfl #[.agg #[.int .u32 a1_0, .int .i64 a1_1, .int .u32 a1_2, .int .i64 a1_3, .int .i64 a1_4, .int .u16 a1_5, .int .u16 a1_6, .int .u16 a1_7, .int .u16 a1_8]] (by rfl) rfl rfl (by (try simp only [List.map_toArray, List.map_cons, List.map_nil]); first | done | rfl | (simp only [List.length_drop, List.length_take]; rfl)) ?_
             with_reducible refine (filter_Some.calls a1_0 a1_1 a1_2 a1_3 a1_4 a1_5 a1_6 a1_7 a1_8 t253 t254 t255 t256 t257 _ A229.out).mono ?_
             rintro e w242 ⟨rfl, hb⟩
             refine ⟨_, rfl, ?_⟩
             have n0_ := Aside0.mk (bb BK226.out hb)
             have n1_ := Aside0.mk (bb BK227.out hb)
             have n2_ := Aside0.mk (bb BK228.out hb)
             have n3_ := Aside0.mk (bb BK237.out hb)
             have n4_ := Aside0.mk (below_step (by repeat (first | (with_reducible first | exact HB.out | apply below_alloc | apply pw_below_drewN | apply below_drew1 | refine below_set ?_ GE226.out | refine below_set ?_ GE227.out | refine below_set ?_ GE228.out | refine below_set ?_ GE237.out) | exact HB.out)) hb)
             clear BK226
             clear BK227
             clear BK228
             clear BK237
             clear HB
             have BK226 := n0_
             have BK227 := n1_
             have BK228 := n2_
             have BK237 := n3_
             have HB := n4_
             clear n0_ n1_ n2_ n3_ n4_
             (try clear hb)
             (try clear hb2)
             (try clear hk)
             (try clear hi)
             refine hK.out _ _ ⟨(blk_cell BK227.out 0).trans rfl, (blk_cell BK227.out 1).trans rfl, (blk_cell BK227.out 2).trans rfl, (blk_cell BK227.out 3).trans rfl, (blk_cell BK227.out 4).trans rfl, (blk_cell BK227.out 5).trans rfl, (blk_cell BK227.out 6).trans rfl, (blk_cell BK227.out 7).trans rfl, (blk_cell BK227.out 8).trans rfl, (blk_cell BK237.out 0).trans rfl, (blk_cell BK237.out 1).trans rfl, (blk_cell BK237.out 2).trans rfl, (blk_cell BK237.out 3).trans rfl, (blk_cell BK237.out 4).trans rfl, (blk_cell BK226.out 0).trans rfl, (blk_cell BK226.out 1).trans rfl, (blk_cell BK226.out 2).trans rfl, (blk_cell BK226.out 3).trans rfl, (blk_cell BK226.out 4).trans rfl, (blk_cell BK226.out 5).trans rfl, (blk_cell BK226.out 6).trans rfl, (blk_cell BK226.out 7).trans rfl, (blk_cell BK226.out 8).trans rfl⟩ (fun hHeld => ?_)
             clear hK K
             refine norm_ (a' := ?_) ?_ ?_
             rotate_left
             ·show Act.put _ (some 77) _ = _
              simp only [Act.put, List.setIfInBounds_toArray, List.set_cons_zero, List.set_cons_succ, i64_w, i32_w]
              rfl
             refine one_ (i := 9) (N := some 78) #[true, true, true, true, true, true, true, true, true, true, false, false, false, false] rfl rfl (one_of HT_.out (by kernel_rfl)) (by decide) (fun K hK => ?_)
             refine goes_ Tryd.func47 (by kernel_rfl) rfl #[.agg #[.int .u32 a0_0, .int .i64 a0_1, .int .u32 a0_2, .int .i64 a0_3, .int .i64 a0_4, .int .u16 a0_5, .int .u16 a0_6, .int .u16 a0_7, .int .u16 a0_8], .agg #[.int .u32 t253, .int .u32 t254, .int .u8 t255, .int .u16 t256, .int .u16 t257]] (by rfl) rfl rfl (by (try simp only [List.map_toArray, List.map_cons, List.map_nil]); first | done | rfl | (simp only [List.length_drop, List.length_take]; rfl)) ?_
             with_reducible refine (crossbuckref04_Match.calls kj169 a0_0 a0_1 a0_2 a0_3 a0_4 a0_5 a0_6 a0_7 a0_8 t253 t254 t255 t256 t257 t258 _ A230.out).mono ?_
             rintro e w243 ⟨rfl, hb⟩
             refine ⟨_, rfl, ?_⟩
             have n0_ := Aside0.mk (bb BK226.out hb)
             have n1_ := Aside0.mk (bb BK227.out hb)
             have n2_ := Aside0.mk (bb BK228.out hb)
             have n3_ := Aside0.mk (bb BK237.out hb)
             have n4_ := Aside0.mk (below_step (by repeat (first | (with_reducible first | exact HB.out | apply below_alloc | apply pw_below_drewN | apply below_drew1 | refine below_set ?_ GE226.out | refine below_set ?_ GE227.out | refine below_set ?_ GE228.out | refine below_set ?_ GE237.out) | exact HB.out)) hb)
             clear BK226
             clear BK227
             clear BK228
             clear BK237
             clear HB
             have BK226 := n0_
             have BK227 := n1_
             have BK228 := n2_
             have BK237 := n3_
             have HB := n4_
             clear n0_ n1_ n2_ n3_ n4_
             (try clear hb)
             (try clear hb2)
             (try clear hk)
             (try clear hi)
             refine hK.out _ _ ⟨(blk_cell BK227.out 0).trans rfl, (blk_cell BK227.out 1).trans rfl, (blk_cell BK227.out 2).trans rfl, (blk_cell BK227.out 3).trans rfl, (blk_cell BK227.out 4).trans rfl, (blk_cell BK227.out 5).trans rfl, (blk_cell BK227.out 6).trans rfl, (blk_cell BK227.out 7).trans rfl, (blk_cell BK227.out 8).trans rfl, (blk_cell BK237.out 0).trans rfl, (blk_cell BK237.out 1).trans rfl, (blk_cell BK237.out 2).trans rfl, (blk_cell BK237.out 3).trans rfl, (blk_cell BK237.out 4).trans rfl, (blk_cell BK226.out 0).trans rfl, (blk_cell BK226.out 1).trans rfl, (blk_cell BK226.out 2).trans rfl, (blk_cell BK226.out 3).trans rfl, (blk_cell BK226.out 4).trans rfl, (blk_cell BK226.out 5).trans rfl, (blk_cell BK226.out 6).trans rfl, (blk_cell BK226.out 7).trans rfl, (blk_cell BK226.out 8).trans rfl⟩ (fun hHeld => ?_)
             clear hK K
             refine norm_ (a' := ?_) ?_ ?_
             rotate_left
             ·show Act.put _ (some 78) _ = _
              simp only [Act.put, List.setIfInBounds_toArray, List.set_cons_zero, List.set_cons_succ, i64_w, i32_w]
              rfl
             refine pure_ (i := 10) (N := some 79) (v := ?_) (a' := ?_) #[true, true, true, true, true, true, true, true, true, true, true, false, false, false] rfl rfl (any_of HT_.out (by kernel_rfl)) (fun _ _ _ h => h) (Or.inl ⟨by rfl, ?_⟩) ?_ ?_
             rotate_left
             ·intro w'
              go_simp
              with_reducible rfl
             rotate_left
             ·simp only [Act.put, List.setIfInBounds_toArray, List.set_cons_zero, List.set_cons_succ, i64_w, i32_w]
              rfl
             refine pure_ (i := 11) (N := some 80) (v := ?_) (a' := ?_) #[true, true, true, true, true, true, true, true, true, true, true, true, false, false] rfl rfl (any_of HT_.out (by kernel_rfl)) (fun _ _ _ h => h) (Or.inl ⟨by rfl, ?_⟩) ?_ ?_
             rotate_left
             ·intro w'
              go_simp
              with_reducible rfl
             rotate_left
             ·simp only [Act.put, List.setIfInBounds_toArray, List.set_cons_zero, List.set_cons_succ, i64_w, i32_w]
              rfl
             refine pure_ (i := 12) (N := some 81) (v := ?_) (a' := ?_) #[true, true, true, true, true, true, true, true, true, true, true, true, true, false] rfl rfl (any_of HT_.out (by kernel_rfl)) (fun _ _ _ h => h) (Or.inl ⟨by rfl, ?_⟩) ?_ ?_
             rotate_left
             ·intro w'
              go_simp
              with_reducible rfl
             rotate_left
             ·simp only [Act.put, List.setIfInBounds_toArray, List.set_cons_zero, List.set_cons_succ, i64_w, i32_w]
              rfl
             refine pure_ (i := 13) (N := some 6) (v := ?_) (a' := ?_) #[true, true, true, true, true, true, true, true, true, true, true, true, true, true] rfl rfl (any_of HT_.out (by kernel_rfl)) (fun _ _ _ h => h) (Or.inl ⟨by rfl, ?_⟩) ?_ ?_
             rotate_left
             ·intro w'
              go_simp
              with_reducible rfl
             rotate_left
             ·simp only [Act.put, List.setIfInBounds_toArray, List.set_cons_zero, List.set_cons_succ, i64_w, i32_w]
              rfl
             refine done_ (done_of HT_.out (by kernel_rfl)) ?_
             try go_wp2
             go_ret
             exact ⟨by first | rfl | (simp [errW_none, errW_some] <;> rfl) | (simp [*, errW_none, errW_some] <;> rfl), by repeat (first | (with_reducible first | exact HB.out | apply below_alloc | apply pw_below_drewN | apply below_drew1 | refine below_set ?_ GE226.out | refine below_set ?_ GE227.out | refine below_set ?_ GE228.out | refine below_set ?_ GE237.out) | exact HB.out)⟩
            ·replace c228 := Bool.eq_false_iff.mpr c228
             subst c228
             have H1 : (some (!false)) = some r := by rw [if_neg (show ¬ (false = true) by decide)] at H; exact H
             clear H
             have H := H1
             clear H1
             obtain rfl := Option.some.inj H
             have hnb244 := NB226_227.out
             have hnc244 := NB227_226.out
             have hnb245 := NB226_228.out
             have hnc245 := NB228_226.out
             have hnb246 := NB226_237.out
             have hnc246 := NB237_226.out
             have hcz247 := cz9 BK226.out
             have hnb248 := NB227_228.out
             have hnc248 := NB228_227.out
             have hnb249 := NB227_237.out
             have hnc249 := NB237_227.out
             have hcz250 := cz9 BK227.out
             try go_wp2_with (first | ((with_reducible refine gate_callee (f := 48) rfl ?_); refine goesL_ (some 67) rfl rfl Tryd.func48 (by kernel_rfl) rfl #[.agg #[.int .u32 a0_0, .int .i64 a0_1, .int .u32 a0_2, .int .i64 a0_3, .int .i64 a0_4, .int .u16 a0_5, .int .u16 a0_6, .int .u16 a0_7, .int .u16 a0_8], .agg #[.int .u32 a1_0, .int .i64 a1_1, .int .u32 a1_2, .int .i64 a1_3, .int .i64 a1_4, .int .u16 a1_5, .int .u16 a1_6, .int .u16 a1_7, .int .u16 a1_8]] rfl (by (try simp only [List.map_toArray, List.map_cons, List.map_nil]); first | done | rfl | (simp only [List.length_drop, List.length_take]; rfl)) ?_; (with_reducible refine (filter_Meet.calls kj169 a0_0 a0_1 a0_2 a0_3 a0_4 a0_5 a0_6 a0_7 a0_8 a1_0 a1_1 a1_2 a1_3 a1_4 a1_5 a1_6 a1_7 a1_8 false _ A180.out).mono ?_); rintro e w251 ⟨rfl, hb⟩; refine ⟨_, rfl, ?_⟩; have n0_ := Aside0.mk (bb BK226.out hb); have n1_ := Aside0.mk (bb BK227.out hb); have n2_ := Aside0.mk (bb BK228.out hb); have n3_ := Aside0.mk (bb BK237.out hb); have n4_ := Aside0.mk (below_step (by repeat (first | (with_reducible first | exact HB.out | apply below_alloc | apply pw_below_drewN | apply below_drew1 | refine below_set ?_ GE226.out | refine below_set ?_ GE227.out | refine below_set ?_ GE228.out | refine below_set ?_ GE237.out) | exact HB.out)) hb); clear BK226; clear BK227; clear BK228; clear BK237; clear HB; have BK226 := n0_; have BK227 := n1_; have BK228 := n2_; have BK237 := n3_; have HB := n4_; clear n0_ n1_ n2_ n3_ n4_; (try clear hb); (try clear hb2); (try clear hk); (try clear hi)))
             have n0_ := Aside0.mk (blk_drew BK226.out)
             have n1_ := Aside0.mk (blk_drew BK227.out)
             have n2_ := Aside0.mk (blk_drew BK228.out)
             have n3_ := Aside0.mk (blk_drew BK237.out)
             have n4_ := Aside0.mk (below_drew1 HB.out)
             clear BK226
             clear BK227
             clear BK228
             clear BK237
             clear HB
             have BK226 := n0_
             have BK227 := n1_
             have BK228 := n2_
             have BK237 := n3_
             have HB := n4_
             clear n0_ n1_ n2_ n3_ n4_
             refine start_ (n := 14) (S := fun w' => w'.cell? ⟨gb227, 0, none⟩ = some (.int .u32 a1_0) ∧ w'.cell? ⟨gb227, 1, none⟩ = some (.int .i64 a1_1) ∧ w'.cell? ⟨gb227, 2, none⟩ = some (.int .u32 a1_2) ∧ w'.cell? ⟨gb227, 3, none⟩ = some (.int .i64 a1_3) ∧ w'.cell? ⟨gb227, 4, none⟩ = some (.int .i64 a1_4) ∧ w'.cell? ⟨gb227, 5, none⟩ = some (.int .u16 a1_5) ∧ w'.cell? ⟨gb227, 6, none⟩ = some (.int .u16 a1_6) ∧ w'.cell? ⟨gb227, 7, none⟩ = some (.int .u16 a1_7) ∧ w'.cell? ⟨gb227, 8, none⟩ = some (.int .u16 a1_8) ∧ w'.cell? ⟨gb237, 0, none⟩ = some (.int .u32 t232) ∧ w'.cell? ⟨gb237, 1, none⟩ = some (.int .u32 t233) ∧ w'.cell? ⟨gb237, 2, none⟩ = some (.int .u8 t234) ∧ w'.cell? ⟨gb237, 3, none⟩ = some (.int .u16 t235) ∧ w'.cell? ⟨gb237, 4, none⟩ = some (.int .u16 t236)) (ds := []) #[false, false, false, false, false, false, false, false, false, false, false, false, false, false] (by kernel_rfl) rfl rfl ⟨(blk_cell BK227.out 0).trans rfl, (blk_cell BK227.out 1).trans rfl, (blk_cell BK227.out 2).trans rfl, (blk_cell BK227.out 3).trans rfl, (blk_cell BK227.out 4).trans rfl, (blk_cell BK227.out 5).trans rfl, (blk_cell BK227.out 6).trans rfl, (blk_cell BK227.out 7).trans rfl, (blk_cell BK227.out 8).trans rfl, (blk_cell BK237.out 0).trans rfl, (blk_cell BK237.out 1).trans rfl, (blk_cell BK237.out 2).trans rfl, (blk_cell BK237.out 3).trans rfl, (blk_cell BK237.out 4).trans rfl⟩ (fun hHeld => ?_); refine with_tabW crossbucklaw04_FilterMeets.tab9 crossbucklaw04_FilterMeets.bits9 (fun HT_ HW_ => ?_)
             generalize w251.drew = w252 at BK226 BK227 BK228 BK237 HB hHeld ⊢
             refine one_ (i := 0) (N := some 69) #[true, false, false, false, false, false, false, false, false, false, false, false, false, false] rfl rfl (one_of HT_.out (by kernel_rfl)) (by decide) (fun K hK => ?_)
             refine goes_ Tryd.func46 (by kernel_rfl) rfl #[] (by rfl) rfl rfl (by (try simp only [List.map_toArray, List.map_cons, List.map_nil]); first | done | rfl | (simp only [List.length_drop, List.length_take]; rfl)) ?_
             with_reducible refine (crossbucklaw04_awake.calls kj169  true _ (Hand.Good.below true false hGG.out (by repeat (first | (with_reducible first | exact HB.out | apply below_alloc | apply pw_below_drewN | apply below_drew1 | refine below_set ?_ GE226.out | refine below_set ?_ GE227.out | refine below_set ?_ GE228.out | refine below_set ?_ GE237.out) | exact HB.out)) rfl rfl) A225.out).mono ?_
             rintro e w253 ⟨rfl, hb⟩
             refine ⟨_, rfl, ?_⟩
             have n0_ := Aside0.mk (bb BK226.out hb)
             have n1_ := Aside0.mk (bb BK227.out hb)
             have n2_ := Aside0.mk (bb BK228.out hb)
             have n3_ := Aside0.mk (bb BK237.out hb)
             have n4_ := Aside0.mk (below_step (by repeat (first | (with_reducible first | exact HB.out | apply below_alloc | apply pw_below_drewN | apply below_drew1 | refine below_set ?_ GE226.out | refine below_set ?_ GE227.out | refine below_set ?_ GE228.out | refine below_set ?_ GE237.out) | exact HB.out)) hb)
             clear BK226
             clear BK227
             clear BK228
             clear BK237
             clear HB
             have BK226 := n0_
             have BK227 := n1_
             have BK228 := n2_
             have BK237 := n3_
             have HB := n4_
             clear n0_ n1_ n2_ n3_ n4_
             (try clear hb)
             (try clear hb2)
             (try clear hk)
             (try clear hi)
             refine hK.out _ _ ⟨(blk_cell BK227.out 0).trans rfl, (blk_cell BK227.out 1).trans rfl, (blk_cell BK227.out 2).trans rfl, (blk_cell BK227.out 3).trans rfl, (blk_cell BK227.out 4).trans rfl, (blk_cell BK227.out 5).trans rfl, (blk_cell BK227.out 6).trans rfl, (blk_cell BK227.out 7).trans rfl, (blk_cell BK227.out 8).trans rfl, (blk_cell BK237.out 0).trans rfl, (blk_cell BK237.out 1).trans rfl, (blk_cell BK237.out 2).trans rfl, (blk_cell BK237.out 3).trans rfl, (blk_cell BK237.out 4).trans rfl⟩ (fun hHeld => ?_)
             clear hK K
             refine norm_ (a' := ?_) ?_ ?_
             rotate_left
             ·show Act.put _ (some 69) _ = _
              simp only [Act.put, List.setIfInBounds_toArray, List.set_cons_zero, List.set_cons_succ, i64_w, i32_w]
              rfl
             refine pure_ (i := 1) (N := some 70) (v := ?_) (a' := ?_) #[true, true, false, false, false, false, false, false, false, false, false, false, false, false] rfl rfl (any_of HT_.out (by kernel_rfl)) (fun _ _ _ h => h) (Or.inl ⟨by rfl, ?_⟩) ?_ ?_
             rotate_left
             ·intro w'
              go_simp
              with_reducible rfl
             rotate_left
             ·simp only [Act.put, List.setIfInBounds_toArray, List.set_cons_zero, List.set_cons_succ, i64_w, i32_w]
              rfl
             refine take_ (i := 2) (N := some 71) (v := ?_) (a' := ?_) #[true, true, true, false, false, false, false, false, false, false, false, false, false, false] rfl rfl (take_ofW HT_.out HW_.out (by kernel_rfl)) (fun _ _ _ h => h) (Or.inl ⟨by rfl, ?_⟩) hHeld ?_ ?_
             rotate_left
             ·rintro w' ⟨s0, s1, s2, s3, s4, s5, s6, s7, s8, s9, s10, s11, s12, s13⟩
              go_simp
              with_reducible rfl
             rotate_left
             ·simp only [Act.put, List.setIfInBounds_toArray, List.set_cons_zero, List.set_cons_succ, i64_w, i32_w]
              rfl
             refine take_ (i := 3) (N := some 72) (v := ?_) (a' := ?_) #[true, true, true, true, false, false, false, false, false, false, false, false, false, false] rfl rfl (take_ofW HT_.out HW_.out (by kernel_rfl)) (fun _ _ _ h => h) (Or.inl ⟨by rfl, ?_⟩) hHeld ?_ ?_
             rotate_left
             ·rintro w' ⟨s0, s1, s2, s3, s4, s5, s6, s7, s8, s9, s10, s11, s12, s13⟩
              go_simp
              with_reducible rfl
             rotate_left
             ·simp only [Act.put, List.setIfInBounds_toArray, List.set_cons_zero, List.set_cons_succ, i64_w, i32_w]
              rfl
             refine one_ (i := 4) (N := some 73) #[true, true, true, true, true, false, false, false, false, false, false, false, false, false] rfl rfl (one_of HT_.out (by kernel_rfl)) (by decide) (fun K hK => ?_)
             refine goes_ Tryd.func47 (by kernel_rfl) rfl #[.agg #[.int .u32 a1_0, .int .i64 a1_1, .int .u32 a1_2, .int .i64 a1_3, .int .i64 a1_4, .int .u16 a1_5, .int .u16 a1_6, .int .u16 a1_7, .int .u16 a1_8], .agg #[.int .u32 t232, .int .u32 t233, .int .u8 t234, .int .u16 t235, .int .u16 t236]] (by rfl) rfl rfl (by (try simp only [List.map_toArray, List.map_cons, List.map_nil]); first | done | rfl | (simp only [List.length_drop, List.length_take]; rfl)) ?_
             with_reducible refine (crossbuckref04_Match.calls kj169 a1_0 a1_1 a1_2 a1_3 a1_4 a1_5 a1_6 a1_7 a1_8 t232 t233 t234 t235 t236 false _ A227.out).mono ?_
             rintro e w254 ⟨rfl, hb⟩
             refine ⟨_, rfl, ?_⟩
             have n0_ := Aside0.mk (bb BK226.out hb)
             have n1_ := Aside0.mk (bb BK227.out hb)
             have n2_ := Aside0.mk (bb BK228.out hb)
             have n3_ := Aside0.mk (bb BK237.out hb)
             have n4_ := Aside0.mk (below_step (by repeat (first | (with_reducible first | exact HB.out | apply below_alloc | apply pw_below_drewN | apply below_drew1 | refine below_set ?_ GE226.out | refine below_set ?_ GE227.out | refine below_set ?_ GE228.out | refine below_set ?_ GE237.out) | exact HB.out)) hb)
             clear BK226
             clear BK227
             clear BK228
             clear BK237
             clear HB
             have BK226 := n0_
             have BK227 := n1_
             have BK228 := n2_
             have BK237 := n3_
             have HB := n4_
             clear n0_ n1_ n2_ n3_ n4_
             (try clear hb)
             (try clear hb2)
             (try clear hk)
             (try clear hi)
             refine hK.out _ _ ⟨(blk_cell BK227.out 0).trans rfl, (blk_cell BK227.out 1).trans rfl, (blk_cell BK227.out 2).trans rfl, (blk_cell BK227.out 3).trans rfl, (blk_cell BK227.out 4).trans rfl, (blk_cell BK227.out 5).trans rfl, (blk_cell BK227.out 6).trans rfl, (blk_cell BK227.out 7).trans rfl, (blk_cell BK227.out 8).trans rfl, (blk_cell BK237.out 0).trans rfl, (blk_cell BK237.out 1).trans rfl, (blk_cell BK237.out 2).trans rfl, (blk_cell BK237.out 3).trans rfl, (blk_cell BK237.out 4).trans rfl⟩ (fun hHeld => ?_)
             clear hK K
             refine norm_ (a' := ?_) ?_ ?_
             rotate_left
             ·show Act.put _ (some 73) _ = _
              simp only [Act.put, List.setIfInBounds_toArray, List.set_cons_zero, List.set_cons_succ, i64_w, i32_w]
              rfl
             refine pure_ (i := 5) (N := some 74) (v := ?_) (a' := ?_) #[true, true, true, true, true, true, false, false, false, false, false, false, false, false] rfl rfl (any_of HT_.out (by kernel_rfl)) (fun _ _ _ h => h) (Or.inl ⟨by rfl, ?_⟩) ?_ ?_
             rotate_left
             ·intro w'
              go_simp
              with_reducible rfl
             rotate_left
             ·simp only [Act.put, List.setIfInBounds_toArray, List.set_cons_zero, List.set_cons_succ, i64_w, i32_w]
              rfl
             refine pure_ (i := 6) (N := some 75) (v := undef) (a' := ?_) #[true, true, true, true, true, true, true, false, false, false, false, false, false, false] rfl rfl (any_of HT_.out (by kernel_rfl)) (fun _ _ _ h => h) (Or.inr ⟨by rfl, rfl⟩) ?_ ?_
             rotate_left
             ·simp only [Act.put, List.setIfInBounds_toArray, List.set_cons_zero, List.set_cons_succ, i64_w, i32_w]
              rfl
             refine pure_ (i := 7) (N := some 76) (v := undef) (a' := ?_) #[true, true, true, true, true, true, true, true, false, false, false, false, false, false] rfl rfl (any_of HT_.out (by kernel_rfl)) (fun _ _ _ h => h) (Or.inr ⟨by rfl, rfl⟩) ?_ ?_
             rotate_left
             ·simp only [Act.put, List.setIfInBounds_toArray, List.set_cons_zero, List.set_cons_succ, i64_w, i32_w]
              rfl
             refine pure_ (i := 8) (N := some 77) (v := undef) (a' := ?_) #[true, true, true, true, true, true, true, true, true, false, false, false, false, false] rfl rfl (any_of HT_.out (by kernel_rfl)) (fun _ _ _ h => h) (Or.inr ⟨by rfl, rfl⟩) ?_ ?_
             rotate_left
             ·simp only [Act.put, List.setIfInBounds_toArray, List.set_cons_zero, List.set_cons_succ, i64_w, i32_w]
              rfl
             refine pure_ (i := 9) (N := some 78) (v := undef) (a' := ?_) #[true, true, true, true, true, true, true, true, true, true, false, false, false, false] rfl rfl (any_of HT_.out (by kernel_rfl)) (fun _ _ _ h => h) (Or.inr ⟨by rfl, rfl⟩) ?_ ?_
             rotate_left
             ·simp only [Act.put, List.setIfInBounds_toArray, List.set_cons_zero, List.set_cons_succ, i64_w, i32_w]
              rfl
             refine pure_ (i := 10) (N := some 79) (v := ?_) (a' := ?_) #[true, true, true, true, true, true, true, true, true, true, true, false, false, false] rfl rfl (any_of HT_.out (by kernel_rfl)) (fun _ _ _ h => h) (Or.inl ⟨by rfl, ?_⟩) ?_ ?_
             rotate_left
             ·intro w'
              go_simp
              with_reducible rfl
             rotate_left
             ·simp only [Act.put, List.setIfInBounds_toArray, List.set_cons_zero, List.set_cons_succ, i64_w, i32_w]
              rfl
             refine pure_ (i := 11) (N := some 80) (v := ?_) (a' := ?_) #[true, true, true, true, true, true, true, true, true, true, true, true, false, false] rfl rfl (any_of HT_.out (by kernel_rfl)) (fun _ _ _ h => h) (Or.inl ⟨by rfl, ?_⟩) ?_ ?_
             rotate_left
             ·intro w'
              go_simp
              with_reducible rfl
             rotate_left
             ·simp only [Act.put, List.setIfInBounds_toArray, List.set_cons_zero, List.set_cons_succ, i64_w, i32_w]
              rfl
             refine pure_ (i := 12) (N := some 81) (v := ?_) (a' := ?_) #[true, true, true, true, true, true, true, true, true, true, true, true, true, false] rfl rfl (any_of HT_.out (by kernel_rfl)) (fun _ _ _ h => h) (Or.inl ⟨by rfl, ?_⟩) ?_ ?_
             rotate_left
             ·intro w'
              go_simp
              with_reducible rfl
             rotate_left
             ·simp only [Act.put, List.setIfInBounds_toArray, List.set_cons_zero, List.set_cons_succ, i64_w, i32_w]
              rfl
             refine pure_ (i := 13) (N := some 6) (v := ?_) (a' := ?_) #[true, true, true, true, true, true, true, true, true, true, true, true, true, true] rfl rfl (any_of HT_.out (by kernel_rfl)) (fun _ _ _ h => h) (Or.inl ⟨by rfl, ?_⟩) ?_ ?_
             rotate_left
             ·intro w'
              go_simp
              with_reducible rfl
             rotate_left
             ·simp only [Act.put, List.setIfInBounds_toArray, List.set_cons_zero, List.set_cons_succ, i64_w, i32_w]
              rfl
             refine done_ (done_of HT_.out (by kernel_rfl)) ?_
             try go_wp2
             go_ret
             exact ⟨by first | rfl | (simp [errW_none, errW_some] <;> rfl) | (simp [*, errW_none, errW_some] <;> rfl), by repeat (first | (with_reducible first | exact HB.out | apply below_alloc | apply pw_below_drewN | apply below_drew1 | refine below_set ?_ GE226.out | refine below_set ?_ GE227.out | refine below_set ?_ GE228.out | refine below_set ?_ GE237.out) | exact HB.out)⟩
           ·replace c226 := Bool.eq_false_iff.mpr c226
            subst c226
            have H1 : (some false) = some r := by rw [if_neg (show ¬ (false = true) by decide)] at H; exact H
            clear H
            have H := H1
            clear H1
            exact absurd ((Option.some.inj H).trans hT.out) (by decide)

end Go.Proofs.YtloclimoffhbhaaDoor.PFy
