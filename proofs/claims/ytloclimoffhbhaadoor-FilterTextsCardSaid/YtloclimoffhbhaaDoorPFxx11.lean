-- Written by wip/myprint.py and wip/merge.py (this session's own programs); Lean checks it.
-- halved
import Derived.Test.YtloclimoffhbhaaDoorPFxx0
import Derived.Test.YtloclimoffhbhaaDoorPFxx3
import Derived.Test.YtloclimoffhbhaaDoorPFxx6
import Derived.Test.YtloclimoffhbhaaDoorPFxx8
import Derived.Test.YtloclimoffhbhaaDoorPFxx9
import Derived.Test.YtloclimoffhbhaaDoorPFxx10
namespace Go.Proofs.YtloclimoffhbhaaDoor.PFx
open Go.RowKit Go.Proofs.YtloclimoffhbhaaDoorW.PrintWords Go.Proofs.YtloclimoffhbhaaDoorW.PrintLast Go.Proofs.YtloclimoffhbhaaDoorW.PrintMore
attribute [local go_sem] max2_int min2_int max_two min_two max_three min_three max_four min_four   -- for this text's walks alone
set_option linter.unusedVariables false
set_option linter.unusedSimpArgs false

attribute [local go_sem high] eqA77
/-! ### crossbucklaw04_FilterTexts: function 15 -/
def crossbucklaw04_FilterTexts.j0 : Nat → Bool → Int → Int → Int → Int → Int → Int → Int → Int → Int → Option (Bool)
 | 0, _, _, _, _, _, _, _, _, _, _ => none
 | k + 1, x43, x447000, x447001, x447002, x447003, x447004, x447005, x447006, x447007, x447008 => if x43 = true then (some false) else ((crossbuckref04_Check.f k x447000 x447001 x447002 x447003 x447004 x447005 x447006 x447007 x447008).bind fun t471 => (if t471 = 0 then ((filter_Print.f k x447000 x447001 x447002 x447003 x447004 x447005 x447006 x447007 x447008).bind fun t473 => ((filter_Parse.f k t473).bind fun bt474 => ((crossbucklaw04_awake.f k).bind fun t485 => (if t485 = true then ((crossbuckref04_Print.f k x447000 x447001 x447002 x447003 x447004 x447005 x447006 x447007 x447008).bind fun t486 => (if t473.toList = t486.toList then (if bt474.2.2.2.2.2.2.2.2.2 = 0 then (some ((bt474.1 == x447000 && (bt474.2.1 == x447001)) && ((bt474.2.2.1 == x447002 && (bt474.2.2.2.1 == x447003)) && (bt474.2.2.2.2.1 == x447004 && ((bt474.2.2.2.2.2.1 == x447005 && (bt474.2.2.2.2.2.2.1 == x447006)) && ((bt474.2.2.2.2.2.2.2.1 == x447007 && (bt474.2.2.2.2.2.2.2.2.1 == x447008)))))))) else (some false)) else (some false))) else (some false))))) else ((crossbucklaw04_awake.f k).bind fun t472 => (some t472))))
def crossbucklaw04_FilterTexts.f (k : Nat) (a0_0 : Int) (a0_1 : Int) (a0_2 : Int) (a0_3 : Int) (a0_4 : Int) (a0_5 : Int) (a0_6 : Int) (a0_7 : Int) (a0_8 : Int) (a1 : ByteArray) : Option (Bool) := if (a1.size : Int) > 300 then ((crossbucklaw04_awake.f k).bind fun t447 => (some t447)) else ((filter_Parse.f k a1).bind fun bt448 => ((crossbuckref04_Parse.f k a1).bind fun bt459 => (if bt448.2.2.2.2.2.2.2.2.2 = bt459.2.2.2.2.2.2.2.2.2 then (if ((!(bt448.1 == bt459.1) || (!(bt448.2.1 == bt459.2.1))) || ((!(bt448.2.2.1 == bt459.2.2.1) || (!(bt448.2.2.2.1 == bt459.2.2.2.1))) || (!(bt448.2.2.2.2.1 == bt459.2.2.2.2.1) || ((!(bt448.2.2.2.2.2.1 == bt459.2.2.2.2.2.1) || (!(bt448.2.2.2.2.2.2.1 == bt459.2.2.2.2.2.2.1))) || ((!(bt448.2.2.2.2.2.2.2.1 == bt459.2.2.2.2.2.2.2.1) || (!(bt448.2.2.2.2.2.2.2.2.1 == bt459.2.2.2.2.2.2.2.2.1)))))))) = true then (crossbucklaw04_FilterTexts.j0 k true a0_0 a0_1 a0_2 a0_3 a0_4 a0_5 a0_6 a0_7 a0_8) else (if bt459.2.2.2.2.2.2.2.2.2 = 0 then ((filter_Print.f k bt448.1 bt448.2.1 bt448.2.2.1 bt448.2.2.2.1 bt448.2.2.2.2.1 bt448.2.2.2.2.2.1 bt448.2.2.2.2.2.2.1 bt448.2.2.2.2.2.2.2.1 bt448.2.2.2.2.2.2.2.2.1).bind fun t470 => (crossbucklaw04_FilterTexts.j0 k (t470.toList != a1.toList) a0_0 a0_1 a0_2 a0_3 a0_4 a0_5 a0_6 a0_7 a0_8)) else (crossbucklaw04_FilterTexts.j0 k false a0_0 a0_1 a0_2 a0_3 a0_4 a0_5 a0_6 a0_7 a0_8))) else (crossbucklaw04_FilterTexts.j0 k true a0_0 a0_1 a0_2 a0_3 a0_4 a0_5 a0_6 a0_7 a0_8))))
theorem crossbucklaw04_FilterTexts.mono_l : ∀ k, (∀ y0 y1 y2 y3 y4 y5 y6 y7 y8 y9, LeO (crossbucklaw04_FilterTexts.j0 k y0 y1 y2 y3 y4 y5 y6 y7 y8 y9) (crossbucklaw04_FilterTexts.j0 (k + 1) y0 y1 y2 y3 y4 y5 y6 y7 y8 y9))
 | 0 => fun _ _ _ _ _ _ _ _ _ _ r h => by simp [crossbucklaw04_FilterTexts.j0] at h
 | k + 1 => by
  have ih0 := crossbucklaw04_FilterTexts.mono_l k
  ·intro y0 y1 y2 y3 y4 y5 y6 y7 y8 y9
   unfold crossbucklaw04_FilterTexts.j0
   repeat' first
   | (with_reducible exact ih0 _ _ _ _ _ _ _ _ _ _)
   | (with_reducible exact crossbucklaw04_awake.mono _)
   | (with_reducible exact crossbuckref04_Check.mono _ _ _ _ _ _ _ _ _ _)
   | (with_reducible exact crossbuckref04_Parse.mono _ _)
   | (with_reducible exact crossbuckref04_Print.mono _ _ _ _ _ _ _ _ _ _)
   | (with_reducible exact filter_Parse.mono _ _)
   | (with_reducible exact filter_Print.mono _ _ _ _ _ _ _ _ _ _)
   | (with_reducible exact LeO.refl _)
   | (with_reducible exact LeO.none _)
   | (with_reducible refine LeO.ite ?_ ?_)
   | (with_reducible refine LeO.bind ?_ (fun _ => ?_))
   | exact ih0 _ _ _ _ _ _ _ _ _ _
   | exact crossbucklaw04_awake.mono _
   | exact crossbuckref04_Check.mono _ _ _ _ _ _ _ _ _ _
   | exact crossbuckref04_Parse.mono _ _
   | exact crossbuckref04_Print.mono _ _ _ _ _ _ _ _ _ _
   | exact filter_Parse.mono _ _
   | exact filter_Print.mono _ _ _ _ _ _ _ _ _ _
   | exact LeO.none _
   | refine LeO.ite ?_ ?_
   | refine LeO.bind ?_ (fun _ => ?_)
theorem crossbucklaw04_FilterTexts.mono : ∀ a0 a1 a2 a3 a4 a5 a6 a7 a8 a9 k, LeO (crossbucklaw04_FilterTexts.f k a0 a1 a2 a3 a4 a5 a6 a7 a8 a9) (crossbucklaw04_FilterTexts.f (k + 1) a0 a1 a2 a3 a4 a5 a6 a7 a8 a9) := by
 intro a0 a1 a2 a3 a4 a5 a6 a7 a8 a9 k
 have ih0 := crossbucklaw04_FilterTexts.mono_l k
 unfold crossbucklaw04_FilterTexts.f
 repeat' first
   | (with_reducible exact ih0 _ _ _ _ _ _ _ _ _ _)
   | (with_reducible exact crossbucklaw04_awake.mono _)
   | (with_reducible exact crossbuckref04_Check.mono _ _ _ _ _ _ _ _ _ _)
   | (with_reducible exact crossbuckref04_Parse.mono _ _)
   | (with_reducible exact crossbuckref04_Print.mono _ _ _ _ _ _ _ _ _ _)
   | (with_reducible exact filter_Parse.mono _ _)
   | (with_reducible exact filter_Print.mono _ _ _ _ _ _ _ _ _ _)
   | (with_reducible exact LeO.refl _)
   | (with_reducible exact LeO.none _)
   | (with_reducible refine LeO.ite ?_ ?_)
   | (with_reducible refine LeO.bind ?_ (fun _ => ?_))
   | exact ih0 _ _ _ _ _ _ _ _ _ _
   | exact crossbucklaw04_awake.mono _
   | exact crossbuckref04_Check.mono _ _ _ _ _ _ _ _ _ _
   | exact crossbuckref04_Parse.mono _ _
   | exact crossbuckref04_Print.mono _ _ _ _ _ _ _ _ _ _
   | exact filter_Parse.mono _ _
   | exact filter_Print.mono _ _ _ _ _ _ _ _ _ _
   | exact LeO.none _
   | refine LeO.ite ?_ ?_
   | refine LeO.bind ?_ (fun _ => ?_)
set_option maxHeartbeats 8000000 in
set_option maxRecDepth 100000 in
theorem crossbucklaw04_FilterTexts.calls (k : Nat) (a0_0 : Int) (a0_1 : Int) (a0_2 : Int) (a0_3 : Int) (a0_4 : Int) (a0_5 : Int) (a0_6 : Int) (a0_7 : Int) (a0_8 : Int) (a1 : ByteArray) (r : Bool) (w : World) (hG : Hand.Good true true w) (h : crossbucklaw04_FilterTexts.f k a0_0 a0_1 a0_2 a0_3 a0_4 a0_5 a0_6 a0_7 a0_8 a1 = some r) (hT : Aside0 (r = true)) :
  Calls Tryd.prog 15 #[.agg #[.int .u32 a0_0, .int .i64 a0_1, .int .u32 a0_2, .int .i64 a0_3, .int .i64 a0_4, .int .u16 a0_5, .int .u16 a0_6, .int .u16 a0_7, .int .u16 a0_8], .string a1] w fun e w' => e = .returned (.bool r) ∧ Below w.heap.size w w' := by
 have hu77 := Tryd.underlying77
 have HB := Aside0.mk (Below.refl w.heap.size w)
 have hGG := Aside0.mk hG
 clear hG
 have H : (if (a1.size : Int) > 300 then ((crossbucklaw04_awake.f k).bind fun t447 => (some t447)) else ((filter_Parse.f k a1).bind fun bt448 => ((crossbuckref04_Parse.f k a1).bind fun bt459 => (if bt448.2.2.2.2.2.2.2.2.2 = bt459.2.2.2.2.2.2.2.2.2 then (if ((!(bt448.1 == bt459.1) || (!(bt448.2.1 == bt459.2.1))) || ((!(bt448.2.2.1 == bt459.2.2.1) || (!(bt448.2.2.2.1 == bt459.2.2.2.1))) || (!(bt448.2.2.2.2.1 == bt459.2.2.2.2.1) || ((!(bt448.2.2.2.2.2.1 == bt459.2.2.2.2.2.1) || (!(bt448.2.2.2.2.2.2.1 == bt459.2.2.2.2.2.2.1))) || ((!(bt448.2.2.2.2.2.2.2.1 == bt459.2.2.2.2.2.2.2.1) || (!(bt448.2.2.2.2.2.2.2.2.1 == bt459.2.2.2.2.2.2.2.2.1)))))))) = true then (crossbucklaw04_FilterTexts.j0 k true a0_0 a0_1 a0_2 a0_3 a0_4 a0_5 a0_6 a0_7 a0_8) else (if bt459.2.2.2.2.2.2.2.2.2 = 0 then ((filter_Print.f k bt448.1 bt448.2.1 bt448.2.2.1 bt448.2.2.2.1 bt448.2.2.2.2.1 bt448.2.2.2.2.2.1 bt448.2.2.2.2.2.2.1 bt448.2.2.2.2.2.2.2.1 bt448.2.2.2.2.2.2.2.2.1).bind fun t470 => (crossbucklaw04_FilterTexts.j0 k (t470.toList != a1.toList) a0_0 a0_1 a0_2 a0_3 a0_4 a0_5 a0_6 a0_7 a0_8)) else (crossbucklaw04_FilterTexts.j0 k false a0_0 a0_1 a0_2 a0_3 a0_4 a0_5 a0_6 a0_7 a0_8))) else (crossbucklaw04_FilterTexts.j0 k true a0_0 a0_1 a0_2 a0_3 a0_4 a0_5 a0_6 a0_7 a0_8))))) = some r := h
 clear h
 by_cases c3 : (a1.size : Int) > 300
 ·rw [if_pos c3] at H
  have c3b0 : decide (300 < (a1.size : Int)) = true := decide_eq_true c3
  have c3b1 : decide (300 < a1.size) = true := decide_eq_true (by omega)
  clear c3
  replace H := Option.bind_eq_some_iff.mp H
  obtain ⟨t447, A40, H⟩ := H
  replace H : (some t447) = some r := H
  have A4 := Aside0.mk A40
  clear A40
  obtain rfl := Option.some.inj H
  go_enter Tryd.func15, Tryd.ntmps15
  go_wp2_with (first | ((with_reducible refine gate_dst (N := 2) rfl ?_); refine box_event ?hg (N := 2) ?hd (cs := #[.int .u32 a0_0, .int .i64 a0_1, .int .u32 a0_2, .int .i64 a0_3, .int .i64 a0_4, .int .u16 a0_5, .int .u16 a0_6, .int .u16 a0_7, .int .u16 a0_8]) (t := 77) ?hr ?_; (case hd => rfl); (case hg => rfl); (case hr => first | (go_simp; done) | (go_simp; rfl)); intro gb446 hg w5 hbox hb; have n0_ := Aside0.mk (below_step (by repeat (first | (with_reducible first | exact HB.out | apply below_alloc | apply pw_below_drewN | apply below_drew1) | exact HB.out)) hb); have n1_ := Aside0.mk (hbox); have n2_ := Aside0.mk ((by rw [hg]; exact (below_size (by repeat (first | (with_reducible first | exact HB.out | apply below_alloc | apply pw_below_drewN | apply below_drew1) | exact HB.out))) : w.heap.size ≤ gb446)); have n3_ := Aside0.mk ((by rw [hg]; exact (below_size (by repeat (first | (with_reducible first | exact HB.out | apply below_alloc | apply pw_below_drewN | apply below_drew1) | exact HB.out))) : w.heap.size ≤ gb446)); clear HB; have HB := n0_; have BK446 := n1_; have GW446 := n2_; have GE446 := n3_; clear n0_ n1_ n2_ n3_; clear hb hbox hg) | ((with_reducible refine gate_callee (f := 46) rfl ?_); refine goesL_ (some 15) rfl rfl Tryd.func46 (by kernel_rfl) rfl #[] rfl (by (try simp only [List.map_toArray, List.map_cons, List.map_nil]); first | done | rfl | (simp only [List.length_drop, List.length_take]; rfl)) ?_; (with_reducible refine (crossbucklaw04_awake.calls k  t447 _ (Hand.Good.below true false hGG.out (by repeat (first | (with_reducible first | exact HB.out | apply below_alloc | apply pw_below_drewN | apply below_drew1 | refine below_set ?_ GE446.out) | exact HB.out)) rfl rfl) A4.out).mono ?_); rintro e w6 ⟨rfl, hb⟩; refine ⟨_, rfl, ?_⟩; have n0_ := Aside0.mk (blk_below (g := gb446) (o := .cells #[.int .u32 a0_0, .int .i64 a0_1, .int .u32 a0_2, .int .i64 a0_3, .int .i64 a0_4, .int .u16 a0_5, .int .u16 a0_6, .int .u16 a0_7, .int .u16 a0_8] 77 (0, 0)) (by (with_reducible repeat (first | refine blk_drewN ?_ _ | refine blk_drew ?_ | refine blk_alloc ?_ _)); exact BK446.out) hb); have n1_ := Aside0.mk (below_step (by repeat (first | (with_reducible first | exact HB.out | apply below_alloc | apply pw_below_drewN | apply below_drew1 | refine below_set ?_ GE446.out) | exact HB.out)) hb); clear BK446; clear HB; have BK446 := n0_; have HB := n1_; clear n0_ n1_; (try clear hb); (try clear hb2); (try clear hk); (try clear hi)))
  go_ret
  exact ⟨by first | rfl | (simp [errW_none, errW_some] <;> rfl) | (simp [*, errW_none, errW_some] <;> rfl), by repeat (first | (with_reducible first | exact HB.out | apply below_alloc | apply pw_below_drewN | apply below_drew1 | refine below_set ?_ GE446.out) | exact HB.out)⟩
 ·rw [if_neg c3] at H
  have c3b0 : decide (300 < (a1.size : Int)) = false := decide_eq_false c3
  have c3b1 : decide (300 < a1.size) = false := decide_eq_false (by omega)
  clear c3
  replace H := Option.bind_eq_some_iff.mp H
  obtain ⟨⟨t448, t449, t450, t451, t452, t453, t454, t455, t456, t457⟩, A70, H⟩ := H
  replace H : ((crossbuckref04_Parse.f k a1).bind fun bt459 => (if t457 = bt459.2.2.2.2.2.2.2.2.2 then (if ((!(t448 == bt459.1) || (!(t449 == bt459.2.1))) || ((!(t450 == bt459.2.2.1) || (!(t451 == bt459.2.2.2.1))) || (!(t452 == bt459.2.2.2.2.1) || ((!(t453 == bt459.2.2.2.2.2.1) || (!(t454 == bt459.2.2.2.2.2.2.1))) || ((!(t455 == bt459.2.2.2.2.2.2.2.1) || (!(t456 == bt459.2.2.2.2.2.2.2.2.1)))))))) = true then (crossbucklaw04_FilterTexts.j0 k true a0_0 a0_1 a0_2 a0_3 a0_4 a0_5 a0_6 a0_7 a0_8) else (if bt459.2.2.2.2.2.2.2.2.2 = 0 then ((filter_Print.f k t448 t449 t450 t451 t452 t453 t454 t455 t456).bind fun t470 => (crossbucklaw04_FilterTexts.j0 k (t470.toList != a1.toList) a0_0 a0_1 a0_2 a0_3 a0_4 a0_5 a0_6 a0_7 a0_8)) else (crossbucklaw04_FilterTexts.j0 k false a0_0 a0_1 a0_2 a0_3 a0_4 a0_5 a0_6 a0_7 a0_8))) else (crossbucklaw04_FilterTexts.j0 k true a0_0 a0_1 a0_2 a0_3 a0_4 a0_5 a0_6 a0_7 a0_8))) = some r := H
  have A7 := Aside0.mk A70
  clear A70
  replace H := Option.bind_eq_some_iff.mp H
  obtain ⟨⟨t459, t460, t461, t462, t463, t464, t465, t466, t467, t468⟩, A80, H⟩ := H
  replace H : (if t457 = t468 then (if ((!(t448 == t459) || (!(t449 == t460))) || ((!(t450 == t461) || (!(t451 == t462))) || (!(t452 == t463) || ((!(t453 == t464) || (!(t454 == t465))) || ((!(t455 == t466) || (!(t456 == t467)))))))) = true then (crossbucklaw04_FilterTexts.j0 k true a0_0 a0_1 a0_2 a0_3 a0_4 a0_5 a0_6 a0_7 a0_8) else (if t468 = 0 then ((filter_Print.f k t448 t449 t450 t451 t452 t453 t454 t455 t456).bind fun t470 => (crossbucklaw04_FilterTexts.j0 k (t470.toList != a1.toList) a0_0 a0_1 a0_2 a0_3 a0_4 a0_5 a0_6 a0_7 a0_8)) else (crossbucklaw04_FilterTexts.j0 k false a0_0 a0_1 a0_2 a0_3 a0_4 a0_5 a0_6 a0_7 a0_8))) else (crossbucklaw04_FilterTexts.j0 k true a0_0 a0_1 a0_2 a0_3 a0_4 a0_5 a0_6 a0_7 a0_8)) = some r := H
  have A8 := Aside0.mk A80
  clear A80
  have HC9 := Aside0.mk H
  clear H
  go_enter Tryd.func15, Tryd.ntmps15
  go_upto_region 5 with (first | ((with_reducible refine gate_dst (N := 2) rfl ?_); refine box_event ?hg (N := 2) ?hd (cs := #[.int .u32 a0_0, .int .i64 a0_1, .int .u32 a0_2, .int .i64 a0_3, .int .i64 a0_4, .int .u16 a0_5, .int .u16 a0_6, .int .u16 a0_7, .int .u16 a0_8]) (t := 77) ?hr ?_; (case hd => rfl); (case hg => rfl); (case hr => first | (go_simp; done) | (go_simp; rfl)); intro gb446 hg w10 hbox hb; have n0_ := Aside0.mk (below_step (by repeat (first | (with_reducible first | exact HB.out | apply below_alloc | apply pw_below_drewN | apply below_drew1) | exact HB.out)) hb); have n1_ := Aside0.mk (hbox); have n2_ := Aside0.mk ((by rw [hg]; exact (below_size (by repeat (first | (with_reducible first | exact HB.out | apply below_alloc | apply pw_below_drewN | apply below_drew1) | exact HB.out))) : w.heap.size ≤ gb446)); have n3_ := Aside0.mk ((by rw [hg]; exact (below_size (by repeat (first | (with_reducible first | exact HB.out | apply below_alloc | apply pw_below_drewN | apply below_drew1) | exact HB.out))) : w.heap.size ≤ gb446)); clear HB; have HB := n0_; have BK446 := n1_; have GW446 := n2_; have GE446 := n3_; clear n0_ n1_ n2_ n3_; clear hb hbox hg) | ((with_reducible refine gate_callee (f := 64) rfl ?_); refine goesL_ (some 18) rfl rfl Tryd.func64 (by kernel_rfl) rfl #[.string a1] rfl (by (try simp only [List.map_toArray, List.map_cons, List.map_nil]); first | done | rfl | (simp only [List.length_drop, List.length_take]; rfl)) ?_; (with_reducible refine (filter_Parse.calls k a1 t448 t449 t450 t451 t452 t453 t454 t455 t456 t457 _ (Hand.Good.below true false hGG.out (by repeat (first | (with_reducible first | exact HB.out | apply below_alloc | apply pw_below_drewN | apply below_drew1 | refine below_set ?_ GE446.out) | exact HB.out)) rfl rfl) A7.out).mono ?_); rintro e w11 ⟨rfl, hb⟩; refine ⟨_, rfl, ?_⟩; have n0_ := Aside0.mk (blk_below (g := gb446) (o := .cells #[.int .u32 a0_0, .int .i64 a0_1, .int .u32 a0_2, .int .i64 a0_3, .int .i64 a0_4, .int .u16 a0_5, .int .u16 a0_6, .int .u16 a0_7, .int .u16 a0_8] 77 (0, 0)) (by (with_reducible repeat (first | refine blk_drewN ?_ _ | refine blk_drew ?_ | refine blk_alloc ?_ _)); exact BK446.out) hb); have n1_ := Aside0.mk (below_step (by repeat (first | (with_reducible first | exact HB.out | apply below_alloc | apply pw_below_drewN | apply below_drew1 | refine below_set ?_ GE446.out) | exact HB.out)) hb); clear BK446; clear HB; have BK446 := n0_; have HB := n1_; clear n0_ n1_; (try clear hb); (try clear hb2); (try clear hk); (try clear hi)) | ((with_reducible refine gate_dst (N := 5) rfl ?_); refine box_event ?hg (N := 5) ?hd (cs := #[.int .u32 0, .int .i64 0, .int .u32 0, .int .i64 0, .int .i64 0, .int .u16 0, .int .u16 0, .int .u16 0, .int .u16 0]) (t := 77) ?hr ?_; (case hd => rfl); (case hg => rfl); (case hr => first | (go_simp; done) | (go_simp; rfl)); intro gb458 hg w12 hbox hb; have n0_ := Aside0.mk (blk_below (g := gb446) (o := .cells #[.int .u32 a0_0, .int .i64 a0_1, .int .u32 a0_2, .int .i64 a0_3, .int .i64 a0_4, .int .u16 a0_5, .int .u16 a0_6, .int .u16 a0_7, .int .u16 a0_8] 77 (0, 0)) (by (with_reducible repeat (first | refine blk_drewN ?_ _ | refine blk_drew ?_ | refine blk_alloc ?_ _)); exact BK446.out) hb); have n1_ := Aside0.mk (below_step (by repeat (first | (with_reducible first | exact HB.out | apply below_alloc | apply pw_below_drewN | apply below_drew1 | refine below_set ?_ GE446.out) | exact HB.out)) hb); have n2_ := Aside0.mk (hbox); have n3_ := Aside0.mk ((by rw [hg]; exact (below_size (by repeat (first | (with_reducible first | exact HB.out | apply below_alloc | apply pw_below_drewN | apply below_drew1 | refine below_set ?_ GE446.out) | exact HB.out))) : w.heap.size ≤ gb458)); have n4_ := Aside0.mk ((by rw [hg]; exact (below_size (by repeat (first | (with_reducible first | exact HB.out | apply below_alloc | apply pw_below_drewN | apply below_drew1 | refine below_set ?_ GE446.out) | exact HB.out))) : w.heap.size ≤ gb458)); have n5_ := Aside0.mk ((by rw [hg]; exact Nat.ne_of_lt (blk_lt (g := gb446) (o := .cells #[.int .u32 a0_0, .int .i64 a0_1, .int .u32 a0_2, .int .i64 a0_3, .int .i64 a0_4, .int .u16 a0_5, .int .u16 a0_6, .int .u16 a0_7, .int .u16 a0_8] 77 (0, 0)) (by (with_reducible repeat (first | refine blk_drewN ?_ _ | refine blk_drew ?_ | refine blk_alloc ?_ _)); exact BK446.out)) : gb446 ≠ gb458)); have n6_ := Aside0.mk ((by rw [hg]; exact Nat.ne_of_gt (blk_lt (g := gb446) (o := .cells #[.int .u32 a0_0, .int .i64 a0_1, .int .u32 a0_2, .int .i64 a0_3, .int .i64 a0_4, .int .u16 a0_5, .int .u16 a0_6, .int .u16 a0_7, .int .u16 a0_8] 77 (0, 0)) (by (with_reducible repeat (first | refine blk_drewN ?_ _ | refine blk_drew ?_ | refine blk_alloc ?_ _)); exact BK446.out)) : gb458 ≠ gb446)); clear BK446; clear HB; have BK446 := n0_; have HB := n1_; have BK458 := n2_; have GW458 := n3_; have GE458 := n4_; have NB446_458 := n5_; have NB458_446 := n6_; clear n0_ n1_ n2_ n3_ n4_ n5_ n6_; clear hb hbox hg; have hnb13 := NB458_446.out; have hnc13 := NB446_458.out; have hcz14_0 : w12.cell? ⟨gb458, 0, none⟩ = some (.int .u32 0) := (blk_cell BK458.out 0).trans rfl; have hcz14_1 : w12.cell? ⟨gb458, 1, none⟩ = some (.int .i64 0) := (blk_cell BK458.out 1).trans rfl; have hcz14_2 : w12.cell? ⟨gb458, 2, none⟩ = some (.int .u32 0) := (blk_cell BK458.out 2).trans rfl; have hcz14_3 : w12.cell? ⟨gb458, 3, none⟩ = some (.int .i64 0) := (blk_cell BK458.out 3).trans rfl; have hcz14_4 : w12.cell? ⟨gb458, 4, none⟩ = some (.int .i64 0) := (blk_cell BK458.out 4).trans rfl; have hcz14_5 : w12.cell? ⟨gb458, 5, none⟩ = some (.int .u16 0) := (blk_cell BK458.out 5).trans rfl; have hcz14_6 : w12.cell? ⟨gb458, 6, none⟩ = some (.int .u16 0) := (blk_cell BK458.out 6).trans rfl; have hcz14_7 : w12.cell? ⟨gb458, 7, none⟩ = some (.int .u16 0) := (blk_cell BK458.out 7).trans rfl; have hcz14_8 : w12.cell? ⟨gb458, 8, none⟩ = some (.int .u16 0) := (blk_cell BK458.out 8).trans rfl; have hfz14_0 := blk_frozen BK458.out 0; have hfz14_1 := blk_frozen BK458.out 1; have hfz14_2 := blk_frozen BK458.out 2; have hfz14_3 := blk_frozen BK458.out 3; have hfz14_4 := blk_frozen BK458.out 4; have hfz14_5 := blk_frozen BK458.out 5; have hfz14_6 := blk_frozen BK458.out 6; have hfz14_7 := blk_frozen BK458.out 7; have hfz14_8 := blk_frozen BK458.out 8) | ((with_reducible refine gate_callee (f := 65) rfl ?_); refine goesL_ (some 23) rfl rfl Tryd.func65 (by kernel_rfl) rfl #[.string a1] rfl (by (try simp only [List.map_toArray, List.map_cons, List.map_nil]); first | done | rfl | (simp only [List.length_drop, List.length_take]; rfl)) ?_; (with_reducible refine (crossbuckref04_Parse.calls k a1 t459 t460 t461 t462 t463 t464 t465 t466 t467 t468 _ A8.out).mono ?_); rintro e w15 ⟨rfl, hb⟩; refine ⟨_, rfl, ?_⟩; have n0_ := Aside0.mk (blk_below (g := gb446) (o := .cells #[.int .u32 a0_0, .int .i64 a0_1, .int .u32 a0_2, .int .i64 a0_3, .int .i64 a0_4, .int .u16 a0_5, .int .u16 a0_6, .int .u16 a0_7, .int .u16 a0_8] 77 (0, 0)) (by (with_reducible repeat (first | refine blk_drewN ?_ _ | refine blk_drew ?_ | refine blk_alloc ?_ _)); refine blk_far ?_ NB446_458.out _; (with_reducible repeat (first | refine blk_drewN ?_ _ | refine blk_drew ?_ | refine blk_alloc ?_ _)); refine blk_far ?_ NB446_458.out _; (with_reducible repeat (first | refine blk_drewN ?_ _ | refine blk_drew ?_ | refine blk_alloc ?_ _)); refine blk_far ?_ NB446_458.out _; (with_reducible repeat (first | refine blk_drewN ?_ _ | refine blk_drew ?_ | refine blk_alloc ?_ _)); refine blk_far ?_ NB446_458.out _; (with_reducible repeat (first | refine blk_drewN ?_ _ | refine blk_drew ?_ | refine blk_alloc ?_ _)); refine blk_far ?_ NB446_458.out _; (with_reducible repeat (first | refine blk_drewN ?_ _ | refine blk_drew ?_ | refine blk_alloc ?_ _)); refine blk_far ?_ NB446_458.out _; (with_reducible repeat (first | refine blk_drewN ?_ _ | refine blk_drew ?_ | refine blk_alloc ?_ _)); refine blk_far ?_ NB446_458.out _; (with_reducible repeat (first | refine blk_drewN ?_ _ | refine blk_drew ?_ | refine blk_alloc ?_ _)); refine blk_far ?_ NB446_458.out _; (with_reducible repeat (first | refine blk_drewN ?_ _ | refine blk_drew ?_ | refine blk_alloc ?_ _)); refine blk_far ?_ NB446_458.out _; (with_reducible repeat (first | refine blk_drewN ?_ _ | refine blk_drew ?_ | refine blk_alloc ?_ _)); exact BK446.out) hb); have n1_ := Aside0.mk (blk_below (g := gb458) (o := .cells #[.int .u32 t448, .int .i64 t449, .int .u32 t450, .int .i64 t451, .int .i64 t452, .int .u16 t453, .int .u16 t454, .int .u16 t455, .int .u16 t456] 77 (0, 0)) (by (with_reducible repeat (first | refine blk_drewN ?_ _ | refine blk_drew ?_ | refine blk_alloc ?_ _)); refine blk_put (cs := #[.int .u32 t448, .int .i64 t449, .int .u32 t450, .int .i64 t451, .int .i64 t452, .int .u16 t453, .int .u16 t454, .int .u16 t455, .int .u16 0]) ?_ 8 _ rfl; (with_reducible repeat (first | refine blk_drewN ?_ _ | refine blk_drew ?_ | refine blk_alloc ?_ _)); refine blk_put (cs := #[.int .u32 t448, .int .i64 t449, .int .u32 t450, .int .i64 t451, .int .i64 t452, .int .u16 t453, .int .u16 t454, .int .u16 0, .int .u16 0]) ?_ 7 _ rfl; (with_reducible repeat (first | refine blk_drewN ?_ _ | refine blk_drew ?_ | refine blk_alloc ?_ _)); refine blk_put (cs := #[.int .u32 t448, .int .i64 t449, .int .u32 t450, .int .i64 t451, .int .i64 t452, .int .u16 t453, .int .u16 0, .int .u16 0, .int .u16 0]) ?_ 6 _ rfl; (with_reducible repeat (first | refine blk_drewN ?_ _ | refine blk_drew ?_ | refine blk_alloc ?_ _)); refine blk_put (cs := #[.int .u32 t448, .int .i64 t449, .int .u32 t450, .int .i64 t451, .int .i64 t452, .int .u16 0, .int .u16 0, .int .u16 0, .int .u16 0]) ?_ 5 _ rfl; (with_reducible repeat (first | refine blk_drewN ?_ _ | refine blk_drew ?_ | refine blk_alloc ?_ _)); refine blk_put (cs := #[.int .u32 t448, .int .i64 t449, .int .u32 t450, .int .i64 t451, .int .i64 0, .int .u16 0, .int .u16 0, .int .u16 0, .int .u16 0]) ?_ 4 _ rfl; (with_reducible repeat (first | refine blk_drewN ?_ _ | refine blk_drew ?_ | refine blk_alloc ?_ _)); refine blk_put (cs := #[.int .u32 t448, .int .i64 t449, .int .u32 t450, .int .i64 0, .int .i64 0, .int .u16 0, .int .u16 0, .int .u16 0, .int .u16 0]) ?_ 3 _ rfl; (with_reducible repeat (first | refine blk_drewN ?_ _ | refine blk_drew ?_ | refine blk_alloc ?_ _)); refine blk_put (cs := #[.int .u32 t448, .int .i64 t449, .int .u32 0, .int .i64 0, .int .i64 0, .int .u16 0, .int .u16 0, .int .u16 0, .int .u16 0]) ?_ 2 _ rfl; (with_reducible repeat (first | refine blk_drewN ?_ _ | refine blk_drew ?_ | refine blk_alloc ?_ _)); refine blk_put (cs := #[.int .u32 t448, .int .i64 0, .int .u32 0, .int .i64 0, .int .i64 0, .int .u16 0, .int .u16 0, .int .u16 0, .int .u16 0]) ?_ 1 _ rfl; (with_reducible repeat (first | refine blk_drewN ?_ _ | refine blk_drew ?_ | refine blk_alloc ?_ _)); refine blk_put (cs := #[.int .u32 0, .int .i64 0, .int .u32 0, .int .i64 0, .int .i64 0, .int .u16 0, .int .u16 0, .int .u16 0, .int .u16 0]) ?_ 0 _ rfl; (with_reducible repeat (first | refine blk_drewN ?_ _ | refine blk_drew ?_ | refine blk_alloc ?_ _)); exact BK458.out) hb); have n2_ := Aside0.mk (below_step (by repeat (first | (with_reducible first | exact HB.out | apply below_alloc | apply pw_below_drewN | apply below_drew1 | refine below_set ?_ GE446.out | refine below_set ?_ GE458.out) | exact HB.out)) hb); clear BK446; clear BK458; clear HB; have BK446 := n0_; have BK458 := n1_; have HB := n2_; clear n0_ n1_ n2_; (try clear hb); (try clear hb2); (try clear hk); (try clear hi)) | ((with_reducible refine gate_dst (N := 7) rfl ?_); refine box_event ?hg (N := 7) ?hd (cs := #[.int .u32 0, .int .i64 0, .int .u32 0, .int .i64 0, .int .i64 0, .int .u16 0, .int .u16 0, .int .u16 0, .int .u16 0]) (t := 77) ?hr ?_; (case hd => rfl); (case hg => rfl); (case hr => first | (go_simp; done) | (go_simp; rfl)); intro gb469 hg w16 hbox hb; have n0_ := Aside0.mk (blk_below (g := gb446) (o := .cells #[.int .u32 a0_0, .int .i64 a0_1, .int .u32 a0_2, .int .i64 a0_3, .int .i64 a0_4, .int .u16 a0_5, .int .u16 a0_6, .int .u16 a0_7, .int .u16 a0_8] 77 (0, 0)) (by (with_reducible repeat (first | refine blk_drewN ?_ _ | refine blk_drew ?_ | refine blk_alloc ?_ _)); exact BK446.out) hb); have n1_ := Aside0.mk (blk_below (g := gb458) (o := .cells #[.int .u32 t448, .int .i64 t449, .int .u32 t450, .int .i64 t451, .int .i64 t452, .int .u16 t453, .int .u16 t454, .int .u16 t455, .int .u16 t456] 77 (0, 0)) (by (with_reducible repeat (first | refine blk_drewN ?_ _ | refine blk_drew ?_ | refine blk_alloc ?_ _)); exact BK458.out) hb); have n2_ := Aside0.mk (below_step (by repeat (first | (with_reducible first | exact HB.out | apply below_alloc | apply pw_below_drewN | apply below_drew1 | refine below_set ?_ GE446.out | refine below_set ?_ GE458.out) | exact HB.out)) hb); have n3_ := Aside0.mk (hbox); have n4_ := Aside0.mk ((by rw [hg]; exact (below_size (by repeat (first | (with_reducible first | exact HB.out | apply below_alloc | apply pw_below_drewN | apply below_drew1 | refine below_set ?_ GE446.out | refine below_set ?_ GE458.out) | exact HB.out))) : w.heap.size ≤ gb469)); have n5_ := Aside0.mk ((by rw [hg]; exact (below_size (by repeat (first | (with_reducible first | exact HB.out | apply below_alloc | apply pw_below_drewN | apply below_drew1 | refine below_set ?_ GE446.out | refine below_set ?_ GE458.out) | exact HB.out))) : w.heap.size ≤ gb469)); have n6_ := Aside0.mk ((by rw [hg]; exact Nat.ne_of_lt (blk_lt (g := gb446) (o := .cells #[.int .u32 a0_0, .int .i64 a0_1, .int .u32 a0_2, .int .i64 a0_3, .int .i64 a0_4, .int .u16 a0_5, .int .u16 a0_6, .int .u16 a0_7, .int .u16 a0_8] 77 (0, 0)) (by (with_reducible repeat (first | refine blk_drewN ?_ _ | refine blk_drew ?_ | refine blk_alloc ?_ _)); exact BK446.out)) : gb446 ≠ gb469)); have n7_ := Aside0.mk ((by rw [hg]; exact Nat.ne_of_gt (blk_lt (g := gb446) (o := .cells #[.int .u32 a0_0, .int .i64 a0_1, .int .u32 a0_2, .int .i64 a0_3, .int .i64 a0_4, .int .u16 a0_5, .int .u16 a0_6, .int .u16 a0_7, .int .u16 a0_8] 77 (0, 0)) (by (with_reducible repeat (first | refine blk_drewN ?_ _ | refine blk_drew ?_ | refine blk_alloc ?_ _)); exact BK446.out)) : gb469 ≠ gb446)); have n8_ := Aside0.mk ((by rw [hg]; exact Nat.ne_of_lt (blk_lt (g := gb458) (o := .cells #[.int .u32 t448, .int .i64 t449, .int .u32 t450, .int .i64 t451, .int .i64 t452, .int .u16 t453, .int .u16 t454, .int .u16 t455, .int .u16 t456] 77 (0, 0)) (by (with_reducible repeat (first | refine blk_drewN ?_ _ | refine blk_drew ?_ | refine blk_alloc ?_ _)); exact BK458.out)) : gb458 ≠ gb469)); have n9_ := Aside0.mk ((by rw [hg]; exact Nat.ne_of_gt (blk_lt (g := gb458) (o := .cells #[.int .u32 t448, .int .i64 t449, .int .u32 t450, .int .i64 t451, .int .i64 t452, .int .u16 t453, .int .u16 t454, .int .u16 t455, .int .u16 t456] 77 (0, 0)) (by (with_reducible repeat (first | refine blk_drewN ?_ _ | refine blk_drew ?_ | refine blk_alloc ?_ _)); exact BK458.out)) : gb469 ≠ gb458)); clear BK446; clear BK458; clear HB; have BK446 := n0_; have BK458 := n1_; have HB := n2_; have BK469 := n3_; have GW469 := n4_; have GE469 := n5_; have NB446_469 := n6_; have NB469_446 := n7_; have NB458_469 := n8_; have NB469_458 := n9_; clear n0_ n1_ n2_ n3_ n4_ n5_ n6_ n7_ n8_ n9_; clear hb hbox hg; have hnb17 := NB469_446.out; have hnc17 := NB446_469.out; have hnb18 := NB469_458.out; have hnc18 := NB458_469.out; have hcz19_0 : w16.cell? ⟨gb469, 0, none⟩ = some (.int .u32 0) := (blk_cell BK469.out 0).trans rfl; have hcz19_1 : w16.cell? ⟨gb469, 1, none⟩ = some (.int .i64 0) := (blk_cell BK469.out 1).trans rfl; have hcz19_2 : w16.cell? ⟨gb469, 2, none⟩ = some (.int .u32 0) := (blk_cell BK469.out 2).trans rfl; have hcz19_3 : w16.cell? ⟨gb469, 3, none⟩ = some (.int .i64 0) := (blk_cell BK469.out 3).trans rfl; have hcz19_4 : w16.cell? ⟨gb469, 4, none⟩ = some (.int .i64 0) := (blk_cell BK469.out 4).trans rfl; have hcz19_5 : w16.cell? ⟨gb469, 5, none⟩ = some (.int .u16 0) := (blk_cell BK469.out 5).trans rfl; have hcz19_6 : w16.cell? ⟨gb469, 6, none⟩ = some (.int .u16 0) := (blk_cell BK469.out 6).trans rfl; have hcz19_7 : w16.cell? ⟨gb469, 7, none⟩ = some (.int .u16 0) := (blk_cell BK469.out 7).trans rfl; have hcz19_8 : w16.cell? ⟨gb469, 8, none⟩ = some (.int .u16 0) := (blk_cell BK469.out 8).trans rfl; have hfz19_0 := blk_frozen BK469.out 0; have hfz19_1 := blk_frozen BK469.out 1; have hfz19_2 := blk_frozen BK469.out 2; have hfz19_3 := blk_frozen BK469.out 3; have hfz19_4 := blk_frozen BK469.out 4; have hfz19_5 := blk_frozen BK469.out 5; have hfz19_6 := blk_frozen BK469.out 6; have hfz19_7 := blk_frozen BK469.out 7; have hfz19_8 := blk_frozen BK469.out 8))
  (try simp only [Act.put, List.setIfInBounds_toArray, List.set_cons_zero, List.set_cons_succ])
  go_cut [43] (fun v43 wc => ∃ (kq : Nat) (x43_8 : Bool), v43 = .bool x43_8 ∧ Aside0 (crossbucklaw04_FilterTexts.j0 kq x43_8 a0_0 a0_1 a0_2 a0_3 a0_4 a0_5 a0_6 a0_7 a0_8 = some r) ∧ Aside0 (kq ≤ k) ∧ Aside0 (wc.heap[gb446]? = some (.cells #[.int .u32 a0_0, .int .i64 a0_1, .int .u32 a0_2, .int .i64 a0_3, .int .i64 a0_4, .int .u16 a0_5, .int .u16 a0_6, .int .u16 a0_7, .int .u16 a0_8] 77 (0, 0))) ∧ Aside0 (wc.heap[gb458]? = some (.cells #[.int .u32 t448, .int .i64 t449, .int .u32 t450, .int .i64 t451, .int .i64 t452, .int .u16 t453, .int .u16 t454, .int .u16 t455, .int .u16 t456] 77 (0, 0))) ∧ Aside0 (wc.heap[gb469]? = some (.cells #[.int .u32 t459, .int .i64 t460, .int .u32 t461, .int .i64 t462, .int .i64 t463, .int .u16 t464, .int .u16 t465, .int .u16 t466, .int .u16 t467] 77 (0, 0))) ∧ Aside0 (Below w.heap.size w wc))
  case first =>
   have H := HC9.out
   clear HC9
   by_cases c20 : t457 = t468
   ·rw [if_pos c20] at H
    have c20b0 : (t457 == t468) = true := beq_iff_eq.mpr c20
    have c20b1 : (t457 != t468) = false := bne_eq_false_iff_eq.mpr c20
    clear c20
    (first | rw [c20b0] | (simp only [i64_w, i32_w]; rw [c20b0]) | skip)
    by_cases c21 : ((!(t448 == t459) || (!(t449 == t460))) || ((!(t450 == t461) || (!(t451 == t462))) || (!(t452 == t463) || ((!(t453 == t464) || (!(t454 == t465))) || ((!(t455 == t466) || (!(t456 == t467)))))))) = true
    ·rw [if_pos c21] at H
     have c21b0 : ((!(t448 == t459) || (!(t449 == t460))) || ((!(t450 == t461) || (!(t451 == t462))) || (!(t452 == t463) || ((!(t453 == t464) || (!(t454 == t465))) || ((!(t455 == t466) || (!(t456 == t467)))))))) = true := c21
     clear c21
     exfalso
     unfold crossbucklaw04_FilterTexts.j0 at H
     split at H
     ·exact absurd H (by simp)
     ·rw [if_pos rfl] at H
      exact absurd ((Option.some.inj H).trans hT.out) (by decide)
    ·rw [if_neg c21] at H
     have c21b0 : ((!(t448 == t459) || (!(t449 == t460))) || ((!(t450 == t461) || (!(t451 == t462))) || (!(t452 == t463) || ((!(t453 == t464) || (!(t454 == t465))) || ((!(t455 == t466) || (!(t456 == t467)))))))) = false := by simpa using c21
     clear c21
     by_cases c22 : t468 = 0
     ·rw [if_pos c22] at H
      have c22b0 : (t468 == 0) = true := beq_iff_eq.mpr c22
      have c22b1 : (t468 != 0) = false := bne_eq_false_iff_eq.mpr c22
      clear c22
      replace H := Option.bind_eq_some_iff.mp H
      obtain ⟨t470, A230, H⟩ := H
      replace H : (crossbucklaw04_FilterTexts.j0 k (t470.toList != a1.toList) a0_0 a0_1 a0_2 a0_3 a0_4 a0_5 a0_6 a0_7 a0_8) = some r := H
      have A23 := Aside0.mk A230
      clear A230
      have H' := Aside0.mk H
      clear H
      have hnb24 := NB458_446.out
      have hnc24 := NB446_458.out
      have hnb25 := NB458_469.out
      have hnc25 := NB469_458.out
      have hcz26_0 : w16.cell? ⟨gb458, 0, none⟩ = some (.int .u32 t448) := (blk_cell BK458.out 0).trans rfl
      have hcz26_1 : w16.cell? ⟨gb458, 1, none⟩ = some (.int .i64 t449) := (blk_cell BK458.out 1).trans rfl
      have hcz26_2 : w16.cell? ⟨gb458, 2, none⟩ = some (.int .u32 t450) := (blk_cell BK458.out 2).trans rfl
      have hcz26_3 : w16.cell? ⟨gb458, 3, none⟩ = some (.int .i64 t451) := (blk_cell BK458.out 3).trans rfl
      have hcz26_4 : w16.cell? ⟨gb458, 4, none⟩ = some (.int .i64 t452) := (blk_cell BK458.out 4).trans rfl
      have hcz26_5 : w16.cell? ⟨gb458, 5, none⟩ = some (.int .u16 t453) := (blk_cell BK458.out 5).trans rfl
      have hcz26_6 : w16.cell? ⟨gb458, 6, none⟩ = some (.int .u16 t454) := (blk_cell BK458.out 6).trans rfl
      have hcz26_7 : w16.cell? ⟨gb458, 7, none⟩ = some (.int .u16 t455) := (blk_cell BK458.out 7).trans rfl
      have hcz26_8 : w16.cell? ⟨gb458, 8, none⟩ = some (.int .u16 t456) := (blk_cell BK458.out 8).trans rfl
      have hfz26_0 := blk_frozen BK458.out 0
      have hfz26_1 := blk_frozen BK458.out 1
      have hfz26_2 := blk_frozen BK458.out 2
      have hfz26_3 := blk_frozen BK458.out 3
      have hfz26_4 := blk_frozen BK458.out 4
      have hfz26_5 := blk_frozen BK458.out 5
      have hfz26_6 := blk_frozen BK458.out 6
      have hfz26_7 := blk_frozen BK458.out 7
      have hfz26_8 := blk_frozen BK458.out 8
      have hnb27 := NB469_446.out
      have hnc27 := NB446_469.out
      have hcz28_0 : w16.cell? ⟨gb469, 0, none⟩ = some (.int .u32 0) := (blk_cell BK469.out 0).trans rfl
      have hcz28_1 : w16.cell? ⟨gb469, 1, none⟩ = some (.int .i64 0) := (blk_cell BK469.out 1).trans rfl
      have hcz28_2 : w16.cell? ⟨gb469, 2, none⟩ = some (.int .u32 0) := (blk_cell BK469.out 2).trans rfl
      have hcz28_3 : w16.cell? ⟨gb469, 3, none⟩ = some (.int .i64 0) := (blk_cell BK469.out 3).trans rfl
      have hcz28_4 : w16.cell? ⟨gb469, 4, none⟩ = some (.int .i64 0) := (blk_cell BK469.out 4).trans rfl
      have hcz28_5 : w16.cell? ⟨gb469, 5, none⟩ = some (.int .u16 0) := (blk_cell BK469.out 5).trans rfl
      have hcz28_6 : w16.cell? ⟨gb469, 6, none⟩ = some (.int .u16 0) := (blk_cell BK469.out 6).trans rfl
      have hcz28_7 : w16.cell? ⟨gb469, 7, none⟩ = some (.int .u16 0) := (blk_cell BK469.out 7).trans rfl
      have hcz28_8 : w16.cell? ⟨gb469, 8, none⟩ = some (.int .u16 0) := (blk_cell BK469.out 8).trans rfl
      have hfz28_0 := blk_frozen BK469.out 0
      have hfz28_1 := blk_frozen BK469.out 1
      have hfz28_2 := blk_frozen BK469.out 2
      have hfz28_3 := blk_frozen BK469.out 3
      have hfz28_4 := blk_frozen BK469.out 4
      have hfz28_5 := blk_frozen BK469.out 5
      have hfz28_6 := blk_frozen BK469.out 6
      have hfz28_7 := blk_frozen BK469.out 7
      have hfz28_8 := blk_frozen BK469.out 8
      go_wp2_with (first | (go_at_call 66; (with_reducible refine (filter_Print.calls k t448 t449 t450 t451 t452 t453 t454 t455 t456 t470 _ (Hand.Good.below false true hGG.out (by repeat (first | (with_reducible first | exact HB.out | apply below_alloc | apply pw_below_drewN | apply below_drew1 | refine below_set ?_ GE446.out | refine below_set ?_ GE458.out | refine below_set ?_ GE469.out) | exact HB.out)) rfl rfl) A23.out).mono ?_); rintro e w29 ⟨rfl, hb⟩; have n0_ := Aside0.mk (blk_below (g := gb446) (o := .cells #[.int .u32 a0_0, .int .i64 a0_1, .int .u32 a0_2, .int .i64 a0_3, .int .i64 a0_4, .int .u16 a0_5, .int .u16 a0_6, .int .u16 a0_7, .int .u16 a0_8] 77 (0, 0)) (by (with_reducible repeat (first | refine blk_drewN ?_ _ | refine blk_drew ?_ | refine blk_alloc ?_ _)); refine blk_far ?_ NB446_469.out _; (with_reducible repeat (first | refine blk_drewN ?_ _ | refine blk_drew ?_ | refine blk_alloc ?_ _)); refine blk_far ?_ NB446_469.out _; (with_reducible repeat (first | refine blk_drewN ?_ _ | refine blk_drew ?_ | refine blk_alloc ?_ _)); refine blk_far ?_ NB446_469.out _; (with_reducible repeat (first | refine blk_drewN ?_ _ | refine blk_drew ?_ | refine blk_alloc ?_ _)); refine blk_far ?_ NB446_469.out _; (with_reducible repeat (first | refine blk_drewN ?_ _ | refine blk_drew ?_ | refine blk_alloc ?_ _)); refine blk_far ?_ NB446_469.out _; (with_reducible repeat (first | refine blk_drewN ?_ _ | refine blk_drew ?_ | refine blk_alloc ?_ _)); refine blk_far ?_ NB446_469.out _; (with_reducible repeat (first | refine blk_drewN ?_ _ | refine blk_drew ?_ | refine blk_alloc ?_ _)); refine blk_far ?_ NB446_469.out _; (with_reducible repeat (first | refine blk_drewN ?_ _ | refine blk_drew ?_ | refine blk_alloc ?_ _)); refine blk_far ?_ NB446_469.out _; (with_reducible repeat (first | refine blk_drewN ?_ _ | refine blk_drew ?_ | refine blk_alloc ?_ _)); refine blk_far ?_ NB446_469.out _; (with_reducible repeat (first | refine blk_drewN ?_ _ | refine blk_drew ?_ | refine blk_alloc ?_ _)); exact BK446.out) hb); have n1_ := Aside0.mk (blk_below (g := gb458) (o := .cells #[.int .u32 t448, .int .i64 t449, .int .u32 t450, .int .i64 t451, .int .i64 t452, .int .u16 t453, .int .u16 t454, .int .u16 t455, .int .u16 t456] 77 (0, 0)) (by (with_reducible repeat (first | refine blk_drewN ?_ _ | refine blk_drew ?_ | refine blk_alloc ?_ _)); refine blk_far ?_ NB458_469.out _; (with_reducible repeat (first | refine blk_drewN ?_ _ | refine blk_drew ?_ | refine blk_alloc ?_ _)); refine blk_far ?_ NB458_469.out _; (with_reducible repeat (first | refine blk_drewN ?_ _ | refine blk_drew ?_ | refine blk_alloc ?_ _)); refine blk_far ?_ NB458_469.out _; (with_reducible repeat (first | refine blk_drewN ?_ _ | refine blk_drew ?_ | refine blk_alloc ?_ _)); refine blk_far ?_ NB458_469.out _; (with_reducible repeat (first | refine blk_drewN ?_ _ | refine blk_drew ?_ | refine blk_alloc ?_ _)); refine blk_far ?_ NB458_469.out _; (with_reducible repeat (first | refine blk_drewN ?_ _ | refine blk_drew ?_ | refine blk_alloc ?_ _)); refine blk_far ?_ NB458_469.out _; (with_reducible repeat (first | refine blk_drewN ?_ _ | refine blk_drew ?_ | refine blk_alloc ?_ _)); refine blk_far ?_ NB458_469.out _; (with_reducible repeat (first | refine blk_drewN ?_ _ | refine blk_drew ?_ | refine blk_alloc ?_ _)); refine blk_far ?_ NB458_469.out _; (with_reducible repeat (first | refine blk_drewN ?_ _ | refine blk_drew ?_ | refine blk_alloc ?_ _)); refine blk_far ?_ NB458_469.out _; (with_reducible repeat (first | refine blk_drewN ?_ _ | refine blk_drew ?_ | refine blk_alloc ?_ _)); exact BK458.out) hb); have n2_ := Aside0.mk (blk_below (g := gb469) (o := .cells #[.int .u32 t459, .int .i64 t460, .int .u32 t461, .int .i64 t462, .int .i64 t463, .int .u16 t464, .int .u16 t465, .int .u16 t466, .int .u16 t467] 77 (0, 0)) (by (with_reducible repeat (first | refine blk_drewN ?_ _ | refine blk_drew ?_ | refine blk_alloc ?_ _)); refine blk_put (cs := #[.int .u32 t459, .int .i64 t460, .int .u32 t461, .int .i64 t462, .int .i64 t463, .int .u16 t464, .int .u16 t465, .int .u16 t466, .int .u16 0]) ?_ 8 _ rfl; (with_reducible repeat (first | refine blk_drewN ?_ _ | refine blk_drew ?_ | refine blk_alloc ?_ _)); refine blk_put (cs := #[.int .u32 t459, .int .i64 t460, .int .u32 t461, .int .i64 t462, .int .i64 t463, .int .u16 t464, .int .u16 t465, .int .u16 0, .int .u16 0]) ?_ 7 _ rfl; (with_reducible repeat (first | refine blk_drewN ?_ _ | refine blk_drew ?_ | refine blk_alloc ?_ _)); refine blk_put (cs := #[.int .u32 t459, .int .i64 t460, .int .u32 t461, .int .i64 t462, .int .i64 t463, .int .u16 t464, .int .u16 0, .int .u16 0, .int .u16 0]) ?_ 6 _ rfl; (with_reducible repeat (first | refine blk_drewN ?_ _ | refine blk_drew ?_ | refine blk_alloc ?_ _)); refine blk_put (cs := #[.int .u32 t459, .int .i64 t460, .int .u32 t461, .int .i64 t462, .int .i64 t463, .int .u16 0, .int .u16 0, .int .u16 0, .int .u16 0]) ?_ 5 _ rfl; (with_reducible repeat (first | refine blk_drewN ?_ _ | refine blk_drew ?_ | refine blk_alloc ?_ _)); refine blk_put (cs := #[.int .u32 t459, .int .i64 t460, .int .u32 t461, .int .i64 t462, .int .i64 0, .int .u16 0, .int .u16 0, .int .u16 0, .int .u16 0]) ?_ 4 _ rfl; (with_reducible repeat (first | refine blk_drewN ?_ _ | refine blk_drew ?_ | refine blk_alloc ?_ _)); refine blk_put (cs := #[.int .u32 t459, .int .i64 t460, .int .u32 t461, .int .i64 0, .int .i64 0, .int .u16 0, .int .u16 0, .int .u16 0, .int .u16 0]) ?_ 3 _ rfl; (with_reducible repeat (first | refine blk_drewN ?_ _ | refine blk_drew ?_ | refine blk_alloc ?_ _)); refine blk_put (cs := #[.int .u32 t459, .int .i64 t460, .int .u32 0, .int .i64 0, .int .i64 0, .int .u16 0, .int .u16 0, .int .u16 0, .int .u16 0]) ?_ 2 _ rfl; (with_reducible repeat (first | refine blk_drewN ?_ _ | refine blk_drew ?_ | refine blk_alloc ?_ _)); refine blk_put (cs := #[.int .u32 t459, .int .i64 0, .int .u32 0, .int .i64 0, .int .i64 0, .int .u16 0, .int .u16 0, .int .u16 0, .int .u16 0]) ?_ 1 _ rfl; (with_reducible repeat (first | refine blk_drewN ?_ _ | refine blk_drew ?_ | refine blk_alloc ?_ _)); refine blk_put (cs := #[.int .u32 0, .int .i64 0, .int .u32 0, .int .i64 0, .int .i64 0, .int .u16 0, .int .u16 0, .int .u16 0, .int .u16 0]) ?_ 0 _ rfl; (with_reducible repeat (first | refine blk_drewN ?_ _ | refine blk_drew ?_ | refine blk_alloc ?_ _)); exact BK469.out) hb); have n3_ := Aside0.mk (below_step (by repeat (first | (with_reducible first | exact HB.out | apply below_alloc | apply pw_below_drewN | apply below_drew1 | refine below_set ?_ GE446.out | refine below_set ?_ GE458.out | refine below_set ?_ GE469.out) | exact HB.out)) hb); clear BK446; clear BK458; clear BK469; clear HB; have BK446 := n0_; have BK458 := n1_; have BK469 := n2_; have HB := n3_; clear n0_ n1_ n2_ n3_; (try clear hb); (try clear hb2); (try clear hk); (try clear hi)))
      go_meet
      case rel => exact ⟨_, ((t470.toList != a1.toList)), (by first | rfl | (simp; done) | (simp [*]; done)), H', ⟨by first | omega | exact Nat.le_refl _⟩, ⟨by (with_reducible repeat (first | refine blk_drewN ?_ _ | refine blk_drew ?_ | refine blk_alloc ?_ _)); exact BK446.out⟩, ⟨by (with_reducible repeat (first | refine blk_drewN ?_ _ | refine blk_drew ?_ | refine blk_alloc ?_ _)); exact BK458.out⟩, ⟨by (with_reducible repeat (first | refine blk_drewN ?_ _ | refine blk_drew ?_ | refine blk_alloc ?_ _)); exact BK469.out⟩, ⟨by repeat (first | (with_reducible first | exact HB.out | apply below_alloc | apply pw_below_drewN | apply below_drew1 | refine below_set ?_ GE446.out | refine below_set ?_ GE458.out | refine below_set ?_ GE469.out) | exact HB.out)⟩⟩
     ·rw [if_neg c22] at H
      have c22b0 : (t468 == 0) = false := beq_eq_false_iff_ne.mpr c22
      have c22b1 : (t468 != 0) = true := bne_iff_ne.mpr c22
      have H' := Aside0.mk H
      clear H
      have hnb30 := NB458_446.out
      have hnc30 := NB446_458.out
      have hnb31 := NB458_469.out
      have hnc31 := NB469_458.out
      have hcz32_0 : w16.cell? ⟨gb458, 0, none⟩ = some (.int .u32 t448) := (blk_cell BK458.out 0).trans rfl
      have hcz32_1 : w16.cell? ⟨gb458, 1, none⟩ = some (.int .i64 t449) := (blk_cell BK458.out 1).trans rfl
      have hcz32_2 : w16.cell? ⟨gb458, 2, none⟩ = some (.int .u32 t450) := (blk_cell BK458.out 2).trans rfl
      have hcz32_3 : w16.cell? ⟨gb458, 3, none⟩ = some (.int .i64 t451) := (blk_cell BK458.out 3).trans rfl
      have hcz32_4 : w16.cell? ⟨gb458, 4, none⟩ = some (.int .i64 t452) := (blk_cell BK458.out 4).trans rfl
      have hcz32_5 : w16.cell? ⟨gb458, 5, none⟩ = some (.int .u16 t453) := (blk_cell BK458.out 5).trans rfl
      have hcz32_6 : w16.cell? ⟨gb458, 6, none⟩ = some (.int .u16 t454) := (blk_cell BK458.out 6).trans rfl
      have hcz32_7 : w16.cell? ⟨gb458, 7, none⟩ = some (.int .u16 t455) := (blk_cell BK458.out 7).trans rfl
      have hcz32_8 : w16.cell? ⟨gb458, 8, none⟩ = some (.int .u16 t456) := (blk_cell BK458.out 8).trans rfl
      have hfz32_0 := blk_frozen BK458.out 0
      have hfz32_1 := blk_frozen BK458.out 1
      have hfz32_2 := blk_frozen BK458.out 2
      have hfz32_3 := blk_frozen BK458.out 3
      have hfz32_4 := blk_frozen BK458.out 4
      have hfz32_5 := blk_frozen BK458.out 5
      have hfz32_6 := blk_frozen BK458.out 6
      have hfz32_7 := blk_frozen BK458.out 7
      have hfz32_8 := blk_frozen BK458.out 8
      have hnb33 := NB469_446.out
      have hnc33 := NB446_469.out
      have hcz34_0 : w16.cell? ⟨gb469, 0, none⟩ = some (.int .u32 0) := (blk_cell BK469.out 0).trans rfl
      have hcz34_1 : w16.cell? ⟨gb469, 1, none⟩ = some (.int .i64 0) := (blk_cell BK469.out 1).trans rfl
      have hcz34_2 : w16.cell? ⟨gb469, 2, none⟩ = some (.int .u32 0) := (blk_cell BK469.out 2).trans rfl
      have hcz34_3 : w16.cell? ⟨gb469, 3, none⟩ = some (.int .i64 0) := (blk_cell BK469.out 3).trans rfl
      have hcz34_4 : w16.cell? ⟨gb469, 4, none⟩ = some (.int .i64 0) := (blk_cell BK469.out 4).trans rfl
      have hcz34_5 : w16.cell? ⟨gb469, 5, none⟩ = some (.int .u16 0) := (blk_cell BK469.out 5).trans rfl
      have hcz34_6 : w16.cell? ⟨gb469, 6, none⟩ = some (.int .u16 0) := (blk_cell BK469.out 6).trans rfl
      have hcz34_7 : w16.cell? ⟨gb469, 7, none⟩ = some (.int .u16 0) := (blk_cell BK469.out 7).trans rfl
      have hcz34_8 : w16.cell? ⟨gb469, 8, none⟩ = some (.int .u16 0) := (blk_cell BK469.out 8).trans rfl
      have hfz34_0 := blk_frozen BK469.out 0
      have hfz34_1 := blk_frozen BK469.out 1
      have hfz34_2 := blk_frozen BK469.out 2
      have hfz34_3 := blk_frozen BK469.out 3
      have hfz34_4 := blk_frozen BK469.out 4
      have hfz34_5 := blk_frozen BK469.out 5
      have hfz34_6 := blk_frozen BK469.out 6
      have hfz34_7 := blk_frozen BK469.out 7
      have hfz34_8 := blk_frozen BK469.out 8
      go_wp2
      go_meet
      case rel => exact ⟨_, (false), (by first | rfl | (simp; done) | (simp [*]; done)), H', ⟨by first | omega | exact Nat.le_refl _⟩, ⟨by (with_reducible repeat (first | refine blk_drewN ?_ _ | refine blk_drew ?_ | refine blk_alloc ?_ _)); refine blk_far ?_ NB446_469.out _; (with_reducible repeat (first | refine blk_drewN ?_ _ | refine blk_drew ?_ | refine blk_alloc ?_ _)); refine blk_far ?_ NB446_469.out _; (with_reducible repeat (first | refine blk_drewN ?_ _ | refine blk_drew ?_ | refine blk_alloc ?_ _)); refine blk_far ?_ NB446_469.out _; (with_reducible repeat (first | refine blk_drewN ?_ _ | refine blk_drew ?_ | refine blk_alloc ?_ _)); refine blk_far ?_ NB446_469.out _; (with_reducible repeat (first | refine blk_drewN ?_ _ | refine blk_drew ?_ | refine blk_alloc ?_ _)); refine blk_far ?_ NB446_469.out _; (with_reducible repeat (first | refine blk_drewN ?_ _ | refine blk_drew ?_ | refine blk_alloc ?_ _)); refine blk_far ?_ NB446_469.out _; (with_reducible repeat (first | refine blk_drewN ?_ _ | refine blk_drew ?_ | refine blk_alloc ?_ _)); refine blk_far ?_ NB446_469.out _; (with_reducible repeat (first | refine blk_drewN ?_ _ | refine blk_drew ?_ | refine blk_alloc ?_ _)); refine blk_far ?_ NB446_469.out _; (with_reducible repeat (first | refine blk_drewN ?_ _ | refine blk_drew ?_ | refine blk_alloc ?_ _)); refine blk_far ?_ NB446_469.out _; (with_reducible repeat (first | refine blk_drewN ?_ _ | refine blk_drew ?_ | refine blk_alloc ?_ _)); exact BK446.out⟩, ⟨by (with_reducible repeat (first | refine blk_drewN ?_ _ | refine blk_drew ?_ | refine blk_alloc ?_ _)); refine blk_far ?_ NB458_469.out _; (with_reducible repeat (first | refine blk_drewN ?_ _ | refine blk_drew ?_ | refine blk_alloc ?_ _)); refine blk_far ?_ NB458_469.out _; (with_reducible repeat (first | refine blk_drewN ?_ _ | refine blk_drew ?_ | refine blk_alloc ?_ _)); refine blk_far ?_ NB458_469.out _; (with_reducible repeat (first | refine blk_drewN ?_ _ | refine blk_drew ?_ | refine blk_alloc ?_ _)); refine blk_far ?_ NB458_469.out _; (with_reducible repeat (first | refine blk_drewN ?_ _ | refine blk_drew ?_ | refine blk_alloc ?_ _)); refine blk_far ?_ NB458_469.out _; (with_reducible repeat (first | refine blk_drewN ?_ _ | refine blk_drew ?_ | refine blk_alloc ?_ _)); refine blk_far ?_ NB458_469.out _; (with_reducible repeat (first | refine blk_drewN ?_ _ | refine blk_drew ?_ | refine blk_alloc ?_ _)); refine blk_far ?_ NB458_469.out _; (with_reducible repeat (first | refine blk_drewN ?_ _ | refine blk_drew ?_ | refine blk_alloc ?_ _)); refine blk_far ?_ NB458_469.out _; (with_reducible repeat (first | refine blk_drewN ?_ _ | refine blk_drew ?_ | refine blk_alloc ?_ _)); refine blk_far ?_ NB458_469.out _; (with_reducible repeat (first | refine blk_drewN ?_ _ | refine blk_drew ?_ | refine blk_alloc ?_ _)); exact BK458.out⟩, ⟨by (with_reducible repeat (first | refine blk_drewN ?_ _ | refine blk_drew ?_ | refine blk_alloc ?_ _)); refine blk_put (cs := #[.int .u32 t459, .int .i64 t460, .int .u32 t461, .int .i64 t462, .int .i64 t463, .int .u16 t464, .int .u16 t465, .int .u16 t466, .int .u16 0]) ?_ 8 _ rfl; (with_reducible repeat (first | refine blk_drewN ?_ _ | refine blk_drew ?_ | refine blk_alloc ?_ _)); refine blk_put (cs := #[.int .u32 t459, .int .i64 t460, .int .u32 t461, .int .i64 t462, .int .i64 t463, .int .u16 t464, .int .u16 t465, .int .u16 0, .int .u16 0]) ?_ 7 _ rfl; (with_reducible repeat (first | refine blk_drewN ?_ _ | refine blk_drew ?_ | refine blk_alloc ?_ _)); refine blk_put (cs := #[.int .u32 t459, .int .i64 t460, .int .u32 t461, .int .i64 t462, .int .i64 t463, .int .u16 t464, .int .u16 0, .int .u16 0, .int .u16 0]) ?_ 6 _ rfl; (with_reducible repeat (first | refine blk_drewN ?_ _ | refine blk_drew ?_ | refine blk_alloc ?_ _)); refine blk_put (cs := #[.int .u32 t459, .int .i64 t460, .int .u32 t461, .int .i64 t462, .int .i64 t463, .int .u16 0, .int .u16 0, .int .u16 0, .int .u16 0]) ?_ 5 _ rfl; (with_reducible repeat (first | refine blk_drewN ?_ _ | refine blk_drew ?_ | refine blk_alloc ?_ _)); refine blk_put (cs := #[.int .u32 t459, .int .i64 t460, .int .u32 t461, .int .i64 t462, .int .i64 0, .int .u16 0, .int .u16 0, .int .u16 0, .int .u16 0]) ?_ 4 _ rfl; (with_reducible repeat (first | refine blk_drewN ?_ _ | refine blk_drew ?_ | refine blk_alloc ?_ _)); refine blk_put (cs := #[.int .u32 t459, .int .i64 t460, .int .u32 t461, .int .i64 0, .int .i64 0, .int .u16 0, .int .u16 0, .int .u16 0, .int .u16 0]) ?_ 3 _ rfl; (with_reducible repeat (first | refine blk_drewN ?_ _ | refine blk_drew ?_ | refine blk_alloc ?_ _)); refine blk_put (cs := #[.int .u32 t459, .int .i64 t460, .int .u32 0, .int .i64 0, .int .i64 0, .int .u16 0, .int .u16 0, .int .u16 0, .int .u16 0]) ?_ 2 _ rfl; (with_reducible repeat (first | refine blk_drewN ?_ _ | refine blk_drew ?_ | refine blk_alloc ?_ _)); refine blk_put (cs := #[.int .u32 t459, .int .i64 0, .int .u32 0, .int .i64 0, .int .i64 0, .int .u16 0, .int .u16 0, .int .u16 0, .int .u16 0]) ?_ 1 _ rfl; (with_reducible repeat (first | refine blk_drewN ?_ _ | refine blk_drew ?_ | refine blk_alloc ?_ _)); refine blk_put (cs := #[.int .u32 0, .int .i64 0, .int .u32 0, .int .i64 0, .int .i64 0, .int .u16 0, .int .u16 0, .int .u16 0, .int .u16 0]) ?_ 0 _ rfl; (with_reducible repeat (first | refine blk_drewN ?_ _ | refine blk_drew ?_ | refine blk_alloc ?_ _)); exact BK469.out⟩, ⟨by repeat (first | (with_reducible first | exact HB.out | apply below_alloc | apply pw_below_drewN | apply below_drew1 | refine below_set ?_ GE446.out | refine below_set ?_ GE458.out | refine below_set ?_ GE469.out) | exact HB.out)⟩⟩
   ·rw [if_neg c20] at H
    have c20b0 : (t457 == t468) = false := beq_eq_false_iff_ne.mpr c20
    have c20b1 : (t457 != t468) = true := bne_iff_ne.mpr c20
    (first | rw [c20b0] | (simp only [i64_w, i32_w]; rw [c20b0]) | skip)
    exfalso
    unfold crossbucklaw04_FilterTexts.j0 at H
    split at H
    ·exact absurd H (by simp)
    ·rw [if_pos rfl] at H
     exact absurd ((Option.some.inj H).trans hT.out) (by decide)
  case rest =>
   clear HC9
   try clear c1
   try clear c2
   try clear p2
   try clear c3
   try clear c3b0
   try clear c3b1
   try clear c4
   try clear c6
   try clear c13
   try clear c15
   try clear c17
   try clear c18
   try clear c20
   try clear c20b0
   try clear c20b1
   try clear c21
   try clear c21b0
   try clear c22
   try clear c22b0
   try clear c22b1
   try clear c24
   try clear c25
   try clear c27
   try clear c30
   try clear c31
   try clear c33
   try clear hcz14_0
   try clear hcz14_1
   try clear hcz14_2
   try clear hcz14_3
   try clear hcz14_4
   try clear hcz14_5
   try clear hcz14_6
   try clear hcz14_7
   try clear hcz14_8
   try clear hcz19_0
   try clear hcz19_1
   try clear hcz19_2
   try clear hcz19_3
   try clear hcz19_4
   try clear hcz19_5
   try clear hcz19_6
   try clear hcz19_7
   try clear hcz19_8
   try clear hcz26_0
   try clear hcz26_1
   try clear hcz26_2
   try clear hcz26_3
   try clear hcz26_4
   try clear hcz26_5
   try clear hcz26_6
   try clear hcz26_7
   try clear hcz26_8
   try clear hcz28_0
   try clear hcz28_1
   try clear hcz28_2
   try clear hcz28_3
   try clear hcz28_4
   try clear hcz28_5
   try clear hcz28_6
   try clear hcz28_7
   try clear hcz28_8
   try clear hcz32_0
   try clear hcz32_1
   try clear hcz32_2
   try clear hcz32_3
   try clear hcz32_4
   try clear hcz32_5
   try clear hcz32_6
   try clear hcz32_7
   try clear hcz32_8
   try clear hcz34_0
   try clear hcz34_1
   try clear hcz34_2
   try clear hcz34_3
   try clear hcz34_4
   try clear hcz34_5
   try clear hcz34_6
   try clear hcz34_7
   try clear hcz34_8
   try clear hfz14_0
   try clear hfz14_1
   try clear hfz14_2
   try clear hfz14_3
   try clear hfz14_4
   try clear hfz14_5
   try clear hfz14_6
   try clear hfz14_7
   try clear hfz14_8
   try clear hfz19_0
   try clear hfz19_1
   try clear hfz19_2
   try clear hfz19_3
   try clear hfz19_4
   try clear hfz19_5
   try clear hfz19_6
   try clear hfz19_7
   try clear hfz19_8
   try clear hfz26_0
   try clear hfz26_1
   try clear hfz26_2
   try clear hfz26_3
   try clear hfz26_4
   try clear hfz26_5
   try clear hfz26_6
   try clear hfz26_7
   try clear hfz26_8
   try clear hfz28_0
   try clear hfz28_1
   try clear hfz28_2
   try clear hfz28_3
   try clear hfz28_4
   try clear hfz28_5
   try clear hfz28_6
   try clear hfz28_7
   try clear hfz28_8
   try clear hfz32_0
   try clear hfz32_1
   try clear hfz32_2
   try clear hfz32_3
   try clear hfz32_4
   try clear hfz32_5
   try clear hfz32_6
   try clear hfz32_7
   try clear hfz32_8
   try clear hfz34_0
   try clear hfz34_1
   try clear hfz34_2
   try clear hfz34_3
   try clear hfz34_4
   try clear hfz34_5
   try clear hfz34_6
   try clear hfz34_7
   try clear hfz34_8
   obtain ⟨kq, x43_8, rfl, HA, HJ8, BK446, BK458, BK469, HB⟩ := hcut
   cases kq with
   | zero => exact absurd HA.out (by simp [crossbucklaw04_FilterTexts.j0])
   | succ kj8 =>
    have H := HA.out
    clear HA
    simp only [crossbucklaw04_FilterTexts.j0] at H
    by_cases c35 : x43_8 = true
    ·subst c35
     have H1 : (some false) = some r := by rw [if_pos rfl] at H; exact H
     clear H
     have H := H1
     clear H1
     exact absurd ((Option.some.inj H).trans hT.out) (by decide)
    ·replace c35 := Bool.eq_false_iff.mpr c35
     subst c35
     have H1 : ((crossbuckref04_Check.f kj8 a0_0 a0_1 a0_2 a0_3 a0_4 a0_5 a0_6 a0_7 a0_8).bind fun t471 => (if t471 = 0 then ((filter_Print.f kj8 a0_0 a0_1 a0_2 a0_3 a0_4 a0_5 a0_6 a0_7 a0_8).bind fun t473 => ((filter_Parse.f kj8 t473).bind fun bt474 => ((crossbucklaw04_awake.f kj8).bind fun t485 => (if t485 = true then ((crossbuckref04_Print.f kj8 a0_0 a0_1 a0_2 a0_3 a0_4 a0_5 a0_6 a0_7 a0_8).bind fun t486 => (if t473.toList = t486.toList then (if bt474.2.2.2.2.2.2.2.2.2 = 0 then (some ((bt474.1 == a0_0 && (bt474.2.1 == a0_1)) && ((bt474.2.2.1 == a0_2 && (bt474.2.2.2.1 == a0_3)) && (bt474.2.2.2.2.1 == a0_4 && ((bt474.2.2.2.2.2.1 == a0_5 && (bt474.2.2.2.2.2.2.1 == a0_6)) && ((bt474.2.2.2.2.2.2.2.1 == a0_7 && (bt474.2.2.2.2.2.2.2.2.1 == a0_8)))))))) else (some false)) else (some false))) else (some false))))) else ((crossbucklaw04_awake.f kj8).bind fun t472 => (some t472)))) = some r := by rw [if_neg (show ¬ (false = true) by decide)] at H; exact H
     clear H
     have H := H1
     clear H1
     replace H := Option.bind_eq_some_iff.mp H
     obtain ⟨t471, A360, H⟩ := H
     replace H : (if t471 = 0 then ((filter_Print.f kj8 a0_0 a0_1 a0_2 a0_3 a0_4 a0_5 a0_6 a0_7 a0_8).bind fun t473 => ((filter_Parse.f kj8 t473).bind fun bt474 => ((crossbucklaw04_awake.f kj8).bind fun t485 => (if t485 = true then ((crossbuckref04_Print.f kj8 a0_0 a0_1 a0_2 a0_3 a0_4 a0_5 a0_6 a0_7 a0_8).bind fun t486 => (if t473.toList = t486.toList then (if bt474.2.2.2.2.2.2.2.2.2 = 0 then (some ((bt474.1 == a0_0 && (bt474.2.1 == a0_1)) && ((bt474.2.2.1 == a0_2 && (bt474.2.2.2.1 == a0_3)) && (bt474.2.2.2.2.1 == a0_4 && ((bt474.2.2.2.2.2.1 == a0_5 && (bt474.2.2.2.2.2.2.1 == a0_6)) && ((bt474.2.2.2.2.2.2.2.1 == a0_7 && (bt474.2.2.2.2.2.2.2.2.1 == a0_8)))))))) else (some false)) else (some false))) else (some false))))) else ((crossbucklaw04_awake.f kj8).bind fun t472 => (some t472))) = some r := H
     have A36 := Aside0.mk A360
     clear A360
     by_cases c37 : t471 = 0
     ·rw [if_pos c37] at H
      have c37b0 : (t471 == 0) = true := beq_iff_eq.mpr c37
      have c37b1 : (t471 != 0) = false := bne_eq_false_iff_eq.mpr c37
      clear c37
      replace H := Option.bind_eq_some_iff.mp H
      obtain ⟨t473, A380, H⟩ := H
      replace H : ((filter_Parse.f kj8 t473).bind fun bt474 => ((crossbucklaw04_awake.f kj8).bind fun t485 => (if t485 = true then ((crossbuckref04_Print.f kj8 a0_0 a0_1 a0_2 a0_3 a0_4 a0_5 a0_6 a0_7 a0_8).bind fun t486 => (if t473.toList = t486.toList then (if bt474.2.2.2.2.2.2.2.2.2 = 0 then (some ((bt474.1 == a0_0 && (bt474.2.1 == a0_1)) && ((bt474.2.2.1 == a0_2 && (bt474.2.2.2.1 == a0_3)) && (bt474.2.2.2.2.1 == a0_4 && ((bt474.2.2.2.2.2.1 == a0_5 && (bt474.2.2.2.2.2.2.1 == a0_6)) && ((bt474.2.2.2.2.2.2.2.1 == a0_7 && (bt474.2.2.2.2.2.2.2.2.1 == a0_8)))))))) else (some false)) else (some false))) else (some false)))) = some r := H
      have A38 := Aside0.mk A380
      clear A380
      replace H := Option.bind_eq_some_iff.mp H
      obtain ⟨⟨t474, t475, t476, t477, t478, t479, t480, t481, t482, t483⟩, A390, H⟩ := H
      replace H : ((crossbucklaw04_awake.f kj8).bind fun t485 => (if t485 = true then ((crossbuckref04_Print.f kj8 a0_0 a0_1 a0_2 a0_3 a0_4 a0_5 a0_6 a0_7 a0_8).bind fun t486 => (if t473.toList = t486.toList then (if t483 = 0 then (some ((t474 == a0_0 && (t475 == a0_1)) && ((t476 == a0_2 && (t477 == a0_3)) && (t478 == a0_4 && ((t479 == a0_5 && (t480 == a0_6)) && ((t481 == a0_7 && (t482 == a0_8)))))))) else (some false)) else (some false))) else (some false))) = some r := H
      have A39 := Aside0.mk A390
      clear A390
      replace H := Option.bind_eq_some_iff.mp H
      obtain ⟨t485, A400, H⟩ := H
      replace H : (if t485 = true then ((crossbuckref04_Print.f kj8 a0_0 a0_1 a0_2 a0_3 a0_4 a0_5 a0_6 a0_7 a0_8).bind fun t486 => (if t473.toList = t486.toList then (if t483 = 0 then (some ((t474 == a0_0 && (t475 == a0_1)) && ((t476 == a0_2 && (t477 == a0_3)) && (t478 == a0_4 && ((t479 == a0_5 && (t480 == a0_6)) && ((t481 == a0_7 && (t482 == a0_8)))))))) else (some false)) else (some false))) else (some false)) = some r := H
      have A40 := Aside0.mk A400
      clear A400
      by_cases c41 : t485 = true
      ·subst c41
       have H1 : ((crossbuckref04_Print.f kj8 a0_0 a0_1 a0_2 a0_3 a0_4 a0_5 a0_6 a0_7 a0_8).bind fun t486 => (if t473.toList = t486.toList then (if t483 = 0 then (some ((t474 == a0_0 && (t475 == a0_1)) && ((t476 == a0_2 && (t477 == a0_3)) && (t478 == a0_4 && ((t479 == a0_5 && (t480 == a0_6)) && ((t481 == a0_7 && (t482 == a0_8)))))))) else (some false)) else (some false))) = some r := by rw [if_pos rfl] at H; exact H
       clear H
       have H := H1
       clear H1
       replace H := Option.bind_eq_some_iff.mp H
       obtain ⟨t486, A420, H⟩ := H
       replace H : (if t473.toList = t486.toList then (if t483 = 0 then (some ((t474 == a0_0 && (t475 == a0_1)) && ((t476 == a0_2 && (t477 == a0_3)) && (t478 == a0_4 && ((t479 == a0_5 && (t480 == a0_6)) && ((t481 == a0_7 && (t482 == a0_8)))))))) else (some false)) else (some false)) = some r := H
       have A42 := Aside0.mk A420
       clear A420
       by_cases c43 : t473.toList = t486.toList
       ·rw [if_pos c43] at H
        have c43b0 : (t473.toList == t486.toList) = true := beq_iff_eq.mpr c43
        have c43b1 : (t473.toList != t486.toList) = false := bne_eq_false_iff_eq.mpr c43
        clear c43
        by_cases c44 : t483 = 0
        ·rw [if_pos c44] at H
         have c44b0 : (t483 == 0) = true := beq_iff_eq.mpr c44
         have c44b1 : (t483 != 0) = false := bne_eq_false_iff_eq.mpr c44
         clear c44
         obtain rfl := Option.some.inj H
         have hnb45 := NB446_458.out
         have hnc45 := NB458_446.out
         have hnb46 := NB446_469.out
         have hnc46 := NB469_446.out
         have hcz47_0 : wc.cell? ⟨gb446, 0, none⟩ = some (.int .u32 a0_0) := (blk_cell BK446.out 0).trans rfl
         have hcz47_1 : wc.cell? ⟨gb446, 1, none⟩ = some (.int .i64 a0_1) := (blk_cell BK446.out 1).trans rfl
         have hcz47_2 : wc.cell? ⟨gb446, 2, none⟩ = some (.int .u32 a0_2) := (blk_cell BK446.out 2).trans rfl
         have hcz47_3 : wc.cell? ⟨gb446, 3, none⟩ = some (.int .i64 a0_3) := (blk_cell BK446.out 3).trans rfl
         have hcz47_4 : wc.cell? ⟨gb446, 4, none⟩ = some (.int .i64 a0_4) := (blk_cell BK446.out 4).trans rfl
         have hcz47_5 : wc.cell? ⟨gb446, 5, none⟩ = some (.int .u16 a0_5) := (blk_cell BK446.out 5).trans rfl
         have hcz47_6 : wc.cell? ⟨gb446, 6, none⟩ = some (.int .u16 a0_6) := (blk_cell BK446.out 6).trans rfl
         have hcz47_7 : wc.cell? ⟨gb446, 7, none⟩ = some (.int .u16 a0_7) := (blk_cell BK446.out 7).trans rfl
         have hcz47_8 : wc.cell? ⟨gb446, 8, none⟩ = some (.int .u16 a0_8) := (blk_cell BK446.out 8).trans rfl
         have hfz47_0 := blk_frozen BK446.out 0
         have hfz47_1 := blk_frozen BK446.out 1
         have hfz47_2 := blk_frozen BK446.out 2
         have hfz47_3 := blk_frozen BK446.out 3
         have hfz47_4 := blk_frozen BK446.out 4
         have hfz47_5 := blk_frozen BK446.out 5
         have hfz47_6 := blk_frozen BK446.out 6
         have hfz47_7 := blk_frozen BK446.out 7
         have hfz47_8 := blk_frozen BK446.out 8
         go_wp2_with (first | ((with_reducible refine gate_callee (f := 43) rfl ?_); refine goesL_ (some 45) rfl rfl Tryd.func43 (by kernel_rfl) rfl #[.agg #[.int .u32 a0_0, .int .i64 a0_1, .int .u32 a0_2, .int .i64 a0_3, .int .i64 a0_4, .int .u16 a0_5, .int .u16 a0_6, .int .u16 a0_7, .int .u16 a0_8]] rfl (by (try simp only [List.map_toArray, List.map_cons, List.map_nil]); first | done | rfl | (simp only [List.length_drop, List.length_take]; rfl)) ?_; (with_reducible refine (crossbuckref04_Check.calls kj8 a0_0 a0_1 a0_2 a0_3 a0_4 a0_5 a0_6 a0_7 a0_8 t471 _ A36.out).mono ?_); rintro e w48 ⟨rfl, hb⟩; refine ⟨_, rfl, ?_⟩; have n0_ := Aside0.mk (blk_below (g := gb446) (o := .cells #[.int .u32 a0_0, .int .i64 a0_1, .int .u32 a0_2, .int .i64 a0_3, .int .i64 a0_4, .int .u16 a0_5, .int .u16 a0_6, .int .u16 a0_7, .int .u16 a0_8] 77 (0, 0)) (by (with_reducible repeat (first | refine blk_drewN ?_ _ | refine blk_drew ?_ | refine blk_alloc ?_ _)); exact BK446.out) hb); have n1_ := Aside0.mk (blk_below (g := gb458) (o := .cells #[.int .u32 t448, .int .i64 t449, .int .u32 t450, .int .i64 t451, .int .i64 t452, .int .u16 t453, .int .u16 t454, .int .u16 t455, .int .u16 t456] 77 (0, 0)) (by (with_reducible repeat (first | refine blk_drewN ?_ _ | refine blk_drew ?_ | refine blk_alloc ?_ _)); exact BK458.out) hb); have n2_ := Aside0.mk (blk_below (g := gb469) (o := .cells #[.int .u32 t459, .int .i64 t460, .int .u32 t461, .int .i64 t462, .int .i64 t463, .int .u16 t464, .int .u16 t465, .int .u16 t466, .int .u16 t467] 77 (0, 0)) (by (with_reducible repeat (first | refine blk_drewN ?_ _ | refine blk_drew ?_ | refine blk_alloc ?_ _)); exact BK469.out) hb); have n3_ := Aside0.mk (below_step (by repeat (first | (with_reducible first | exact HB.out | apply below_alloc | apply pw_below_drewN | apply below_drew1 | refine below_set ?_ GE446.out | refine below_set ?_ GE458.out | refine below_set ?_ GE469.out) | exact HB.out)) hb); clear BK446; clear BK458; clear BK469; clear HB; have BK446 := n0_; have BK458 := n1_; have BK469 := n2_; have HB := n3_; clear n0_ n1_ n2_ n3_; (try clear hb); (try clear hb2); (try clear hk); (try clear hi); have hcz49_0 : w48.cell? ⟨gb446, 0, none⟩ = some (.int .u32 a0_0) := (blk_cell BK446.out 0).trans rfl; have hcz49_1 : w48.cell? ⟨gb446, 1, none⟩ = some (.int .i64 a0_1) := (blk_cell BK446.out 1).trans rfl; have hcz49_2 : w48.cell? ⟨gb446, 2, none⟩ = some (.int .u32 a0_2) := (blk_cell BK446.out 2).trans rfl; have hcz49_3 : w48.cell? ⟨gb446, 3, none⟩ = some (.int .i64 a0_3) := (blk_cell BK446.out 3).trans rfl; have hcz49_4 : w48.cell? ⟨gb446, 4, none⟩ = some (.int .i64 a0_4) := (blk_cell BK446.out 4).trans rfl; have hcz49_5 : w48.cell? ⟨gb446, 5, none⟩ = some (.int .u16 a0_5) := (blk_cell BK446.out 5).trans rfl; have hcz49_6 : w48.cell? ⟨gb446, 6, none⟩ = some (.int .u16 a0_6) := (blk_cell BK446.out 6).trans rfl; have hcz49_7 : w48.cell? ⟨gb446, 7, none⟩ = some (.int .u16 a0_7) := (blk_cell BK446.out 7).trans rfl; have hcz49_8 : w48.cell? ⟨gb446, 8, none⟩ = some (.int .u16 a0_8) := (blk_cell BK446.out 8).trans rfl; have hfz49_0 := blk_frozen BK446.out 0; have hfz49_1 := blk_frozen BK446.out 1; have hfz49_2 := blk_frozen BK446.out 2; have hfz49_3 := blk_frozen BK446.out 3; have hfz49_4 := blk_frozen BK446.out 4; have hfz49_5 := blk_frozen BK446.out 5; have hfz49_6 := blk_frozen BK446.out 6; have hfz49_7 := blk_frozen BK446.out 7; have hfz49_8 := blk_frozen BK446.out 8) | ((with_reducible refine gate_callee (f := 66) rfl ?_); refine goesL_ (some 49) rfl rfl Tryd.func66 (by kernel_rfl) rfl #[.agg #[.int .u32 a0_0, .int .i64 a0_1, .int .u32 a0_2, .int .i64 a0_3, .int .i64 a0_4, .int .u16 a0_5, .int .u16 a0_6, .int .u16 a0_7, .int .u16 a0_8]] rfl (by (try simp only [List.map_toArray, List.map_cons, List.map_nil]); first | done | rfl | (simp only [List.length_drop, List.length_take]; rfl)) ?_; (with_reducible refine (filter_Print.calls kj8 a0_0 a0_1 a0_2 a0_3 a0_4 a0_5 a0_6 a0_7 a0_8 t473 _ (Hand.Good.below false true hGG.out (by repeat (first | (with_reducible first | exact HB.out | apply below_alloc | apply pw_below_drewN | apply below_drew1 | refine below_set ?_ GE446.out | refine below_set ?_ GE458.out | refine below_set ?_ GE469.out) | exact HB.out)) rfl rfl) A38.out).mono ?_); rintro e w50 ⟨rfl, hb⟩; refine ⟨_, rfl, ?_⟩; have n0_ := Aside0.mk (blk_below (g := gb446) (o := .cells #[.int .u32 a0_0, .int .i64 a0_1, .int .u32 a0_2, .int .i64 a0_3, .int .i64 a0_4, .int .u16 a0_5, .int .u16 a0_6, .int .u16 a0_7, .int .u16 a0_8] 77 (0, 0)) (by (with_reducible repeat (first | refine blk_drewN ?_ _ | refine blk_drew ?_ | refine blk_alloc ?_ _)); exact BK446.out) hb); have n1_ := Aside0.mk (blk_below (g := gb458) (o := .cells #[.int .u32 t448, .int .i64 t449, .int .u32 t450, .int .i64 t451, .int .i64 t452, .int .u16 t453, .int .u16 t454, .int .u16 t455, .int .u16 t456] 77 (0, 0)) (by (with_reducible repeat (first | refine blk_drewN ?_ _ | refine blk_drew ?_ | refine blk_alloc ?_ _)); exact BK458.out) hb); have n2_ := Aside0.mk (blk_below (g := gb469) (o := .cells #[.int .u32 t459, .int .i64 t460, .int .u32 t461, .int .i64 t462, .int .i64 t463, .int .u16 t464, .int .u16 t465, .int .u16 t466, .int .u16 t467] 77 (0, 0)) (by (with_reducible repeat (first | refine blk_drewN ?_ _ | refine blk_drew ?_ | refine blk_alloc ?_ _)); exact BK469.out) hb); have n3_ := Aside0.mk (below_step (by repeat (first | (with_reducible first | exact HB.out | apply below_alloc | apply pw_below_drewN | apply below_drew1 | refine below_set ?_ GE446.out | refine below_set ?_ GE458.out | refine below_set ?_ GE469.out) | exact HB.out)) hb); clear BK446; clear BK458; clear BK469; clear HB; have BK446 := n0_; have BK458 := n1_; have BK469 := n2_; have HB := n3_; clear n0_ n1_ n2_ n3_; (try clear hb); (try clear hb2); (try clear hk); (try clear hi)) | ((with_reducible refine gate_callee (f := 64) rfl ?_); refine goesL_ (some 52) rfl rfl Tryd.func64 (by kernel_rfl) rfl #[.string t473] rfl (by (try simp only [List.map_toArray, List.map_cons, List.map_nil]); first | done | rfl | (simp only [List.length_drop, List.length_take]; rfl)) ?_; (with_reducible refine (filter_Parse.calls kj8 t473 t474 t475 t476 t477 t478 t479 t480 t481 t482 t483 _ (Hand.Good.below true false hGG.out (by repeat (first | (with_reducible first | exact HB.out | apply below_alloc | apply pw_below_drewN | apply below_drew1 | refine below_set ?_ GE446.out | refine below_set ?_ GE458.out | refine below_set ?_ GE469.out) | exact HB.out)) rfl rfl) A39.out).mono ?_); rintro e w51 ⟨rfl, hb⟩; refine ⟨_, rfl, ?_⟩; have n0_ := Aside0.mk (blk_below (g := gb446) (o := .cells #[.int .u32 a0_0, .int .i64 a0_1, .int .u32 a0_2, .int .i64 a0_3, .int .i64 a0_4, .int .u16 a0_5, .int .u16 a0_6, .int .u16 a0_7, .int .u16 a0_8] 77 (0, 0)) (by (with_reducible repeat (first | refine blk_drewN ?_ _ | refine blk_drew ?_ | refine blk_alloc ?_ _)); exact BK446.out) hb); have n1_ := Aside0.mk (blk_below (g := gb458) (o := .cells #[.int .u32 t448, .int .i64 t449, .int .u32 t450, .int .i64 t451, .int .i64 t452, .int .u16 t453, .int .u16 t454, .int .u16 t455, .int .u16 t456] 77 (0, 0)) (by (with_reducible repeat (first | refine blk_drewN ?_ _ | refine blk_drew ?_ | refine blk_alloc ?_ _)); exact BK458.out) hb); have n2_ := Aside0.mk (blk_below (g := gb469) (o := .cells #[.int .u32 t459, .int .i64 t460, .int .u32 t461, .int .i64 t462, .int .i64 t463, .int .u16 t464, .int .u16 t465, .int .u16 t466, .int .u16 t467] 77 (0, 0)) (by (with_reducible repeat (first | refine blk_drewN ?_ _ | refine blk_drew ?_ | refine blk_alloc ?_ _)); exact BK469.out) hb); have n3_ := Aside0.mk (below_step (by repeat (first | (with_reducible first | exact HB.out | apply below_alloc | apply pw_below_drewN | apply below_drew1 | refine below_set ?_ GE446.out | refine below_set ?_ GE458.out | refine below_set ?_ GE469.out) | exact HB.out)) hb); clear BK446; clear BK458; clear BK469; clear HB; have BK446 := n0_; have BK458 := n1_; have BK469 := n2_; have HB := n3_; clear n0_ n1_ n2_ n3_; (try clear hb); (try clear hb2); (try clear hk); (try clear hi)) | ((with_reducible refine gate_dst (N := 10) rfl ?_); refine box_event ?hg (N := 10) ?hd (cs := #[.int .u32 0, .int .i64 0, .int .u32 0, .int .i64 0, .int .i64 0, .int .u16 0, .int .u16 0, .int .u16 0, .int .u16 0]) (t := 77) ?hr ?_; (case hd => rfl); (case hg => rfl); (case hr => first | (go_simp; done) | (go_simp; rfl)); intro gb484 hg w52 hbox hb; have n0_ := Aside0.mk (blk_below (g := gb446) (o := .cells #[.int .u32 a0_0, .int .i64 a0_1, .int .u32 a0_2, .int .i64 a0_3, .int .i64 a0_4, .int .u16 a0_5, .int .u16 a0_6, .int .u16 a0_7, .int .u16 a0_8] 77 (0, 0)) (by (with_reducible repeat (first | refine blk_drewN ?_ _ | refine blk_drew ?_ | refine blk_alloc ?_ _)); exact BK446.out) hb); have n1_ := Aside0.mk (blk_below (g := gb458) (o := .cells #[.int .u32 t448, .int .i64 t449, .int .u32 t450, .int .i64 t451, .int .i64 t452, .int .u16 t453, .int .u16 t454, .int .u16 t455, .int .u16 t456] 77 (0, 0)) (by (with_reducible repeat (first | refine blk_drewN ?_ _ | refine blk_drew ?_ | refine blk_alloc ?_ _)); exact BK458.out) hb); have n2_ := Aside0.mk (blk_below (g := gb469) (o := .cells #[.int .u32 t459, .int .i64 t460, .int .u32 t461, .int .i64 t462, .int .i64 t463, .int .u16 t464, .int .u16 t465, .int .u16 t466, .int .u16 t467] 77 (0, 0)) (by (with_reducible repeat (first | refine blk_drewN ?_ _ | refine blk_drew ?_ | refine blk_alloc ?_ _)); exact BK469.out) hb); have n3_ := Aside0.mk (below_step (by repeat (first | (with_reducible first | exact HB.out | apply below_alloc | apply pw_below_drewN | apply below_drew1 | refine below_set ?_ GE446.out | refine below_set ?_ GE458.out | refine below_set ?_ GE469.out) | exact HB.out)) hb); have n4_ := Aside0.mk (hbox); have n5_ := Aside0.mk ((by rw [hg]; exact (below_size (by repeat (first | (with_reducible first | exact HB.out | apply below_alloc | apply pw_below_drewN | apply below_drew1 | refine below_set ?_ GE446.out | refine below_set ?_ GE458.out | refine below_set ?_ GE469.out) | exact HB.out))) : w.heap.size ≤ gb484)); have n6_ := Aside0.mk ((by rw [hg]; exact (below_size (by repeat (first | (with_reducible first | exact HB.out | apply below_alloc | apply pw_below_drewN | apply below_drew1 | refine below_set ?_ GE446.out | refine below_set ?_ GE458.out | refine below_set ?_ GE469.out) | exact HB.out))) : w.heap.size ≤ gb484)); have n7_ := Aside0.mk ((by rw [hg]; exact Nat.ne_of_lt (blk_lt (g := gb446) (o := .cells #[.int .u32 a0_0, .int .i64 a0_1, .int .u32 a0_2, .int .i64 a0_3, .int .i64 a0_4, .int .u16 a0_5, .int .u16 a0_6, .int .u16 a0_7, .int .u16 a0_8] 77 (0, 0)) (by (with_reducible repeat (first | refine blk_drewN ?_ _ | refine blk_drew ?_ | refine blk_alloc ?_ _)); exact BK446.out)) : gb446 ≠ gb484)); have n8_ := Aside0.mk ((by rw [hg]; exact Nat.ne_of_gt (blk_lt (g := gb446) (o := .cells #[.int .u32 a0_0, .int .i64 a0_1, .int .u32 a0_2, .int .i64 a0_3, .int .i64 a0_4, .int .u16 a0_5, .int .u16 a0_6, .int .u16 a0_7, .int .u16 a0_8] 77 (0, 0)) (by (with_reducible repeat (first | refine blk_drewN ?_ _ | refine blk_drew ?_ | refine blk_alloc ?_ _)); exact BK446.out)) : gb484 ≠ gb446)); have n9_ := Aside0.mk ((by rw [hg]; exact Nat.ne_of_lt (blk_lt (g := gb458) (o := .cells #[.int .u32 t448, .int .i64 t449, .int .u32 t450, .int .i64 t451, .int .i64 t452, .int .u16 t453, .int .u16 t454, .int .u16 t455, .int .u16 t456] 77 (0, 0)) (by (with_reducible repeat (first | refine blk_drewN ?_ _ | refine blk_drew ?_ | refine blk_alloc ?_ _)); exact BK458.out)) : gb458 ≠ gb484)); have n10_ := Aside0.mk ((by rw [hg]; exact Nat.ne_of_gt (blk_lt (g := gb458) (o := .cells #[.int .u32 t448, .int .i64 t449, .int .u32 t450, .int .i64 t451, .int .i64 t452, .int .u16 t453, .int .u16 t454, .int .u16 t455, .int .u16 t456] 77 (0, 0)) (by (with_reducible repeat (first | refine blk_drewN ?_ _ | refine blk_drew ?_ | refine blk_alloc ?_ _)); exact BK458.out)) : gb484 ≠ gb458)); have n11_ := Aside0.mk ((by rw [hg]; exact Nat.ne_of_lt (blk_lt (g := gb469) (o := .cells #[.int .u32 t459, .int .i64 t460, .int .u32 t461, .int .i64 t462, .int .i64 t463, .int .u16 t464, .int .u16 t465, .int .u16 t466, .int .u16 t467] 77 (0, 0)) (by (with_reducible repeat (first | refine blk_drewN ?_ _ | refine blk_drew ?_ | refine blk_alloc ?_ _)); exact BK469.out)) : gb469 ≠ gb484)); have n12_ := Aside0.mk ((by rw [hg]; exact Nat.ne_of_gt (blk_lt (g := gb469) (o := .cells #[.int .u32 t459, .int .i64 t460, .int .u32 t461, .int .i64 t462, .int .i64 t463, .int .u16 t464, .int .u16 t465, .int .u16 t466, .int .u16 t467] 77 (0, 0)) (by (with_reducible repeat (first | refine blk_drewN ?_ _ | refine blk_drew ?_ | refine blk_alloc ?_ _)); exact BK469.out)) : gb484 ≠ gb469)); clear BK446; clear BK458; clear BK469; clear HB; have BK446 := n0_; have BK458 := n1_; have BK469 := n2_; have HB := n3_; have BK484 := n4_; have GW484 := n5_; have GE484 := n6_; have NB446_484 := n7_; have NB484_446 := n8_; have NB458_484 := n9_; have NB484_458 := n10_; have NB469_484 := n11_; have NB484_469 := n12_; clear n0_ n1_ n2_ n3_ n4_ n5_ n6_ n7_ n8_ n9_ n10_ n11_ n12_; clear hb hbox hg; have hnb53 := NB484_446.out; have hnc53 := NB446_484.out; have hnb54 := NB484_458.out; have hnc54 := NB458_484.out; have hnb55 := NB484_469.out; have hnc55 := NB469_484.out; have hcz56_0 : w52.cell? ⟨gb484, 0, none⟩ = some (.int .u32 0) := (blk_cell BK484.out 0).trans rfl; have hcz56_1 : w52.cell? ⟨gb484, 1, none⟩ = some (.int .i64 0) := (blk_cell BK484.out 1).trans rfl; have hcz56_2 : w52.cell? ⟨gb484, 2, none⟩ = some (.int .u32 0) := (blk_cell BK484.out 2).trans rfl; have hcz56_3 : w52.cell? ⟨gb484, 3, none⟩ = some (.int .i64 0) := (blk_cell BK484.out 3).trans rfl; have hcz56_4 : w52.cell? ⟨gb484, 4, none⟩ = some (.int .i64 0) := (blk_cell BK484.out 4).trans rfl; have hcz56_5 : w52.cell? ⟨gb484, 5, none⟩ = some (.int .u16 0) := (blk_cell BK484.out 5).trans rfl; have hcz56_6 : w52.cell? ⟨gb484, 6, none⟩ = some (.int .u16 0) := (blk_cell BK484.out 6).trans rfl; have hcz56_7 : w52.cell? ⟨gb484, 7, none⟩ = some (.int .u16 0) := (blk_cell BK484.out 7).trans rfl; have hcz56_8 : w52.cell? ⟨gb484, 8, none⟩ = some (.int .u16 0) := (blk_cell BK484.out 8).trans rfl; have hfz56_0 := blk_frozen BK484.out 0; have hfz56_1 := blk_frozen BK484.out 1; have hfz56_2 := blk_frozen BK484.out 2; have hfz56_3 := blk_frozen BK484.out 3; have hfz56_4 := blk_frozen BK484.out 4; have hfz56_5 := blk_frozen BK484.out 5; have hfz56_6 := blk_frozen BK484.out 6; have hfz56_7 := blk_frozen BK484.out 7; have hfz56_8 := blk_frozen BK484.out 8) | ((with_reducible refine gate_callee (f := 46) rfl ?_); refine goesL_ (some 55) rfl rfl Tryd.func46 (by kernel_rfl) rfl #[] rfl (by (try simp only [List.map_toArray, List.map_cons, List.map_nil]); first | done | rfl | (simp only [List.length_drop, List.length_take]; rfl)) ?_; (with_reducible refine (crossbucklaw04_awake.calls kj8  true _ (Hand.Good.below true false hGG.out (by repeat (first | (with_reducible first | exact HB.out | apply below_alloc | apply pw_below_drewN | apply below_drew1 | refine below_set ?_ GE446.out | refine below_set ?_ GE458.out | refine below_set ?_ GE469.out | refine below_set ?_ GE484.out) | exact HB.out)) rfl rfl) A40.out).mono ?_); rintro e w57 ⟨rfl, hb⟩; refine ⟨_, rfl, ?_⟩; have n0_ := Aside0.mk (blk_below (g := gb446) (o := .cells #[.int .u32 a0_0, .int .i64 a0_1, .int .u32 a0_2, .int .i64 a0_3, .int .i64 a0_4, .int .u16 a0_5, .int .u16 a0_6, .int .u16 a0_7, .int .u16 a0_8] 77 (0, 0)) (by (with_reducible repeat (first | refine blk_drewN ?_ _ | refine blk_drew ?_ | refine blk_alloc ?_ _)); refine blk_far ?_ NB446_484.out _; (with_reducible repeat (first | refine blk_drewN ?_ _ | refine blk_drew ?_ | refine blk_alloc ?_ _)); refine blk_far ?_ NB446_484.out _; (with_reducible repeat (first | refine blk_drewN ?_ _ | refine blk_drew ?_ | refine blk_alloc ?_ _)); refine blk_far ?_ NB446_484.out _; (with_reducible repeat (first | refine blk_drewN ?_ _ | refine blk_drew ?_ | refine blk_alloc ?_ _)); refine blk_far ?_ NB446_484.out _; (with_reducible repeat (first | refine blk_drewN ?_ _ | refine blk_drew ?_ | refine blk_alloc ?_ _)); refine blk_far ?_ NB446_484.out _; (with_reducible repeat (first | refine blk_drewN ?_ _ | refine blk_drew ?_ | refine blk_alloc ?_ _)); refine blk_far ?_ NB446_484.out _; (with_reducible repeat (first | refine blk_drewN ?_ _ | refine blk_drew ?_ | refine blk_alloc ?_ _)); refine blk_far ?_ NB446_484.out _; (with_reducible repeat (first | refine blk_drewN ?_ _ | refine blk_drew ?_ | refine blk_alloc ?_ _)); refine blk_far ?_ NB446_484.out _; (with_reducible repeat (first | refine blk_drewN ?_ _ | refine blk_drew ?_ | refine blk_alloc ?_ _)); refine blk_far ?_ NB446_484.out _; (with_reducible repeat (first | refine blk_drewN ?_ _ | refine blk_drew ?_ | refine blk_alloc ?_ _)); exact BK446.out) hb); have n1_ := Aside0.mk (blk_below (g := gb458) (o := .cells #[.int .u32 t448, .int .i64 t449, .int .u32 t450, .int .i64 t451, .int .i64 t452, .int .u16 t453, .int .u16 t454, .int .u16 t455, .int .u16 t456] 77 (0, 0)) (by (with_reducible repeat (first | refine blk_drewN ?_ _ | refine blk_drew ?_ | refine blk_alloc ?_ _)); refine blk_far ?_ NB458_484.out _; (with_reducible repeat (first | refine blk_drewN ?_ _ | refine blk_drew ?_ | refine blk_alloc ?_ _)); refine blk_far ?_ NB458_484.out _; (with_reducible repeat (first | refine blk_drewN ?_ _ | refine blk_drew ?_ | refine blk_alloc ?_ _)); refine blk_far ?_ NB458_484.out _; (with_reducible repeat (first | refine blk_drewN ?_ _ | refine blk_drew ?_ | refine blk_alloc ?_ _)); refine blk_far ?_ NB458_484.out _; (with_reducible repeat (first | refine blk_drewN ?_ _ | refine blk_drew ?_ | refine blk_alloc ?_ _)); refine blk_far ?_ NB458_484.out _; (with_reducible repeat (first | refine blk_drewN ?_ _ | refine blk_drew ?_ | refine blk_alloc ?_ _)); refine blk_far ?_ NB458_484.out _; (with_reducible repeat (first | refine blk_drewN ?_ _ | refine blk_drew ?_ | refine blk_alloc ?_ _)); refine blk_far ?_ NB458_484.out _; (with_reducible repeat (first | refine blk_drewN ?_ _ | refine blk_drew ?_ | refine blk_alloc ?_ _)); refine blk_far ?_ NB458_484.out _; (with_reducible repeat (first | refine blk_drewN ?_ _ | refine blk_drew ?_ | refine blk_alloc ?_ _)); refine blk_far ?_ NB458_484.out _; (with_reducible repeat (first | refine blk_drewN ?_ _ | refine blk_drew ?_ | refine blk_alloc ?_ _)); exact BK458.out) hb); have n2_ := Aside0.mk (blk_below (g := gb469) (o := .cells #[.int .u32 t459, .int .i64 t460, .int .u32 t461, .int .i64 t462, .int .i64 t463, .int .u16 t464, .int .u16 t465, .int .u16 t466, .int .u16 t467] 77 (0, 0)) (by (with_reducible repeat (first | refine blk_drewN ?_ _ | refine blk_drew ?_ | refine blk_alloc ?_ _)); refine blk_far ?_ NB469_484.out _; (with_reducible repeat (first | refine blk_drewN ?_ _ | refine blk_drew ?_ | refine blk_alloc ?_ _)); refine blk_far ?_ NB469_484.out _; (with_reducible repeat (first | refine blk_drewN ?_ _ | refine blk_drew ?_ | refine blk_alloc ?_ _)); refine blk_far ?_ NB469_484.out _; (with_reducible repeat (first | refine blk_drewN ?_ _ | refine blk_drew ?_ | refine blk_alloc ?_ _)); refine blk_far ?_ NB469_484.out _; (with_reducible repeat (first | refine blk_drewN ?_ _ | refine blk_drew ?_ | refine blk_alloc ?_ _)); refine blk_far ?_ NB469_484.out _; (with_reducible repeat (first | refine blk_drewN ?_ _ | refine blk_drew ?_ | refine blk_alloc ?_ _)); refine blk_far ?_ NB469_484.out _; (with_reducible repeat (first | refine blk_drewN ?_ _ | refine blk_drew ?_ | refine blk_alloc ?_ _)); refine blk_far ?_ NB469_484.out _; (with_reducible repeat (first | refine blk_drewN ?_ _ | refine blk_drew ?_ | refine blk_alloc ?_ _)); refine blk_far ?_ NB469_484.out _; (with_reducible repeat (first | refine blk_drewN ?_ _ | refine blk_drew ?_ | refine blk_alloc ?_ _)); refine blk_far ?_ NB469_484.out _; (with_reducible repeat (first | refine blk_drewN ?_ _ | refine blk_drew ?_ | refine blk_alloc ?_ _)); exact BK469.out) hb); have n3_ := Aside0.mk (blk_below (g := gb484) (o := .cells #[.int .u32 t474, .int .i64 t475, .int .u32 t476, .int .i64 t477, .int .i64 t478, .int .u16 t479, .int .u16 t480, .int .u16 t481, .int .u16 t482] 77 (0, 0)) (by (with_reducible repeat (first | refine blk_drewN ?_ _ | refine blk_drew ?_ | refine blk_alloc ?_ _)); refine blk_put (cs := #[.int .u32 t474, .int .i64 t475, .int .u32 t476, .int .i64 t477, .int .i64 t478, .int .u16 t479, .int .u16 t480, .int .u16 t481, .int .u16 0]) ?_ 8 _ rfl; (with_reducible repeat (first | refine blk_drewN ?_ _ | refine blk_drew ?_ | refine blk_alloc ?_ _)); refine blk_put (cs := #[.int .u32 t474, .int .i64 t475, .int .u32 t476, .int .i64 t477, .int .i64 t478, .int .u16 t479, .int .u16 t480, .int .u16 0, .int .u16 0]) ?_ 7 _ rfl; (with_reducible repeat (first | refine blk_drewN ?_ _ | refine blk_drew ?_ | refine blk_alloc ?_ _)); refine blk_put (cs := #[.int .u32 t474, .int .i64 t475, .int .u32 t476, .int .i64 t477, .int .i64 t478, .int .u16 t479, .int .u16 0, .int .u16 0, .int .u16 0]) ?_ 6 _ rfl; (with_reducible repeat (first | refine blk_drewN ?_ _ | refine blk_drew ?_ | refine blk_alloc ?_ _)); refine blk_put (cs := #[.int .u32 t474, .int .i64 t475, .int .u32 t476, .int .i64 t477, .int .i64 t478, .int .u16 0, .int .u16 0, .int .u16 0, .int .u16 0]) ?_ 5 _ rfl; (with_reducible repeat (first | refine blk_drewN ?_ _ | refine blk_drew ?_ | refine blk_alloc ?_ _)); refine blk_put (cs := #[.int .u32 t474, .int .i64 t475, .int .u32 t476, .int .i64 t477, .int .i64 0, .int .u16 0, .int .u16 0, .int .u16 0, .int .u16 0]) ?_ 4 _ rfl; (with_reducible repeat (first | refine blk_drewN ?_ _ | refine blk_drew ?_ | refine blk_alloc ?_ _)); refine blk_put (cs := #[.int .u32 t474, .int .i64 t475, .int .u32 t476, .int .i64 0, .int .i64 0, .int .u16 0, .int .u16 0, .int .u16 0, .int .u16 0]) ?_ 3 _ rfl; (with_reducible repeat (first | refine blk_drewN ?_ _ | refine blk_drew ?_ | refine blk_alloc ?_ _)); refine blk_put (cs := #[.int .u32 t474, .int .i64 t475, .int .u32 0, .int .i64 0, .int .i64 0, .int .u16 0, .int .u16 0, .int .u16 0, .int .u16 0]) ?_ 2 _ rfl; (with_reducible repeat (first | refine blk_drewN ?_ _ | refine blk_drew ?_ | refine blk_alloc ?_ _)); refine blk_put (cs := #[.int .u32 t474, .int .i64 0, .int .u32 0, .int .i64 0, .int .i64 0, .int .u16 0, .int .u16 0, .int .u16 0, .int .u16 0]) ?_ 1 _ rfl; (with_reducible repeat (first | refine blk_drewN ?_ _ | refine blk_drew ?_ | refine blk_alloc ?_ _)); refine blk_put (cs := #[.int .u32 0, .int .i64 0, .int .u32 0, .int .i64 0, .int .i64 0, .int .u16 0, .int .u16 0, .int .u16 0, .int .u16 0]) ?_ 0 _ rfl; (with_reducible repeat (first | refine blk_drewN ?_ _ | refine blk_drew ?_ | refine blk_alloc ?_ _)); exact BK484.out) hb); have n4_ := Aside0.mk (below_step (by repeat (first | (with_reducible first | exact HB.out | apply below_alloc | apply pw_below_drewN | apply below_drew1 | refine below_set ?_ GE446.out | refine below_set ?_ GE458.out | refine below_set ?_ GE469.out | refine below_set ?_ GE484.out) | exact HB.out)) hb); clear BK446; clear BK458; clear BK469; clear BK484; clear HB; have BK446 := n0_; have BK458 := n1_; have BK469 := n2_; have BK484 := n3_; have HB := n4_; clear n0_ n1_ n2_ n3_ n4_; (try clear hb); (try clear hb2); (try clear hk); (try clear hi); have hcz58_0 : w57.cell? ⟨gb446, 0, none⟩ = some (.int .u32 a0_0) := (blk_cell BK446.out 0).trans rfl; have hcz58_1 : w57.cell? ⟨gb446, 1, none⟩ = some (.int .i64 a0_1) := (blk_cell BK446.out 1).trans rfl; have hcz58_2 : w57.cell? ⟨gb446, 2, none⟩ = some (.int .u32 a0_2) := (blk_cell BK446.out 2).trans rfl; have hcz58_3 : w57.cell? ⟨gb446, 3, none⟩ = some (.int .i64 a0_3) := (blk_cell BK446.out 3).trans rfl; have hcz58_4 : w57.cell? ⟨gb446, 4, none⟩ = some (.int .i64 a0_4) := (blk_cell BK446.out 4).trans rfl; have hcz58_5 : w57.cell? ⟨gb446, 5, none⟩ = some (.int .u16 a0_5) := (blk_cell BK446.out 5).trans rfl; have hcz58_6 : w57.cell? ⟨gb446, 6, none⟩ = some (.int .u16 a0_6) := (blk_cell BK446.out 6).trans rfl; have hcz58_7 : w57.cell? ⟨gb446, 7, none⟩ = some (.int .u16 a0_7) := (blk_cell BK446.out 7).trans rfl; have hcz58_8 : w57.cell? ⟨gb446, 8, none⟩ = some (.int .u16 a0_8) := (blk_cell BK446.out 8).trans rfl; have hfz58_0 := blk_frozen BK446.out 0; have hfz58_1 := blk_frozen BK446.out 1; have hfz58_2 := blk_frozen BK446.out 2; have hfz58_3 := blk_frozen BK446.out 3; have hfz58_4 := blk_frozen BK446.out 4; have hfz58_5 := blk_frozen BK446.out 5; have hfz58_6 := blk_frozen BK446.out 6; have hfz58_7 := blk_frozen BK446.out 7; have hfz58_8 := blk_frozen BK446.out 8) | (go_at_call 67; (with_reducible refine (crossbuckref04_Print.calls kj8 a0_0 a0_1 a0_2 a0_3 a0_4 a0_5 a0_6 a0_7 a0_8 t486 _ A42.out).mono ?_); rintro e w59 ⟨rfl, hb⟩; have n0_ := Aside0.mk (blk_below (g := gb446) (o := .cells #[.int .u32 a0_0, .int .i64 a0_1, .int .u32 a0_2, .int .i64 a0_3, .int .i64 a0_4, .int .u16 a0_5, .int .u16 a0_6, .int .u16 a0_7, .int .u16 a0_8] 77 (0, 0)) (by (with_reducible repeat (first | refine blk_drewN ?_ _ | refine blk_drew ?_ | refine blk_alloc ?_ _)); exact BK446.out) hb); have n1_ := Aside0.mk (blk_below (g := gb458) (o := .cells #[.int .u32 t448, .int .i64 t449, .int .u32 t450, .int .i64 t451, .int .i64 t452, .int .u16 t453, .int .u16 t454, .int .u16 t455, .int .u16 t456] 77 (0, 0)) (by (with_reducible repeat (first | refine blk_drewN ?_ _ | refine blk_drew ?_ | refine blk_alloc ?_ _)); exact BK458.out) hb); have n2_ := Aside0.mk (blk_below (g := gb469) (o := .cells #[.int .u32 t459, .int .i64 t460, .int .u32 t461, .int .i64 t462, .int .i64 t463, .int .u16 t464, .int .u16 t465, .int .u16 t466, .int .u16 t467] 77 (0, 0)) (by (with_reducible repeat (first | refine blk_drewN ?_ _ | refine blk_drew ?_ | refine blk_alloc ?_ _)); exact BK469.out) hb); have n3_ := Aside0.mk (blk_below (g := gb484) (o := .cells #[.int .u32 t474, .int .i64 t475, .int .u32 t476, .int .i64 t477, .int .i64 t478, .int .u16 t479, .int .u16 t480, .int .u16 t481, .int .u16 t482] 77 (0, 0)) (by (with_reducible repeat (first | refine blk_drewN ?_ _ | refine blk_drew ?_ | refine blk_alloc ?_ _)); exact BK484.out) hb); have n4_ := Aside0.mk (below_step (by repeat (first | (with_reducible first | exact HB.out | apply below_alloc | apply pw_below_drewN | apply below_drew1 | refine below_set ?_ GE446.out | refine below_set ?_ GE458.out | refine below_set ?_ GE469.out | refine below_set ?_ GE484.out) | exact HB.out)) hb); clear BK446; clear BK458; clear BK469; clear BK484; clear HB; have BK446 := n0_; have BK458 := n1_; have BK469 := n2_; have BK484 := n3_; have HB := n4_; clear n0_ n1_ n2_ n3_ n4_; (try clear hb); (try clear hb2); (try clear hk); (try clear hi); have hcz60_0 : w59.cell? ⟨gb484, 0, none⟩ = some (.int .u32 t474) := (blk_cell BK484.out 0).trans rfl; have hcz60_1 : w59.cell? ⟨gb484, 1, none⟩ = some (.int .i64 t475) := (blk_cell BK484.out 1).trans rfl; have hcz60_2 : w59.cell? ⟨gb484, 2, none⟩ = some (.int .u32 t476) := (blk_cell BK484.out 2).trans rfl; have hcz60_3 : w59.cell? ⟨gb484, 3, none⟩ = some (.int .i64 t477) := (blk_cell BK484.out 3).trans rfl; have hcz60_4 : w59.cell? ⟨gb484, 4, none⟩ = some (.int .i64 t478) := (blk_cell BK484.out 4).trans rfl; have hcz60_5 : w59.cell? ⟨gb484, 5, none⟩ = some (.int .u16 t479) := (blk_cell BK484.out 5).trans rfl; have hcz60_6 : w59.cell? ⟨gb484, 6, none⟩ = some (.int .u16 t480) := (blk_cell BK484.out 6).trans rfl; have hcz60_7 : w59.cell? ⟨gb484, 7, none⟩ = some (.int .u16 t481) := (blk_cell BK484.out 7).trans rfl; have hcz60_8 : w59.cell? ⟨gb484, 8, none⟩ = some (.int .u16 t482) := (blk_cell BK484.out 8).trans rfl; have hfz60_0 := blk_frozen BK484.out 0; have hfz60_1 := blk_frozen BK484.out 1; have hfz60_2 := blk_frozen BK484.out 2; have hfz60_3 := blk_frozen BK484.out 3; have hfz60_4 := blk_frozen BK484.out 4; have hfz60_5 := blk_frozen BK484.out 5; have hfz60_6 := blk_frozen BK484.out 6; have hfz60_7 := blk_frozen BK484.out 7; have hfz60_8 := blk_frozen BK484.out 8; have hcz61_0 : w59.cell? ⟨gb446, 0, none⟩ = some (.int .u32 a0_0) := (blk_cell BK446.out 0).trans rfl; have hcz61_1 : w59.cell? ⟨gb446, 1, none⟩ = some (.int .i64 a0_1) := (blk_cell BK446.out 1).trans rfl; have hcz61_2 : w59.cell? ⟨gb446, 2, none⟩ = some (.int .u32 a0_2) := (blk_cell BK446.out 2).trans rfl; have hcz61_3 : w59.cell? ⟨gb446, 3, none⟩ = some (.int .i64 a0_3) := (blk_cell BK446.out 3).trans rfl; have hcz61_4 : w59.cell? ⟨gb446, 4, none⟩ = some (.int .i64 a0_4) := (blk_cell BK446.out 4).trans rfl; have hcz61_5 : w59.cell? ⟨gb446, 5, none⟩ = some (.int .u16 a0_5) := (blk_cell BK446.out 5).trans rfl; have hcz61_6 : w59.cell? ⟨gb446, 6, none⟩ = some (.int .u16 a0_6) := (blk_cell BK446.out 6).trans rfl; have hcz61_7 : w59.cell? ⟨gb446, 7, none⟩ = some (.int .u16 a0_7) := (blk_cell BK446.out 7).trans rfl; have hcz61_8 : w59.cell? ⟨gb446, 8, none⟩ = some (.int .u16 a0_8) := (blk_cell BK446.out 8).trans rfl; have hfz61_0 := blk_frozen BK446.out 0; have hfz61_1 := blk_frozen BK446.out 1; have hfz61_2 := blk_frozen BK446.out 2; have hfz61_3 := blk_frozen BK446.out 3; have hfz61_4 := blk_frozen BK446.out 4; have hfz61_5 := blk_frozen BK446.out 5; have hfz61_6 := blk_frozen BK446.out 6; have hfz61_7 := blk_frozen BK446.out 7; have hfz61_8 := blk_frozen BK446.out 8))
         go_ret
         exact ⟨by first | rfl | (simp [errW_none, errW_some] <;> rfl) | (simp [*, errW_none, errW_some] <;> rfl), by repeat (first | (with_reducible first | exact HB.out | apply below_alloc | apply pw_below_drewN | apply below_drew1 | refine below_set ?_ GE446.out | refine below_set ?_ GE458.out | refine below_set ?_ GE469.out | refine below_set ?_ GE484.out) | exact HB.out)⟩
        ·rw [if_neg c44] at H
         have c44b0 : (t483 == 0) = false := beq_eq_false_iff_ne.mpr c44
         have c44b1 : (t483 != 0) = true := bne_iff_ne.mpr c44
         exact absurd ((Option.some.inj H).trans hT.out) (by decide)
       ·rw [if_neg c43] at H
        have c43b0 : (t473.toList == t486.toList) = false := beq_eq_false_iff_ne.mpr c43
        have c43b1 : (t473.toList != t486.toList) = true := bne_iff_ne.mpr c43
        exact absurd ((Option.some.inj H).trans hT.out) (by decide)
      ·replace c41 := Bool.eq_false_iff.mpr c41
       subst c41
       have H1 : (some false) = some r := by rw [if_neg (show ¬ (false = true) by decide)] at H; exact H
       clear H
       have H := H1
       clear H1
       exact absurd ((Option.some.inj H).trans hT.out) (by decide)
     ·rw [if_neg c37] at H
      have c37b0 : (t471 == 0) = false := beq_eq_false_iff_ne.mpr c37
      have c37b1 : (t471 != 0) = true := bne_iff_ne.mpr c37
      replace H := Option.bind_eq_some_iff.mp H
      obtain ⟨t472, A620, H⟩ := H
      replace H : (some t472) = some r := H
      have A62 := Aside0.mk A620
      clear A620
      obtain rfl := Option.some.inj H
      have hnb63 := NB446_458.out
      have hnc63 := NB458_446.out
      have hnb64 := NB446_469.out
      have hnc64 := NB469_446.out
      have hcz65_0 : wc.cell? ⟨gb446, 0, none⟩ = some (.int .u32 a0_0) := (blk_cell BK446.out 0).trans rfl
      have hcz65_1 : wc.cell? ⟨gb446, 1, none⟩ = some (.int .i64 a0_1) := (blk_cell BK446.out 1).trans rfl
      have hcz65_2 : wc.cell? ⟨gb446, 2, none⟩ = some (.int .u32 a0_2) := (blk_cell BK446.out 2).trans rfl
      have hcz65_3 : wc.cell? ⟨gb446, 3, none⟩ = some (.int .i64 a0_3) := (blk_cell BK446.out 3).trans rfl
      have hcz65_4 : wc.cell? ⟨gb446, 4, none⟩ = some (.int .i64 a0_4) := (blk_cell BK446.out 4).trans rfl
      have hcz65_5 : wc.cell? ⟨gb446, 5, none⟩ = some (.int .u16 a0_5) := (blk_cell BK446.out 5).trans rfl
      have hcz65_6 : wc.cell? ⟨gb446, 6, none⟩ = some (.int .u16 a0_6) := (blk_cell BK446.out 6).trans rfl
      have hcz65_7 : wc.cell? ⟨gb446, 7, none⟩ = some (.int .u16 a0_7) := (blk_cell BK446.out 7).trans rfl
      have hcz65_8 : wc.cell? ⟨gb446, 8, none⟩ = some (.int .u16 a0_8) := (blk_cell BK446.out 8).trans rfl
      have hfz65_0 := blk_frozen BK446.out 0
      have hfz65_1 := blk_frozen BK446.out 1
      have hfz65_2 := blk_frozen BK446.out 2
      have hfz65_3 := blk_frozen BK446.out 3
      have hfz65_4 := blk_frozen BK446.out 4
      have hfz65_5 := blk_frozen BK446.out 5
      have hfz65_6 := blk_frozen BK446.out 6
      have hfz65_7 := blk_frozen BK446.out 7
      have hfz65_8 := blk_frozen BK446.out 8
      go_wp2_with (first | ((with_reducible refine gate_callee (f := 43) rfl ?_); refine goesL_ (some 45) rfl rfl Tryd.func43 (by kernel_rfl) rfl #[.agg #[.int .u32 a0_0, .int .i64 a0_1, .int .u32 a0_2, .int .i64 a0_3, .int .i64 a0_4, .int .u16 a0_5, .int .u16 a0_6, .int .u16 a0_7, .int .u16 a0_8]] rfl (by (try simp only [List.map_toArray, List.map_cons, List.map_nil]); first | done | rfl | (simp only [List.length_drop, List.length_take]; rfl)) ?_; (with_reducible refine (crossbuckref04_Check.calls kj8 a0_0 a0_1 a0_2 a0_3 a0_4 a0_5 a0_6 a0_7 a0_8 t471 _ A36.out).mono ?_); rintro e w66 ⟨rfl, hb⟩; refine ⟨_, rfl, ?_⟩; have n0_ := Aside0.mk (blk_below (g := gb446) (o := .cells #[.int .u32 a0_0, .int .i64 a0_1, .int .u32 a0_2, .int .i64 a0_3, .int .i64 a0_4, .int .u16 a0_5, .int .u16 a0_6, .int .u16 a0_7, .int .u16 a0_8] 77 (0, 0)) (by (with_reducible repeat (first | refine blk_drewN ?_ _ | refine blk_drew ?_ | refine blk_alloc ?_ _)); exact BK446.out) hb); have n1_ := Aside0.mk (blk_below (g := gb458) (o := .cells #[.int .u32 t448, .int .i64 t449, .int .u32 t450, .int .i64 t451, .int .i64 t452, .int .u16 t453, .int .u16 t454, .int .u16 t455, .int .u16 t456] 77 (0, 0)) (by (with_reducible repeat (first | refine blk_drewN ?_ _ | refine blk_drew ?_ | refine blk_alloc ?_ _)); exact BK458.out) hb); have n2_ := Aside0.mk (blk_below (g := gb469) (o := .cells #[.int .u32 t459, .int .i64 t460, .int .u32 t461, .int .i64 t462, .int .i64 t463, .int .u16 t464, .int .u16 t465, .int .u16 t466, .int .u16 t467] 77 (0, 0)) (by (with_reducible repeat (first | refine blk_drewN ?_ _ | refine blk_drew ?_ | refine blk_alloc ?_ _)); exact BK469.out) hb); have n3_ := Aside0.mk (below_step (by repeat (first | (with_reducible first | exact HB.out | apply below_alloc | apply pw_below_drewN | apply below_drew1 | refine below_set ?_ GE446.out | refine below_set ?_ GE458.out | refine below_set ?_ GE469.out) | exact HB.out)) hb); clear BK446; clear BK458; clear BK469; clear HB; have BK446 := n0_; have BK458 := n1_; have BK469 := n2_; have HB := n3_; clear n0_ n1_ n2_ n3_; (try clear hb); (try clear hb2); (try clear hk); (try clear hi)) | ((with_reducible refine gate_callee (f := 46) rfl ?_); refine goesL_ (some 47) rfl rfl Tryd.func46 (by kernel_rfl) rfl #[] rfl (by (try simp only [List.map_toArray, List.map_cons, List.map_nil]); first | done | rfl | (simp only [List.length_drop, List.length_take]; rfl)) ?_; (with_reducible refine (crossbucklaw04_awake.calls kj8  t472 _ (Hand.Good.below true false hGG.out (by repeat (first | (with_reducible first | exact HB.out | apply below_alloc | apply pw_below_drewN | apply below_drew1 | refine below_set ?_ GE446.out | refine below_set ?_ GE458.out | refine below_set ?_ GE469.out) | exact HB.out)) rfl rfl) A62.out).mono ?_); rintro e w67 ⟨rfl, hb⟩; refine ⟨_, rfl, ?_⟩; have n0_ := Aside0.mk (blk_below (g := gb446) (o := .cells #[.int .u32 a0_0, .int .i64 a0_1, .int .u32 a0_2, .int .i64 a0_3, .int .i64 a0_4, .int .u16 a0_5, .int .u16 a0_6, .int .u16 a0_7, .int .u16 a0_8] 77 (0, 0)) (by (with_reducible repeat (first | refine blk_drewN ?_ _ | refine blk_drew ?_ | refine blk_alloc ?_ _)); exact BK446.out) hb); have n1_ := Aside0.mk (blk_below (g := gb458) (o := .cells #[.int .u32 t448, .int .i64 t449, .int .u32 t450, .int .i64 t451, .int .i64 t452, .int .u16 t453, .int .u16 t454, .int .u16 t455, .int .u16 t456] 77 (0, 0)) (by (with_reducible repeat (first | refine blk_drewN ?_ _ | refine blk_drew ?_ | refine blk_alloc ?_ _)); exact BK458.out) hb); have n2_ := Aside0.mk (blk_below (g := gb469) (o := .cells #[.int .u32 t459, .int .i64 t460, .int .u32 t461, .int .i64 t462, .int .i64 t463, .int .u16 t464, .int .u16 t465, .int .u16 t466, .int .u16 t467] 77 (0, 0)) (by (with_reducible repeat (first | refine blk_drewN ?_ _ | refine blk_drew ?_ | refine blk_alloc ?_ _)); exact BK469.out) hb); have n3_ := Aside0.mk (below_step (by repeat (first | (with_reducible first | exact HB.out | apply below_alloc | apply pw_below_drewN | apply below_drew1 | refine below_set ?_ GE446.out | refine below_set ?_ GE458.out | refine below_set ?_ GE469.out) | exact HB.out)) hb); clear BK446; clear BK458; clear BK469; clear HB; have BK446 := n0_; have BK458 := n1_; have BK469 := n2_; have HB := n3_; clear n0_ n1_ n2_ n3_; (try clear hb); (try clear hb2); (try clear hk); (try clear hi)))
      go_ret
      exact ⟨by first | rfl | (simp [errW_none, errW_some] <;> rfl) | (simp [*, errW_none, errW_some] <;> rfl), by repeat (first | (with_reducible first | exact HB.out | apply below_alloc | apply pw_below_drewN | apply below_drew1 | refine below_set ?_ GE446.out | refine below_set ?_ GE458.out | refine below_set ?_ GE469.out) | exact HB.out)⟩

end Go.Proofs.YtloclimoffhbhaaDoor.PFx
