-- Written by wip/myprint.py (this session's own driver); Lean checks it.
-- halved
import Derived.Test.YtbnjbjjbfbbdcaaSq
import Derived.Test.YtbnjbjjbfbbdcaaPCHx0
import Derived.Test.YtbnjbjjbfbbdcaaPCHx3
import Derived.Test.YtbnjbjjbfbbdcaaPCHx5
import Derived.Test.YtbnjbjjbfbbdcaaPCHx7
import Derived.Test.YtbnjbjjbfbbdcaaPCHx8
import Derived.Test.YtbnjbjjbfbbdcaaPCHx9
import Derived.Test.YtbnjbjjbfbbdcaaPCHx10
import Derived.Test.YtbnjbjjbfbbdcaaPCHx11
namespace Go.Proofs.Ytbnjbjjbfbbdcaa.PCH
open Go.RowKit Go.Proofs.YtbnjbjjbfbbdcaaW.PrintWords Go.Proofs.YtbnjbjjbfbbdcaaW.PrintLast Go.Proofs.YtbnjbjjbfbbdcaaW.PrintMore Go.Proofs.YtbnjbjjbfbbdcaaW.PrintSq List
attribute [local go_sem] max2_int min2_int max_two min_two max_three min_three max_four min_four   -- for this text's walks alone
set_option linter.unusedVariables false
set_option linter.unusedSimpArgs false

/-! ### crossbucklaw03_CidrHalves: function 7 -/
mutual
def crossbucklaw03_CidrHalves.j0 : Nat → Int → Bool → Int → Int → Int → Int → Option (Bool)
 | 0, _, _, _, _, _, _ => none
 | k + 1, x2, x21, x127000, x127001, x128000, x128001 => if x21 = true then ((crossbucklaw03_awake.f k).bind fun t130 => (some t130)) else ((cidr_Of.f x127000 (wrap64 (x127001 + 1))).bind fun bt131 => ((cidr_Last.f x127000 x127001).bind fun t133 => ((cidr_Of.f t133 (wrap64 (x127001 + 1))).bind fun bt134 => ((cidr_Meet.f bt131.1 bt131.2 bt134.1 bt134.2).bind fun t138 => (if t138 = true then (crossbucklaw03_CidrHalves.j1 k true x127000 x127001 x128000 x128001 bt131.1 bt131.2 bt134.1 bt134.2) else ((cidr_Within.f bt131.1 bt131.2 x127000 x127001).bind fun t139 => (if t139 = true then ((cidr_Within.f bt134.1 bt134.2 x127000 x127001).bind fun t140 => (if t140 = true then ((cidr_Has.f x127000 x127001 x2).bind fun t141 => ((cidr_Has.f bt131.1 bt131.2 x2).bind fun t142 => ((cidr_Has.f bt134.1 bt134.2 x2).bind fun t143 => (crossbucklaw03_CidrHalves.j1 k (t141 != (t142 != t143)) x127000 x127001 x128000 x128001 bt131.1 bt131.2 bt134.1 bt134.2)))) else (crossbucklaw03_CidrHalves.j1 k true x127000 x127001 x128000 x128001 bt131.1 bt131.2 bt134.1 bt134.2))) else (crossbucklaw03_CidrHalves.j1 k true x127000 x127001 x128000 x128001 bt131.1 bt131.2 bt134.1 bt134.2))))))))
def crossbucklaw03_CidrHalves.j1 : Nat → Bool → Int → Int → Int → Int → Int → Int → Int → Int → Option (Bool)
 | 0, _, _, _, _, _, _, _, _, _ => none
 | k + 1, x62, x127000, x127001, x128000, x128001, x137000, x137001, x138000, x138001 => if x62 = true then (some false) else ((cidr_Last.f x137000 x137001).bind fun t144 => (if t144 = ((x138000 - 1) % 4294967296) then (if x137000 = x127000 then ((cidr_Last.f x138000 x138001).bind fun t145 => ((cidr_Last.f x127000 x127001).bind fun t146 => (crossbucklaw03_CidrHalves.j2 k (t145 != t146) x127000 x127001 x128000 x128001 x137000 x137001 x138000 x138001))) else (crossbucklaw03_CidrHalves.j2 k true x127000 x127001 x128000 x128001 x137000 x137001 x138000 x138001)) else (crossbucklaw03_CidrHalves.j2 k true x127000 x127001 x128000 x128001 x137000 x137001 x138000 x138001)))
def crossbucklaw03_CidrHalves.j2 : Nat → Bool → Int → Int → Int → Int → Int → Int → Int → Int → Option (Bool)
 | 0, _, _, _, _, _, _, _, _, _ => none
 | k + 1, x82, x127000, x127001, x128000, x128001, x137000, x137001, x138000, x138001 => if x82 = true then (some false) else ((crossbucklaw03_awake.f k).bind fun t147 => (if t147 = true then ((cidr_Within.f x127000 x127001 x128000 x128001).bind fun t148 => (if t148 = true then ((cidr_Within.f x137000 x137001 x128000 x128001).bind fun t149 => (if t149 = true then ((cidr_Within.f x138000 x138001 x128000 x128001).bind fun t150 => (if t150 = true then ((cidr_Meet.f x127000 x127001 x128000 x128001).bind fun t151 => ((cidr_Meet.f x137000 x137001 x128000 x128001).bind fun t152 => (if t152 = true then (some (t151 == true)) else ((cidr_Meet.f x138000 x138001 x128000 x128001).bind fun t153 => (some (t151 == t153)))))) else (some false))) else (some false))) else ((cidr_Meet.f x127000 x127001 x128000 x128001).bind fun t154 => ((cidr_Meet.f x137000 x137001 x128000 x128001).bind fun t155 => (if t155 = true then (some (t154 == true)) else ((cidr_Meet.f x138000 x138001 x128000 x128001).bind fun t156 => (some (t154 == t156)))))))) else (some false)))
end
def crossbucklaw03_CidrHalves.f (k : Nat) (a0_0 : Int) (a0_1 : Int) (a1_0 : Int) (a1_1 : Int) (a2 : Int) : Option (Bool) := (crossbuckref03_Right.f k a0_0 a0_1).bind fun t128 => (if t128 = true then ((crossbuckref03_Right.f k a1_0 a1_1).bind fun t129 => (if t129 = true then (crossbucklaw03_CidrHalves.j0 k a2 (a0_1 == 32) a0_0 a0_1 a1_0 a1_1) else (crossbucklaw03_CidrHalves.j0 k a2 true a0_0 a0_1 a1_0 a1_1))) else (crossbucklaw03_CidrHalves.j0 k a2 true a0_0 a0_1 a1_0 a1_1))
theorem crossbucklaw03_CidrHalves.mono_l : ∀ k, (∀ y0 y1 y2 y3 y4 y5, LeO (crossbucklaw03_CidrHalves.j0 k y0 y1 y2 y3 y4 y5) (crossbucklaw03_CidrHalves.j0 (k + 1) y0 y1 y2 y3 y4 y5)) ∧ (∀ y0 y1 y2 y3 y4 y5 y6 y7 y8, LeO (crossbucklaw03_CidrHalves.j1 k y0 y1 y2 y3 y4 y5 y6 y7 y8) (crossbucklaw03_CidrHalves.j1 (k + 1) y0 y1 y2 y3 y4 y5 y6 y7 y8)) ∧ (∀ y0 y1 y2 y3 y4 y5 y6 y7 y8, LeO (crossbucklaw03_CidrHalves.j2 k y0 y1 y2 y3 y4 y5 y6 y7 y8) (crossbucklaw03_CidrHalves.j2 (k + 1) y0 y1 y2 y3 y4 y5 y6 y7 y8))
 | 0 => ⟨fun _ _ _ _ _ _ r h => by simp [crossbucklaw03_CidrHalves.j0] at h, fun _ _ _ _ _ _ _ _ _ r h => by simp [crossbucklaw03_CidrHalves.j1] at h, fun _ _ _ _ _ _ _ _ _ r h => by simp [crossbucklaw03_CidrHalves.j2] at h⟩
 | k + 1 => by
  obtain ⟨ih0, ih1, ih2⟩ := crossbucklaw03_CidrHalves.mono_l k;refine ⟨?_, ?_, ?_⟩
  ·intro y0 y1 y2 y3 y4 y5
   unfold crossbucklaw03_CidrHalves.j0
   repeat' first
   | (with_reducible exact ih0 _ _ _ _ _ _)
   | (with_reducible exact ih1 _ _ _ _ _ _ _ _ _)
   | (with_reducible exact ih2 _ _ _ _ _ _ _ _ _)
   | (with_reducible exact crossbucklaw03_awake.mono _)
   | (with_reducible exact crossbuckref03_Right.mono _ _ _)
   | (with_reducible exact LeO.refl _)
   | (with_reducible exact LeO.none _)
   | (with_reducible refine LeO.ite ?_ ?_)
   | (with_reducible refine LeO.bind ?_ (fun _ => ?_))
   | exact ih0 _ _ _ _ _ _
   | exact ih1 _ _ _ _ _ _ _ _ _
   | exact ih2 _ _ _ _ _ _ _ _ _
   | exact crossbucklaw03_awake.mono _
   | exact crossbuckref03_Right.mono _ _ _
   | exact LeO.none _
   | refine LeO.ite ?_ ?_
   | refine LeO.bind ?_ (fun _ => ?_)
  ·intro y0 y1 y2 y3 y4 y5 y6 y7 y8
   unfold crossbucklaw03_CidrHalves.j1
   repeat' first
   | (with_reducible exact ih0 _ _ _ _ _ _)
   | (with_reducible exact ih1 _ _ _ _ _ _ _ _ _)
   | (with_reducible exact ih2 _ _ _ _ _ _ _ _ _)
   | (with_reducible exact crossbucklaw03_awake.mono _)
   | (with_reducible exact crossbuckref03_Right.mono _ _ _)
   | (with_reducible exact LeO.refl _)
   | (with_reducible exact LeO.none _)
   | (with_reducible refine LeO.ite ?_ ?_)
   | (with_reducible refine LeO.bind ?_ (fun _ => ?_))
   | exact ih0 _ _ _ _ _ _
   | exact ih1 _ _ _ _ _ _ _ _ _
   | exact ih2 _ _ _ _ _ _ _ _ _
   | exact crossbucklaw03_awake.mono _
   | exact crossbuckref03_Right.mono _ _ _
   | exact LeO.none _
   | refine LeO.ite ?_ ?_
   | refine LeO.bind ?_ (fun _ => ?_)
  ·intro y0 y1 y2 y3 y4 y5 y6 y7 y8
   unfold crossbucklaw03_CidrHalves.j2
   repeat' first
   | (with_reducible exact ih0 _ _ _ _ _ _)
   | (with_reducible exact ih1 _ _ _ _ _ _ _ _ _)
   | (with_reducible exact ih2 _ _ _ _ _ _ _ _ _)
   | (with_reducible exact crossbucklaw03_awake.mono _)
   | (with_reducible exact crossbuckref03_Right.mono _ _ _)
   | (with_reducible exact LeO.refl _)
   | (with_reducible exact LeO.none _)
   | (with_reducible refine LeO.ite ?_ ?_)
   | (with_reducible refine LeO.bind ?_ (fun _ => ?_))
   | exact ih0 _ _ _ _ _ _
   | exact ih1 _ _ _ _ _ _ _ _ _
   | exact ih2 _ _ _ _ _ _ _ _ _
   | exact crossbucklaw03_awake.mono _
   | exact crossbuckref03_Right.mono _ _ _
   | exact LeO.none _
   | refine LeO.ite ?_ ?_
   | refine LeO.bind ?_ (fun _ => ?_)
theorem crossbucklaw03_CidrHalves.mono : ∀ a0 a1 a2 a3 a4 k, LeO (crossbucklaw03_CidrHalves.f k a0 a1 a2 a3 a4) (crossbucklaw03_CidrHalves.f (k + 1) a0 a1 a2 a3 a4) := by
 intro a0 a1 a2 a3 a4 k
 obtain ⟨ih0, ih1, ih2⟩ := crossbucklaw03_CidrHalves.mono_l k;unfold crossbucklaw03_CidrHalves.f
 repeat' first
   | (with_reducible exact ih0 _ _ _ _ _ _)
   | (with_reducible exact ih1 _ _ _ _ _ _ _ _ _)
   | (with_reducible exact ih2 _ _ _ _ _ _ _ _ _)
   | (with_reducible exact crossbucklaw03_awake.mono _)
   | (with_reducible exact crossbuckref03_Right.mono _ _ _)
   | (with_reducible exact LeO.refl _)
   | (with_reducible exact LeO.none _)
   | (with_reducible refine LeO.ite ?_ ?_)
   | (with_reducible refine LeO.bind ?_ (fun _ => ?_))
   | exact ih0 _ _ _ _ _ _
   | exact ih1 _ _ _ _ _ _ _ _ _
   | exact ih2 _ _ _ _ _ _ _ _ _
   | exact crossbucklaw03_awake.mono _
   | exact crossbuckref03_Right.mono _ _ _
   | exact LeO.none _
   | refine LeO.ite ?_ ?_
   | refine LeO.bind ?_ (fun _ => ?_)
def crossbucklaw03_CidrHalves.T3 : Bool × List (List Nat × List Nat) := (true, [([], []), ([0], [0]), ([], []), ([2], [2]), ([3], [3]), ([1, 4], [1, 4]), ([], []), ([6, 5], [6]), ([], []), ([8], [8]), ([9], [9]), ([7, 10, 7], [7, 10]), ([], []), ([], []), ([12, 5, 11, 0, 1, 2, 3, 4, 5, 12, 13], [5, 12]), ([13, 11, 14, 0, 1, 2, 3, 4, 5, 6, 7, 8, 9, 10, 11, 12, 13, 14], [11, 13])])
def crossbucklaw03_CidrHalves.B3 : List Nat := [0, 1, 0, 4, 12, 31, 0, 127, 0, 256, 768, 2047, 0, 0, 16383, 32767]
theorem crossbucklaw03_CidrHalves.tab3 : rtab .any (opsOf Try.f7 3) = crossbucklaw03_CidrHalves.T3 := by kernel_rfl
theorem crossbucklaw03_CidrHalves.bits3 : waitsOk crossbucklaw03_CidrHalves.T3.2 crossbucklaw03_CidrHalves.B3 = true := by kernel_rfl
def crossbucklaw03_CidrHalves.T4 : Bool × List (List Nat × List Nat) := (true, [([], []), ([], []), ([0, 1], [0, 1]), ([2, 2], [2]), ([3], [3]), ([3], [3]), ([4, 5, 3, 3], [3, 4, 5]), ([6, 3], [3, 6]), ([3, 7], [3, 7]), ([8, 6], [8]), ([9], [9]), ([9], [9]), ([10, 11, 9, 9], [9, 10, 11]), ([12, 9], [9, 12]), ([9, 13], [9, 13]), ([14, 12], [14]), ([15], [15]), ([15], [15]), ([16, 17, 15, 15], [15, 16, 17]), ([15], [15]), ([15], [15]), ([19, 20, 18, 15], [15, 19, 20]), ([15], [15]), ([15], [15]), ([22, 23, 21, 15], [15, 22, 23]), ([21, 24, 15], [15, 21, 24]), ([18, 25, 15], [15, 18, 25]), ([15, 26], [15, 26])])
def crossbucklaw03_CidrHalves.B4 : List Nat := [0, 0, 3, 7, 15, 15, 63, 127, 255, 511, 1023, 1023, 4095, 8191, 16383, 32767, 65535, 65535, 262143, 65535, 65535, 2097151, 65535, 65535, 16777215, 33554431, 67108863, 134217727]
theorem crossbucklaw03_CidrHalves.tab4 : rtab .any (opsOf Try.f7 4) = crossbucklaw03_CidrHalves.T4 := by kernel_rfl
theorem crossbucklaw03_CidrHalves.bits4 : waitsOk crossbucklaw03_CidrHalves.T4.2 crossbucklaw03_CidrHalves.B4 = true := by kernel_rfl
def crossbucklaw03_CidrHalves.T6 : Bool × List (List Nat × List Nat) := (true, [([], []), ([0], [0]), ([], []), ([2], [2]), ([3], [3]), ([1, 4], [1, 4]), ([5, 1], [5]), ([6], [6]), ([7, 6], [6, 7]), ([6], [6]), ([9, 6], [6, 9]), ([8, 10, 6], [6, 8, 10]), ([6, 11], [6, 11]), ([12, 6], [12]), ([13], [13]), ([14, 13, 13], [13, 14]), ([13], [13]), ([16, 15, 13], [13, 16]), ([15, 17, 13], [13, 15, 17]), ([13, 18], [13, 18])])
def crossbucklaw03_CidrHalves.B6 : List Nat := [0, 1, 0, 4, 12, 31, 63, 127, 255, 127, 639, 2047, 4095, 8191, 16383, 32767, 16383, 131071, 262143, 524287]
theorem crossbucklaw03_CidrHalves.tab6 : rtab .any (opsOf Try.f7 6) = crossbucklaw03_CidrHalves.T6 := by kernel_rfl
theorem crossbucklaw03_CidrHalves.bits6 : waitsOk crossbucklaw03_CidrHalves.T6.2 crossbucklaw03_CidrHalves.B6 = true := by kernel_rfl
def crossbucklaw03_CidrHalves.T8 : Bool × List (List Nat × List Nat) := (true, [([], []), ([0, 0], [0]), ([1], [1]), ([1], [1]), ([2, 3, 1, 1], [1, 2, 3]), ([4, 1], [1, 4]), ([5, 4, 1], [1, 5]), ([6], [6]), ([6], [6]), ([7, 8, 6, 6], [6, 7, 8]), ([9, 9, 6], [6, 9]), ([10], [10]), ([10], [10]), ([11, 12, 10, 10], [10, 11, 12]), ([10, 13, 6], [6, 10, 13]), ([6, 14, 1], [1, 6, 14]), ([1, 15], [1, 15]), ([16, 13], [16]), ([17], [17]), ([17], [17]), ([18, 19, 17, 17], [17, 18, 19]), ([17], [17]), ([17], [17]), ([21, 22, 20, 17], [17, 21, 22]), ([23, 23, 17], [17, 23]), ([24], [24]), ([24], [24]), ([25, 26, 24, 24], [24, 25, 26]), ([24, 27, 17], [17, 24, 27]), ([20, 28, 17], [17, 20, 28]), ([17, 29], [17, 29]), ([30, 27, 0, 1, 2, 3, 4, 5, 6, 7, 8, 9, 10, 11, 12, 13, 14, 15, 16, 17, 18, 19, 20, 21, 22, 23, 24, 25, 26, 27, 28, 29, 30], [30])])
def crossbucklaw03_CidrHalves.B8 : List Nat := [0, 1, 3, 3, 15, 31, 63, 127, 127, 511, 1023, 2047, 2047, 8191, 16383, 32767, 65535, 131071, 262143, 262143, 1048575, 262143, 262143, 8388607, 16777215, 33554431, 33554431, 134217727, 268435455, 536870911, 1073741823, 2147483647]
theorem crossbucklaw03_CidrHalves.tab8 : rtab .any (opsOf Try.f7 8) = crossbucklaw03_CidrHalves.T8 := by kernel_rfl
theorem crossbucklaw03_CidrHalves.bits8 : waitsOk crossbucklaw03_CidrHalves.T8.2 crossbucklaw03_CidrHalves.B8 = true := by kernel_rfl
set_option maxHeartbeats 8000000 in
set_option maxRecDepth 100000 in
theorem crossbucklaw03_CidrHalves.calls (k : Nat) (a0_0 : Int) (a0_1 : Int) (a1_0 : Int) (a1_1 : Int) (a2 : Int) (r : Bool) (w : World) (h : crossbucklaw03_CidrHalves.f k a0_0 a0_1 a1_0 a1_1 a2 = some r) (hT : Aside0 (r = true)) :
  Calls Try.prog 7 #[.agg #[.int .u32 a0_0, .int .i64 a0_1], .agg #[.int .u32 a1_0, .int .i64 a1_1], .int .u32 a2] w fun e w' => e = .returned (.bool r) ∧ Below w.heap.size w w' := by
 have hu37 := Try.underlying37;have HB := Aside0.mk (Below.refl w.heap.size w)
 have H : ((crossbuckref03_Right.f k a0_0 a0_1).bind fun t128 => (if t128 = true then ((crossbuckref03_Right.f k a1_0 a1_1).bind fun t129 => (if t129 = true then (crossbucklaw03_CidrHalves.j0 k a2 (a0_1 == 32) a0_0 a0_1 a1_0 a1_1) else (crossbucklaw03_CidrHalves.j0 k a2 true a0_0 a0_1 a1_0 a1_1))) else (crossbucklaw03_CidrHalves.j0 k a2 true a0_0 a0_1 a1_0 a1_1))) = some r := h
 clear h;have HC4 := Aside0.mk H;clear H;go_enter Try.func7, Try.ntmps7
 go_upto_region 1 with (first | ((with_reducible refine gate_dst (N := 3) rfl ?_); refine box_event ?hg (N := 3) ?hd (cs := #[.int .u32 a0_0, .int .i64 a0_1]) (t := 37) ?hr ?_; (case hd => rfl); (case hg => rfl); (case hr => first | (go_simp; done) | (go_simp; rfl)); intro gb126 hg w5 hbox hb; have n0_ := Aside0.mk (below_step (by repeat (first | (with_reducible first | exact HB.out | apply below_alloc | apply pw_below_drewN | apply below_drew1) | exact HB.out)) hb); have n1_ := Aside0.mk (hbox); have n2_ := Aside0.mk ((by rw [hg]; exact (below_size (by repeat (first | (with_reducible first | exact HB.out | apply below_alloc | apply pw_below_drewN | apply below_drew1) | exact HB.out))) : w.heap.size ≤ gb126)); have n3_ := Aside0.mk ((by rw [hg]; exact (below_size (by repeat (first | (with_reducible first | exact HB.out | apply below_alloc | apply pw_below_drewN | apply below_drew1) | exact HB.out))) : w.heap.size ≤ gb126)); clear HB; have HB := n0_; have BK126 := n1_; have GW126 := n2_; have GE126 := n3_; clear n0_ n1_ n2_ n3_; clear hb hbox hg) | ((with_reducible refine gate_dst (N := 4) rfl ?_); refine box_event ?hg (N := 4) ?hd (cs := #[.int .u32 a1_0, .int .i64 a1_1]) (t := 37) ?hr ?_; (case hd => rfl); (case hg => rfl); (case hr => first | (go_simp; done) | (go_simp; rfl)); intro gb127 hg w6 hbox hb; have n0_ := Aside0.mk (bb BK126.out hb); have n1_ := Aside0.mk (below_step (by repeat (first | (with_reducible first | exact HB.out | apply below_alloc | apply pw_below_drewN | apply below_drew1 | refine below_set ?_ GE126.out) | exact HB.out)) hb); have n2_ := Aside0.mk (hbox); have n3_ := Aside0.mk ((by rw [hg]; exact (below_size (by repeat (first | (with_reducible first | exact HB.out | apply below_alloc | apply pw_below_drewN | apply below_drew1 | refine below_set ?_ GE126.out) | exact HB.out))) : w.heap.size ≤ gb127)); have n4_ := Aside0.mk ((by rw [hg]; exact (below_size (by repeat (first | (with_reducible first | exact HB.out | apply below_alloc | apply pw_below_drewN | apply below_drew1 | refine below_set ?_ GE126.out) | exact HB.out))) : w.heap.size ≤ gb127)); have n5_ := Aside0.mk ((ne1 BK126.out hg : gb126 ≠ gb127)); have n6_ := Aside0.mk ((ne2 BK126.out hg : gb127 ≠ gb126)); clear BK126; clear HB; have BK126 := n0_; have HB := n1_; have BK127 := n2_; have GW127 := n3_; have GE127 := n4_; have NB126_127 := n5_; have NB127_126 := n6_; clear n0_ n1_ n2_ n3_ n4_ n5_ n6_; clear hb hbox hg))
 (try simp only [Act.put, setIfInBounds_toArray, set_cons_zero, set_cons_succ])
 go_cut [21] (fun v21 wc => ∃ (kq : Nat) (x21_3 : Bool), v21 = .bool x21_3 ∧ Aside0 (crossbucklaw03_CidrHalves.j0 kq a2 x21_3 a0_0 a0_1 a1_0 a1_1 = some r) ∧ Aside0 (kq ≤ k) ∧ Aside0 (wc.heap[gb126]? = some (.cells #[.int .u32 a0_0, .int .i64 a0_1] 37 (0, 0))) ∧ Aside0 (wc.heap[gb127]? = some (.cells #[.int .u32 a1_0, .int .i64 a1_1] 37 (0, 0))) ∧ Aside0 (Below w.heap.size w wc))
 case first =>
  have H := HC4.out;clear HC4;replace H := Option.bind_eq_some_iff.mp H;obtain ⟨t128, A70, H⟩ := H
  replace H : (if t128 = true then ((crossbuckref03_Right.f k a1_0 a1_1).bind fun t129 => (if t129 = true then (crossbucklaw03_CidrHalves.j0 k a2 (a0_1 == 32) a0_0 a0_1 a1_0 a1_1) else (crossbucklaw03_CidrHalves.j0 k a2 true a0_0 a0_1 a1_0 a1_1))) else (crossbucklaw03_CidrHalves.j0 k a2 true a0_0 a0_1 a1_0 a1_1)) = some r := H
  have A7 := Aside0.mk A70;clear A70
  by_cases c8 : t128 = true
  ·subst c8
   have H1 : ((crossbuckref03_Right.f k a1_0 a1_1).bind fun t129 => (if t129 = true then (crossbucklaw03_CidrHalves.j0 k a2 (a0_1 == 32) a0_0 a0_1 a1_0 a1_1) else (crossbucklaw03_CidrHalves.j0 k a2 true a0_0 a0_1 a1_0 a1_1))) = some r := by rw [if_pos rfl] at H; exact H
   clear H;have H := H1;clear H1;replace H := Option.bind_eq_some_iff.mp H;obtain ⟨t129, A90, H⟩ := H;replace H : (if t129 = true then (crossbucklaw03_CidrHalves.j0 k a2 (a0_1 == 32) a0_0 a0_1 a1_0 a1_1) else (crossbucklaw03_CidrHalves.j0 k a2 true a0_0 a0_1 a1_0 a1_1)) = some r := H;have A9 := Aside0.mk A90;clear A90
   by_cases c10 : t129 = true
   ·subst c10
    have H1 : (crossbucklaw03_CidrHalves.j0 k a2 (a0_1 == 32) a0_0 a0_1 a1_0 a1_1) = some r := by rw [if_pos rfl] at H; exact H
    clear H;have H := H1;clear H1;have H' := Aside0.mk H;clear H;have hnb11 := NB126_127.out;have hnc11 := NB127_126.out;have hcz12 := cz2 BK126.out
    go_wp2_with (first | ((with_reducible refine gate_callee (f := 20) rfl ?_); refine goesL_ (some 10) rfl rfl Try.func20 (by kernel_rfl) rfl #[.agg #[.int .u32 a0_0, .int .i64 a0_1]] rfl (by (try simp only [List.map_toArray, List.map_cons, List.map_nil]); first | done | rfl | (simp only [List.length_drop, List.length_take]; rfl)) ?_; (with_reducible refine (crossbuckref03_Right.calls k a0_0 a0_1 true _ A7.out).mono ?_); rintro e w13 ⟨rfl, hb⟩; refine ⟨_, rfl, ?_⟩; have n0_ := Aside0.mk (bb BK126.out hb); have n1_ := Aside0.mk (bb BK127.out hb); have n2_ := Aside0.mk (below_step (by repeat (first | (with_reducible first | exact HB.out | apply below_alloc | apply pw_below_drewN | apply below_drew1 | refine below_set ?_ GE126.out | refine below_set ?_ GE127.out) | exact HB.out)) hb); clear BK126; clear BK127; clear HB; have BK126 := n0_; have BK127 := n1_; have HB := n2_; clear n0_ n1_ n2_; (try clear hb); (try clear hb2); (try clear hk); (try clear hi); have hcz14 := cz2 BK127.out) | (go_at_call 20; (with_reducible refine (crossbuckref03_Right.calls k a1_0 a1_1 true _ A9.out).mono ?_); rintro e w15 ⟨rfl, hb⟩; have n0_ := Aside0.mk (bb BK126.out hb); have n1_ := Aside0.mk (bb BK127.out hb); have n2_ := Aside0.mk (below_step (by repeat (first | (with_reducible first | exact HB.out | apply below_alloc | apply pw_below_drewN | apply below_drew1 | refine below_set ?_ GE126.out | refine below_set ?_ GE127.out) | exact HB.out)) hb); clear BK126; clear BK127; clear HB; have BK126 := n0_; have BK127 := n1_; have HB := n2_; clear n0_ n1_ n2_; (try clear hb); (try clear hb2); (try clear hk); (try clear hi); have hcz16 := cz2 BK126.out))
    go_meet
    case rel => exact ⟨_, ((a0_1 == 32)), (by first | rfl | (simp; done) | (simp [*]; done)), H', ⟨by first | omega | exact Nat.le_refl _⟩, ⟨by (with_reducible repeat (first | refine blk_drewN ?_ _ | refine blk_drew ?_ | refine blk_alloc ?_ _)); exact BK126.out⟩, ⟨by (with_reducible repeat (first | refine blk_drewN ?_ _ | refine blk_drew ?_ | refine blk_alloc ?_ _)); exact BK127.out⟩, ⟨by repeat (first | (with_reducible first | exact HB.out | apply below_alloc | apply pw_below_drewN | apply below_drew1 | refine below_set ?_ GE126.out | refine below_set ?_ GE127.out) | exact HB.out)⟩⟩
   ·replace c10 := Bool.eq_false_iff.mpr c10
    subst c10
    have H1 : (crossbucklaw03_CidrHalves.j0 k a2 true a0_0 a0_1 a1_0 a1_1) = some r := by rw [if_neg (show ¬ (false = true) by decide)] at H; exact H
    clear H;have H := H1;clear H1;have H' := Aside0.mk H;clear H;have hnb17 := NB126_127.out;have hnc17 := NB127_126.out;have hcz18 := cz2 BK126.out
    go_wp2_with (first | ((with_reducible refine gate_callee (f := 20) rfl ?_); refine goesL_ (some 10) rfl rfl Try.func20 (by kernel_rfl) rfl #[.agg #[.int .u32 a0_0, .int .i64 a0_1]] rfl (by (try simp only [List.map_toArray, List.map_cons, List.map_nil]); first | done | rfl | (simp only [List.length_drop, List.length_take]; rfl)) ?_; (with_reducible refine (crossbuckref03_Right.calls k a0_0 a0_1 true _ A7.out).mono ?_); rintro e w19 ⟨rfl, hb⟩; refine ⟨_, rfl, ?_⟩; have n0_ := Aside0.mk (bb BK126.out hb); have n1_ := Aside0.mk (bb BK127.out hb); have n2_ := Aside0.mk (below_step (by repeat (first | (with_reducible first | exact HB.out | apply below_alloc | apply pw_below_drewN | apply below_drew1 | refine below_set ?_ GE126.out | refine below_set ?_ GE127.out) | exact HB.out)) hb); clear BK126; clear BK127; clear HB; have BK126 := n0_; have BK127 := n1_; have HB := n2_; clear n0_ n1_ n2_; (try clear hb); (try clear hb2); (try clear hk); (try clear hi); have hcz20 := cz2 BK127.out) | (go_at_call 20; (with_reducible refine (crossbuckref03_Right.calls k a1_0 a1_1 false _ A9.out).mono ?_); rintro e w21 ⟨rfl, hb⟩; have n0_ := Aside0.mk (bb BK126.out hb); have n1_ := Aside0.mk (bb BK127.out hb); have n2_ := Aside0.mk (below_step (by repeat (first | (with_reducible first | exact HB.out | apply below_alloc | apply pw_below_drewN | apply below_drew1 | refine below_set ?_ GE126.out | refine below_set ?_ GE127.out) | exact HB.out)) hb); clear BK126; clear BK127; clear HB; have BK126 := n0_; have BK127 := n1_; have HB := n2_; clear n0_ n1_ n2_; (try clear hb); (try clear hb2); (try clear hk); (try clear hi)))
    go_meet
    case rel => exact ⟨_, (true), (by first | rfl | (simp; done) | (simp [*]; done)), H', ⟨by first | omega | exact Nat.le_refl _⟩, ⟨by (with_reducible repeat (first | refine blk_drewN ?_ _ | refine blk_drew ?_ | refine blk_alloc ?_ _)); exact BK126.out⟩, ⟨by (with_reducible repeat (first | refine blk_drewN ?_ _ | refine blk_drew ?_ | refine blk_alloc ?_ _)); exact BK127.out⟩, ⟨by repeat (first | (with_reducible first | exact HB.out | apply below_alloc | apply pw_below_drewN | apply below_drew1 | refine below_set ?_ GE126.out | refine below_set ?_ GE127.out) | exact HB.out)⟩⟩
  ·replace c8 := Bool.eq_false_iff.mpr c8
   subst c8
   have H1 : (crossbucklaw03_CidrHalves.j0 k a2 true a0_0 a0_1 a1_0 a1_1) = some r := by rw [if_neg (show ¬ (false = true) by decide)] at H; exact H
   clear H;have H := H1;clear H1;have H' := Aside0.mk H;clear H;have hnb22 := NB126_127.out;have hnc22 := NB127_126.out;have hcz23 := cz2 BK126.out
   go_wp2_with (first | ((with_reducible refine gate_callee (f := 20) rfl ?_); refine goesL_ (some 10) rfl rfl Try.func20 (by kernel_rfl) rfl #[.agg #[.int .u32 a0_0, .int .i64 a0_1]] rfl (by (try simp only [List.map_toArray, List.map_cons, List.map_nil]); first | done | rfl | (simp only [List.length_drop, List.length_take]; rfl)) ?_; (with_reducible refine (crossbuckref03_Right.calls k a0_0 a0_1 false _ A7.out).mono ?_); rintro e w24 ⟨rfl, hb⟩; refine ⟨_, rfl, ?_⟩; have n0_ := Aside0.mk (bb BK126.out hb); have n1_ := Aside0.mk (bb BK127.out hb); have n2_ := Aside0.mk (below_step (by repeat (first | (with_reducible first | exact HB.out | apply below_alloc | apply pw_below_drewN | apply below_drew1 | refine below_set ?_ GE126.out | refine below_set ?_ GE127.out) | exact HB.out)) hb); clear BK126; clear BK127; clear HB; have BK126 := n0_; have BK127 := n1_; have HB := n2_; clear n0_ n1_ n2_; (try clear hb); (try clear hb2); (try clear hk); (try clear hi)))
   go_meet
   case rel => exact ⟨_, (true), (by first | rfl | (simp; done) | (simp [*]; done)), H', ⟨by first | omega | exact Nat.le_refl _⟩, ⟨by (with_reducible repeat (first | refine blk_drewN ?_ _ | refine blk_drew ?_ | refine blk_alloc ?_ _)); exact BK126.out⟩, ⟨by (with_reducible repeat (first | refine blk_drewN ?_ _ | refine blk_drew ?_ | refine blk_alloc ?_ _)); exact BK127.out⟩, ⟨by repeat (first | (with_reducible first | exact HB.out | apply below_alloc | apply pw_below_drewN | apply below_drew1 | refine below_set ?_ GE126.out | refine below_set ?_ GE127.out) | exact HB.out)⟩⟩
 case rest =>
  clear HC4
  try clear c1
  try clear c2
  try clear p2
  try clear c7
  try clear c8
  try clear c10
  try clear c11
  try clear c17
  try clear c20
  try clear c22
  try clear hcz12
  try clear hcz14
  try clear hcz16
  try clear hcz18
  try clear hcz20
  try clear hcz23
  obtain ⟨kq, x21_3, rfl, HA, HJ3, BK126, BK127, HB⟩ := hcut
  cases kq with
  | zero => exact absurd HA.out (by simp [crossbucklaw03_CidrHalves.j0])
  | succ kj3 =>
   have H := HA.out;clear HA;simp only [crossbucklaw03_CidrHalves.j0] at H
   by_cases c25 : x21_3 = true
   ·subst c25
    have H1 : ((crossbucklaw03_awake.f kj3).bind fun t130 => (some t130)) = some r := by rw [if_pos rfl] at H; exact H
    clear H;have H := H1;clear H1;replace H := Option.bind_eq_some_iff.mp H;obtain ⟨t130, A260, H⟩ := H;replace H : (some t130) = some r := H;have A26 := Aside0.mk A260;clear A260;obtain rfl := Option.some.inj H
    go_wp2_with (first | ((with_reducible refine gate_callee (f := 13) rfl ?_); refine goesL_ (some 22) rfl rfl Try.func13 (by kernel_rfl) rfl #[] rfl (by (try simp only [List.map_toArray, List.map_cons, List.map_nil]); first | done | rfl | (simp only [List.length_drop, List.length_take]; rfl)) ?_; (with_reducible refine (crossbucklaw03_awake.calls kj3  t130 _ A26.out).mono ?_); rintro e w27 ⟨rfl, hb⟩; refine ⟨_, rfl, ?_⟩; have n0_ := Aside0.mk (bb BK126.out hb); have n1_ := Aside0.mk (bb BK127.out hb); have n2_ := Aside0.mk (below_step (by repeat (first | (with_reducible first | exact HB.out | apply below_alloc | apply pw_below_drewN | apply below_drew1 | refine below_set ?_ GE126.out | refine below_set ?_ GE127.out) | exact HB.out)) hb); clear BK126; clear BK127; clear HB; have BK126 := n0_; have BK127 := n1_; have HB := n2_; clear n0_ n1_ n2_; (try clear hb); (try clear hb2); (try clear hk); (try clear hi)))
    go_ret
    exact ⟨by first | rfl | (simp [errW_none, errW_some] <;> rfl) | (simp [*, errW_none, errW_some] <;> rfl), by repeat (first | (with_reducible first | exact HB.out | apply below_alloc | apply pw_below_drewN | apply below_drew1 | refine below_set ?_ GE126.out | refine below_set ?_ GE127.out) | exact HB.out)⟩
   ·replace c25 := Bool.eq_false_iff.mpr c25
    subst c25
    have H1 : ((cidr_Of.f a0_0 (wrap64 (a0_1 + 1))).bind fun bt131 => ((cidr_Last.f a0_0 a0_1).bind fun t133 => ((cidr_Of.f t133 (wrap64 (a0_1 + 1))).bind fun bt134 => ((cidr_Meet.f bt131.1 bt131.2 bt134.1 bt134.2).bind fun t138 => (if t138 = true then (crossbucklaw03_CidrHalves.j1 kj3 true a0_0 a0_1 a1_0 a1_1 bt131.1 bt131.2 bt134.1 bt134.2) else ((cidr_Within.f bt131.1 bt131.2 a0_0 a0_1).bind fun t139 => (if t139 = true then ((cidr_Within.f bt134.1 bt134.2 a0_0 a0_1).bind fun t140 => (if t140 = true then ((cidr_Has.f a0_0 a0_1 a2).bind fun t141 => ((cidr_Has.f bt131.1 bt131.2 a2).bind fun t142 => ((cidr_Has.f bt134.1 bt134.2 a2).bind fun t143 => (crossbucklaw03_CidrHalves.j1 kj3 (t141 != (t142 != t143)) a0_0 a0_1 a1_0 a1_1 bt131.1 bt131.2 bt134.1 bt134.2)))) else (crossbucklaw03_CidrHalves.j1 kj3 true a0_0 a0_1 a1_0 a1_1 bt131.1 bt131.2 bt134.1 bt134.2))) else (crossbucklaw03_CidrHalves.j1 kj3 true a0_0 a0_1 a1_0 a1_1 bt131.1 bt131.2 bt134.1 bt134.2)))))))) = some r := by rw [if_neg (show ¬ (false = true) by decide)] at H; exact H
    clear H;have H := H1;clear H1;replace H := Option.bind_eq_some_iff.mp H;obtain ⟨⟨t131, t132⟩, A280, H⟩ := H
    replace H : ((cidr_Last.f a0_0 a0_1).bind fun t133 => ((cidr_Of.f t133 (wrap64 (a0_1 + 1))).bind fun bt134 => ((cidr_Meet.f t131 t132 bt134.1 bt134.2).bind fun t138 => (if t138 = true then (crossbucklaw03_CidrHalves.j1 kj3 true a0_0 a0_1 a1_0 a1_1 t131 t132 bt134.1 bt134.2) else ((cidr_Within.f t131 t132 a0_0 a0_1).bind fun t139 => (if t139 = true then ((cidr_Within.f bt134.1 bt134.2 a0_0 a0_1).bind fun t140 => (if t140 = true then ((cidr_Has.f a0_0 a0_1 a2).bind fun t141 => ((cidr_Has.f t131 t132 a2).bind fun t142 => ((cidr_Has.f bt134.1 bt134.2 a2).bind fun t143 => (crossbucklaw03_CidrHalves.j1 kj3 (t141 != (t142 != t143)) a0_0 a0_1 a1_0 a1_1 t131 t132 bt134.1 bt134.2)))) else (crossbucklaw03_CidrHalves.j1 kj3 true a0_0 a0_1 a1_0 a1_1 t131 t132 bt134.1 bt134.2))) else (crossbucklaw03_CidrHalves.j1 kj3 true a0_0 a0_1 a1_0 a1_1 t131 t132 bt134.1 bt134.2))))))) = some r := H
    have A28 := Aside0.mk A280;clear A280;replace H := Option.bind_eq_some_iff.mp H;obtain ⟨t133, A290, H⟩ := H
    replace H : ((cidr_Of.f t133 (wrap64 (a0_1 + 1))).bind fun bt134 => ((cidr_Meet.f t131 t132 bt134.1 bt134.2).bind fun t138 => (if t138 = true then (crossbucklaw03_CidrHalves.j1 kj3 true a0_0 a0_1 a1_0 a1_1 t131 t132 bt134.1 bt134.2) else ((cidr_Within.f t131 t132 a0_0 a0_1).bind fun t139 => (if t139 = true then ((cidr_Within.f bt134.1 bt134.2 a0_0 a0_1).bind fun t140 => (if t140 = true then ((cidr_Has.f a0_0 a0_1 a2).bind fun t141 => ((cidr_Has.f t131 t132 a2).bind fun t142 => ((cidr_Has.f bt134.1 bt134.2 a2).bind fun t143 => (crossbucklaw03_CidrHalves.j1 kj3 (t141 != (t142 != t143)) a0_0 a0_1 a1_0 a1_1 t131 t132 bt134.1 bt134.2)))) else (crossbucklaw03_CidrHalves.j1 kj3 true a0_0 a0_1 a1_0 a1_1 t131 t132 bt134.1 bt134.2))) else (crossbucklaw03_CidrHalves.j1 kj3 true a0_0 a0_1 a1_0 a1_1 t131 t132 bt134.1 bt134.2)))))) = some r := H
    have A29 := Aside0.mk A290;clear A290;replace H := Option.bind_eq_some_iff.mp H;obtain ⟨⟨t134, t135⟩, A300, H⟩ := H
    replace H : ((cidr_Meet.f t131 t132 t134 t135).bind fun t138 => (if t138 = true then (crossbucklaw03_CidrHalves.j1 kj3 true a0_0 a0_1 a1_0 a1_1 t131 t132 t134 t135) else ((cidr_Within.f t131 t132 a0_0 a0_1).bind fun t139 => (if t139 = true then ((cidr_Within.f t134 t135 a0_0 a0_1).bind fun t140 => (if t140 = true then ((cidr_Has.f a0_0 a0_1 a2).bind fun t141 => ((cidr_Has.f t131 t132 a2).bind fun t142 => ((cidr_Has.f t134 t135 a2).bind fun t143 => (crossbucklaw03_CidrHalves.j1 kj3 (t141 != (t142 != t143)) a0_0 a0_1 a1_0 a1_1 t131 t132 t134 t135)))) else (crossbucklaw03_CidrHalves.j1 kj3 true a0_0 a0_1 a1_0 a1_1 t131 t132 t134 t135))) else (crossbucklaw03_CidrHalves.j1 kj3 true a0_0 a0_1 a1_0 a1_1 t131 t132 t134 t135))))) = some r := H
    have A30 := Aside0.mk A300;clear A300;have HC31 := Aside0.mk H;clear H
    try go_wp2
    replace BK126 := Aside0.mk (blk_drew BK126.out);replace BK127 := Aside0.mk (blk_drew BK127.out);replace HB := Aside0.mk (below_drew1 HB.out)
    refine start_ (n := 16) (S := fun w' => w'.cell? ⟨gb126, 0, none⟩ = some (.int .u32 a0_0) ∧ w'.cell? ⟨gb126, 1, none⟩ = some (.int .i64 a0_1)) (ds := []) #[F,F,F,F,F,F,F,F,F,F,F,F,F,F,F,F] (by kernel_rfl) rfl rfl ⟨(blk_cell BK126.out 0).trans rfl, (blk_cell BK126.out 1).trans rfl⟩ (fun hHeld => ?_); refine with_tabW crossbucklaw03_CidrHalves.tab3 crossbucklaw03_CidrHalves.bits3 (fun HT_ HW_ => ?_)
    generalize wc.drew = w32 at BK126 BK127 HB hHeld ⊢
    refine pure_ (i := 0) (N := some 23) (v := ?_) (a' := ?_) #[T,F,F,F,F,F,F,F,F,F,F,F,F,F,F,F] rfl rfl (any_of HT_.out (by kernel_rfl)) (fun _ _ _ h => h) (Or.inl ⟨by rfl, ?_⟩) ?_ ?_
    rotate_left;·intro w';go_simp;with_reducible rfl
    rotate_left;·simp only [Act.put, setIfInBounds_toArray, set_cons_zero, set_cons_succ, i64_w, i32_w];rfl
    refine pure_ (i := 2) (N := some 25) (v := ?_) (a' := ?_) #[T,F,T,F,F,F,F,F,F,F,F,F,F,F,F,F] rfl rfl (any_of HT_.out (by kernel_rfl)) (fun _ _ _ h => h) (Or.inl ⟨by rfl, ?_⟩) ?_ ?_
    rotate_left;·intro w';go_simp;with_reducible rfl
    rotate_left;·simp only [Act.put, setIfInBounds_toArray, set_cons_zero, set_cons_succ, i64_w, i32_w];rfl
    refine pure_ (i := 8) (N := some 31) (v := ?_) (a' := ?_) #[T,F,T,F,F,F,F,F,T,F,F,F,F,F,F,F] rfl rfl (any_of HT_.out (by kernel_rfl)) (fun _ _ _ h => h) (Or.inl ⟨by rfl, ?_⟩) ?_ ?_
    rotate_left;·intro w';go_simp;with_reducible rfl
    rotate_left;·simp only [Act.put, setIfInBounds_toArray, set_cons_zero, set_cons_succ, i64_w, i32_w];rfl
    refine take_ (i := 1) (N := some 24) (v := ?_) (a' := ?_) #[T,T,T,F,F,F,F,F,T,F,F,F,F,F,F,F] rfl rfl (take_ofW HT_.out HW_.out (by kernel_rfl)) (fun _ _ _ h => h) (Or.inl ⟨by rfl, ?_⟩) hHeld ?_ ?_
    rotate_left
    ·rintro w' ⟨s0, s1⟩
     go_simp;with_reducible rfl
    rotate_left;·simp only [Act.put, setIfInBounds_toArray, set_cons_zero, set_cons_succ, i64_w, i32_w];rfl
    refine take_ (i := 3) (N := some 26) (v := ?_) (a' := ?_) #[T,T,T,T,F,F,F,F,T,F,F,F,F,F,F,F] rfl rfl (take_ofW HT_.out HW_.out (by kernel_rfl)) (fun _ _ _ h => h) (Or.inl ⟨by rfl, ?_⟩) hHeld ?_ ?_
    rotate_left
    ·rintro w' ⟨s0, s1⟩
     go_simp;with_reducible rfl
    rotate_left;·simp only [Act.put, setIfInBounds_toArray, set_cons_zero, set_cons_succ, i64_w, i32_w];rfl
    refine pure_ (i := 4) (N := some 27) (v := ?_) (a' := ?_) #[T,T,T,T,T,F,F,F,T,F,F,F,F,F,F,F] rfl rfl (any_of HT_.out (by kernel_rfl)) (fun _ _ _ h => h) (Or.inl ⟨by rfl, ?_⟩) ?_ ?_
    rotate_left;·intro w';go_simp;with_reducible rfl
    rotate_left;·simp only [Act.put, setIfInBounds_toArray, set_cons_zero, set_cons_succ, i64_w, i32_w];rfl
    refine take_ (i := 6) (N := some 29) (v := ?_) (a' := ?_) #[T,T,T,T,T,F,T,F,T,F,F,F,F,F,F,F] rfl rfl (take_ofW HT_.out HW_.out (by kernel_rfl)) (fun _ _ _ h => h) (Or.inl ⟨by rfl, ?_⟩) hHeld ?_ ?_
    rotate_left
    ·rintro w' ⟨s0, s1⟩
     go_simp;with_reducible rfl
    rotate_left;·simp only [Act.put, setIfInBounds_toArray, set_cons_zero, set_cons_succ, i64_w, i32_w];rfl
    refine take_ (i := 9) (N := some 32) (v := ?_) (a' := ?_) #[T,T,T,T,T,F,T,F,T,T,F,F,F,F,F,F] rfl rfl (take_ofW HT_.out HW_.out (by kernel_rfl)) (fun _ _ _ h => h) (Or.inl ⟨by rfl, ?_⟩) hHeld ?_ ?_
    rotate_left
    ·rintro w' ⟨s0, s1⟩
     go_simp;with_reducible rfl
    rotate_left;·simp only [Act.put, setIfInBounds_toArray, set_cons_zero, set_cons_succ, i64_w, i32_w];rfl
    refine pure_ (i := 10) (N := some 33) (v := ?_) (a' := ?_) #[T,T,T,T,T,F,T,F,T,T,T,F,F,F,F,F] rfl rfl (any_of HT_.out (by kernel_rfl)) (fun _ _ _ h => h) (Or.inl ⟨by rfl, ?_⟩) ?_ ?_
    rotate_left;·intro w';go_simp;with_reducible rfl
    rotate_left;·simp only [Act.put, setIfInBounds_toArray, set_cons_zero, set_cons_succ, i64_w, i32_w];rfl
    refine join_ (σ := Nat × Nat) 2 #[T,T,T,T,T,T,T,T,T,T,T,T,T,T,F,F] (fun s_ => [(28, .agg #[.int .u32 t131, .int .i64 t132]), (30, .int .u32 t133), (34, .agg #[.int .u32 t134, .int .i64 t135]), (7, .pointer (some ⟨s_.1, 0, none⟩)), (8, .pointer (some ⟨s_.2, 0, none⟩))]) (fun s_ w' => (w'.cell? ⟨gb126, 0, none⟩ = some (.int .u32 a0_0) ∧ w'.cell? ⟨gb126, 1, none⟩ = some (.int .i64 a0_1)) ∧ (w'.heap[gb126]? = some (.cells #[.int .u32 a0_0, .int .i64 a0_1] 37 (0, 0))) ∧ (w'.heap[gb127]? = some (.cells #[.int .u32 a1_0, .int .i64 a1_1] 37 (0, 0))) ∧ (w'.heap[s_.1]? = some (.cells #[.int .u32 0, .int .i64 0] 37 (0, 0))) ∧ (w'.heap[s_.2]? = some (.cells #[.int .u32 0, .int .i64 0] 37 (0, 0))) ∧ (w.heap.size ≤ s_.1) ∧ (w.heap.size ≤ s_.1) ∧ (gb126 ≠ s_.1) ∧ (s_.1 ≠ gb126) ∧ (gb127 ≠ s_.1) ∧ (s_.1 ≠ gb127) ∧ (s_.2 ≠ s_.1) ∧ (s_.1 ≠ s_.2) ∧ (w.heap.size ≤ s_.2) ∧ (w.heap.size ≤ s_.2) ∧ (gb126 ≠ s_.2) ∧ (s_.2 ≠ gb126) ∧ (gb127 ≠ s_.2) ∧ (s_.2 ≠ gb127) ∧ (Below w.heap.size w w')) ?_ ?_
    rotate_left
    ·intro hJ5_7_11_12_13
     refine join_ (σ := Nat) 3 #[T,T,T,T,T,T,T,T,T,T,T,T,T,F,F,F] (fun s_ => [(28, .agg #[.int .u32 t131, .int .i64 t132]), (30, .int .u32 t133), (34, .agg #[.int .u32 t134, .int .i64 t135]), (7, .pointer (some ⟨s_, 0, none⟩))]) (fun s_ w' => (w'.cell? ⟨gb126, 0, none⟩ = some (.int .u32 a0_0) ∧ w'.cell? ⟨gb126, 1, none⟩ = some (.int .i64 a0_1)) ∧ (w'.heap[gb126]? = some (.cells #[.int .u32 a0_0, .int .i64 a0_1] 37 (0, 0))) ∧ (w'.heap[gb127]? = some (.cells #[.int .u32 a1_0, .int .i64 a1_1] 37 (0, 0))) ∧ (w'.heap[s_]? = some (.cells #[.int .u32 0, .int .i64 0] 37 (0, 0))) ∧ (w.heap.size ≤ s_) ∧ (w.heap.size ≤ s_) ∧ (gb126 ≠ s_) ∧ (s_ ≠ gb126) ∧ (gb127 ≠ s_) ∧ (s_ ≠ gb127) ∧ (Below w.heap.size w w')) ?_ ?_
     rotate_left
     ·intro hJ5_7_11_12
      refine join_ (σ := Nat) 3 #[T,T,T,T,T,T,T,T,T,T,T,T,F,T,F,F] (fun s_ => [(28, .agg #[.int .u32 t131, .int .i64 t132]), (30, .int .u32 t133), (34, .agg #[.int .u32 t134, .int .i64 t135]), (8, .pointer (some ⟨s_, 0, none⟩))]) (fun s_ w' => (w'.cell? ⟨gb126, 0, none⟩ = some (.int .u32 a0_0) ∧ w'.cell? ⟨gb126, 1, none⟩ = some (.int .i64 a0_1)) ∧ (w'.heap[gb126]? = some (.cells #[.int .u32 a0_0, .int .i64 a0_1] 37 (0, 0))) ∧ (w'.heap[gb127]? = some (.cells #[.int .u32 a1_0, .int .i64 a1_1] 37 (0, 0))) ∧ (w'.heap[s_]? = some (.cells #[.int .u32 0, .int .i64 0] 37 (0, 0))) ∧ (w.heap.size ≤ s_) ∧ (w.heap.size ≤ s_) ∧ (gb126 ≠ s_) ∧ (s_ ≠ gb126) ∧ (gb127 ≠ s_) ∧ (s_ ≠ gb127) ∧ (Below w.heap.size w w')) ?_ ?_
      rotate_left
      ·intro hJ5_7_11_13
       refine join_ (σ := Nat × Nat) 3 #[T,T,T,T,T,T,T,T,T,T,T,F,T,T,F,F] (fun s_ => [(28, .agg #[.int .u32 t131, .int .i64 t132]), (30, .int .u32 t133), (7, .pointer (some ⟨s_.1, 0, none⟩)), (8, .pointer (some ⟨s_.2, 0, none⟩))]) (fun s_ w' => (w'.cell? ⟨gb126, 0, none⟩ = some (.int .u32 a0_0) ∧ w'.cell? ⟨gb126, 1, none⟩ = some (.int .i64 a0_1)) ∧ (w'.heap[gb126]? = some (.cells #[.int .u32 a0_0, .int .i64 a0_1] 37 (0, 0))) ∧ (w'.heap[gb127]? = some (.cells #[.int .u32 a1_0, .int .i64 a1_1] 37 (0, 0))) ∧ (w'.heap[s_.1]? = some (.cells #[.int .u32 0, .int .i64 0] 37 (0, 0))) ∧ (w'.heap[s_.2]? = some (.cells #[.int .u32 0, .int .i64 0] 37 (0, 0))) ∧ (w.heap.size ≤ s_.1) ∧ (w.heap.size ≤ s_.1) ∧ (gb126 ≠ s_.1) ∧ (s_.1 ≠ gb126) ∧ (gb127 ≠ s_.1) ∧ (s_.1 ≠ gb127) ∧ (s_.2 ≠ s_.1) ∧ (s_.1 ≠ s_.2) ∧ (w.heap.size ≤ s_.2) ∧ (w.heap.size ≤ s_.2) ∧ (gb126 ≠ s_.2) ∧ (s_.2 ≠ gb126) ∧ (gb127 ≠ s_.2) ∧ (s_.2 ≠ gb127) ∧ (Below w.heap.size w w')) ?_ ?_
       rotate_left
       ·intro hJ5_7_12_13
        refine join_ (σ := Unit) 4 #[T,T,T,T,T,T,T,T,T,T,T,T,F,F,F,F] (fun s_ => [(28, .agg #[.int .u32 t131, .int .i64 t132]), (30, .int .u32 t133), (34, .agg #[.int .u32 t134, .int .i64 t135])]) (fun s_ w' => (w'.cell? ⟨gb126, 0, none⟩ = some (.int .u32 a0_0) ∧ w'.cell? ⟨gb126, 1, none⟩ = some (.int .i64 a0_1)) ∧ (w'.heap[gb126]? = some (.cells #[.int .u32 a0_0, .int .i64 a0_1] 37 (0, 0))) ∧ (w'.heap[gb127]? = some (.cells #[.int .u32 a1_0, .int .i64 a1_1] 37 (0, 0))) ∧ (Below w.heap.size w w')) ?_ ?_
        rotate_left
        ·intro hJ5_7_11
         refine join_ (σ := Nat) 4 #[T,T,T,T,T,T,T,T,T,T,T,F,T,F,F,F] (fun s_ => [(28, .agg #[.int .u32 t131, .int .i64 t132]), (30, .int .u32 t133), (7, .pointer (some ⟨s_, 0, none⟩))]) (fun s_ w' => (w'.cell? ⟨gb126, 0, none⟩ = some (.int .u32 a0_0) ∧ w'.cell? ⟨gb126, 1, none⟩ = some (.int .i64 a0_1)) ∧ (w'.heap[gb126]? = some (.cells #[.int .u32 a0_0, .int .i64 a0_1] 37 (0, 0))) ∧ (w'.heap[gb127]? = some (.cells #[.int .u32 a1_0, .int .i64 a1_1] 37 (0, 0))) ∧ (w'.heap[s_]? = some (.cells #[.int .u32 0, .int .i64 0] 37 (0, 0))) ∧ (w.heap.size ≤ s_) ∧ (w.heap.size ≤ s_) ∧ (gb126 ≠ s_) ∧ (s_ ≠ gb126) ∧ (gb127 ≠ s_) ∧ (s_ ≠ gb127) ∧ (Below w.heap.size w w')) ?_ ?_
         rotate_left
         ·intro hJ5_7_12
          refine join_ (σ := Nat) 4 #[T,T,T,T,T,T,T,T,T,T,T,F,F,T,F,F] (fun s_ => [(28, .agg #[.int .u32 t131, .int .i64 t132]), (30, .int .u32 t133), (8, .pointer (some ⟨s_, 0, none⟩))]) (fun s_ w' => (w'.cell? ⟨gb126, 0, none⟩ = some (.int .u32 a0_0) ∧ w'.cell? ⟨gb126, 1, none⟩ = some (.int .i64 a0_1)) ∧ (w'.heap[gb126]? = some (.cells #[.int .u32 a0_0, .int .i64 a0_1] 37 (0, 0))) ∧ (w'.heap[gb127]? = some (.cells #[.int .u32 a1_0, .int .i64 a1_1] 37 (0, 0))) ∧ (w'.heap[s_]? = some (.cells #[.int .u32 0, .int .i64 0] 37 (0, 0))) ∧ (w.heap.size ≤ s_) ∧ (w.heap.size ≤ s_) ∧ (gb126 ≠ s_) ∧ (s_ ≠ gb126) ∧ (gb127 ≠ s_) ∧ (s_ ≠ gb127) ∧ (Below w.heap.size w w')) ?_ ?_
          rotate_left
          ·intro hJ5_7_13
           refine join_ (σ := Nat × Nat) 4 #[T,T,T,T,T,T,T,F,T,T,T,F,T,T,F,F] (fun s_ => [(28, .agg #[.int .u32 t131, .int .i64 t132]), (7, .pointer (some ⟨s_.1, 0, none⟩)), (8, .pointer (some ⟨s_.2, 0, none⟩))]) (fun s_ w' => (w'.cell? ⟨gb126, 0, none⟩ = some (.int .u32 a0_0) ∧ w'.cell? ⟨gb126, 1, none⟩ = some (.int .i64 a0_1)) ∧ (w'.heap[gb126]? = some (.cells #[.int .u32 a0_0, .int .i64 a0_1] 37 (0, 0))) ∧ (w'.heap[gb127]? = some (.cells #[.int .u32 a1_0, .int .i64 a1_1] 37 (0, 0))) ∧ (w'.heap[s_.1]? = some (.cells #[.int .u32 0, .int .i64 0] 37 (0, 0))) ∧ (w'.heap[s_.2]? = some (.cells #[.int .u32 0, .int .i64 0] 37 (0, 0))) ∧ (w.heap.size ≤ s_.1) ∧ (w.heap.size ≤ s_.1) ∧ (gb126 ≠ s_.1) ∧ (s_.1 ≠ gb126) ∧ (gb127 ≠ s_.1) ∧ (s_.1 ≠ gb127) ∧ (s_.2 ≠ s_.1) ∧ (s_.1 ≠ s_.2) ∧ (w.heap.size ≤ s_.2) ∧ (w.heap.size ≤ s_.2) ∧ (gb126 ≠ s_.2) ∧ (s_.2 ≠ gb126) ∧ (gb127 ≠ s_.2) ∧ (s_.2 ≠ gb127) ∧ (Below w.heap.size w w')) ?_ ?_
           rotate_left
           ·intro hJ5_12_13
            refine join_ (σ := Unit) 5 #[T,T,T,T,T,T,T,T,T,T,T,F,F,F,F,F] (fun s_ => [(28, .agg #[.int .u32 t131, .int .i64 t132]), (30, .int .u32 t133)]) (fun s_ w' => (w'.cell? ⟨gb126, 0, none⟩ = some (.int .u32 a0_0) ∧ w'.cell? ⟨gb126, 1, none⟩ = some (.int .i64 a0_1)) ∧ (w'.heap[gb126]? = some (.cells #[.int .u32 a0_0, .int .i64 a0_1] 37 (0, 0))) ∧ (w'.heap[gb127]? = some (.cells #[.int .u32 a1_0, .int .i64 a1_1] 37 (0, 0))) ∧ (Below w.heap.size w w')) ?_ ?_
            rotate_left
            ·intro hJ5_7
             refine join_ (σ := Nat) 5 #[T,T,T,T,T,T,T,F,T,T,T,F,T,F,F,F] (fun s_ => [(28, .agg #[.int .u32 t131, .int .i64 t132]), (7, .pointer (some ⟨s_, 0, none⟩))]) (fun s_ w' => (w'.cell? ⟨gb126, 0, none⟩ = some (.int .u32 a0_0) ∧ w'.cell? ⟨gb126, 1, none⟩ = some (.int .i64 a0_1)) ∧ (w'.heap[gb126]? = some (.cells #[.int .u32 a0_0, .int .i64 a0_1] 37 (0, 0))) ∧ (w'.heap[gb127]? = some (.cells #[.int .u32 a1_0, .int .i64 a1_1] 37 (0, 0))) ∧ (w'.heap[s_]? = some (.cells #[.int .u32 0, .int .i64 0] 37 (0, 0))) ∧ (w.heap.size ≤ s_) ∧ (w.heap.size ≤ s_) ∧ (gb126 ≠ s_) ∧ (s_ ≠ gb126) ∧ (gb127 ≠ s_) ∧ (s_ ≠ gb127) ∧ (Below w.heap.size w w')) ?_ ?_
             rotate_left
             ·intro hJ5_12
              refine join_ (σ := Nat) 5 #[T,T,T,T,T,T,T,F,T,T,T,F,F,T,F,F] (fun s_ => [(28, .agg #[.int .u32 t131, .int .i64 t132]), (8, .pointer (some ⟨s_, 0, none⟩))]) (fun s_ w' => (w'.cell? ⟨gb126, 0, none⟩ = some (.int .u32 a0_0) ∧ w'.cell? ⟨gb126, 1, none⟩ = some (.int .i64 a0_1)) ∧ (w'.heap[gb126]? = some (.cells #[.int .u32 a0_0, .int .i64 a0_1] 37 (0, 0))) ∧ (w'.heap[gb127]? = some (.cells #[.int .u32 a1_0, .int .i64 a1_1] 37 (0, 0))) ∧ (w'.heap[s_]? = some (.cells #[.int .u32 0, .int .i64 0] 37 (0, 0))) ∧ (w.heap.size ≤ s_) ∧ (w.heap.size ≤ s_) ∧ (gb126 ≠ s_) ∧ (s_ ≠ gb126) ∧ (gb127 ≠ s_) ∧ (s_ ≠ gb127) ∧ (Below w.heap.size w w')) ?_ ?_
              rotate_left
              ·intro hJ5_13
               refine join_ (σ := Nat × Nat) 5 #[T,T,T,T,T,F,T,F,T,T,T,F,T,T,F,F] (fun s_ => [(7, .pointer (some ⟨s_.1, 0, none⟩)), (8, .pointer (some ⟨s_.2, 0, none⟩))]) (fun s_ w' => (w'.cell? ⟨gb126, 0, none⟩ = some (.int .u32 a0_0) ∧ w'.cell? ⟨gb126, 1, none⟩ = some (.int .i64 a0_1)) ∧ (w'.heap[gb126]? = some (.cells #[.int .u32 a0_0, .int .i64 a0_1] 37 (0, 0))) ∧ (w'.heap[gb127]? = some (.cells #[.int .u32 a1_0, .int .i64 a1_1] 37 (0, 0))) ∧ (w'.heap[s_.1]? = some (.cells #[.int .u32 0, .int .i64 0] 37 (0, 0))) ∧ (w'.heap[s_.2]? = some (.cells #[.int .u32 0, .int .i64 0] 37 (0, 0))) ∧ (w.heap.size ≤ s_.1) ∧ (w.heap.size ≤ s_.1) ∧ (gb126 ≠ s_.1) ∧ (s_.1 ≠ gb126) ∧ (gb127 ≠ s_.1) ∧ (s_.1 ≠ gb127) ∧ (s_.2 ≠ s_.1) ∧ (s_.1 ≠ s_.2) ∧ (w.heap.size ≤ s_.2) ∧ (w.heap.size ≤ s_.2) ∧ (gb126 ≠ s_.2) ∧ (s_.2 ≠ gb126) ∧ (gb127 ≠ s_.2) ∧ (s_.2 ≠ gb127) ∧ (Below w.heap.size w w')) ?_ ?_
               rotate_left
               ·intro hJ12_13
                refine join_ (σ := Unit) 6 #[T,T,T,T,T,T,T,F,T,T,T,F,F,F,F,F] (fun s_ => [(28, .agg #[.int .u32 t131, .int .i64 t132])]) (fun s_ w' => (w'.cell? ⟨gb126, 0, none⟩ = some (.int .u32 a0_0) ∧ w'.cell? ⟨gb126, 1, none⟩ = some (.int .i64 a0_1)) ∧ (w'.heap[gb126]? = some (.cells #[.int .u32 a0_0, .int .i64 a0_1] 37 (0, 0))) ∧ (w'.heap[gb127]? = some (.cells #[.int .u32 a1_0, .int .i64 a1_1] 37 (0, 0))) ∧ (Below w.heap.size w w')) ?_ ?_
                rotate_left
                ·intro hJ5
                 refine join_ (σ := Nat) 6 #[T,T,T,T,T,F,T,F,T,T,T,F,T,F,F,F] (fun s_ => [(7, .pointer (some ⟨s_, 0, none⟩))]) (fun s_ w' => (w'.cell? ⟨gb126, 0, none⟩ = some (.int .u32 a0_0) ∧ w'.cell? ⟨gb126, 1, none⟩ = some (.int .i64 a0_1)) ∧ (w'.heap[gb126]? = some (.cells #[.int .u32 a0_0, .int .i64 a0_1] 37 (0, 0))) ∧ (w'.heap[gb127]? = some (.cells #[.int .u32 a1_0, .int .i64 a1_1] 37 (0, 0))) ∧ (w'.heap[s_]? = some (.cells #[.int .u32 0, .int .i64 0] 37 (0, 0))) ∧ (w.heap.size ≤ s_) ∧ (w.heap.size ≤ s_) ∧ (gb126 ≠ s_) ∧ (s_ ≠ gb126) ∧ (gb127 ≠ s_) ∧ (s_ ≠ gb127) ∧ (Below w.heap.size w w')) ?_ ?_
                 rotate_left
                 ·intro hJ12
                  refine join_ (σ := Nat) 6 #[T,T,T,T,T,F,T,F,T,T,T,F,F,T,F,F] (fun s_ => [(8, .pointer (some ⟨s_, 0, none⟩))]) (fun s_ w' => (w'.cell? ⟨gb126, 0, none⟩ = some (.int .u32 a0_0) ∧ w'.cell? ⟨gb126, 1, none⟩ = some (.int .i64 a0_1)) ∧ (w'.heap[gb126]? = some (.cells #[.int .u32 a0_0, .int .i64 a0_1] 37 (0, 0))) ∧ (w'.heap[gb127]? = some (.cells #[.int .u32 a1_0, .int .i64 a1_1] 37 (0, 0))) ∧ (w'.heap[s_]? = some (.cells #[.int .u32 0, .int .i64 0] 37 (0, 0))) ∧ (w.heap.size ≤ s_) ∧ (w.heap.size ≤ s_) ∧ (gb126 ≠ s_) ∧ (s_ ≠ gb126) ∧ (gb127 ≠ s_) ∧ (s_ ≠ gb127) ∧ (Below w.heap.size w w')) ?_ ?_
                  rotate_left
                  ·intro hJ13
                   refine three_ (i := 5) (j := 12) (k := 13) (Ni := some 28) (Nj := some 7) (Nk := some 8) #[T,T,T,T,T,T,T,F,T,T,T,F,F,F,F,F] #[T,T,T,T,T,F,T,F,T,T,T,F,T,F,F,F] #[T,T,T,T,T,F,T,F,T,T,T,F,F,T,F,F] rfl rfl rfl rfl rfl rfl (three_of HT_.out (by kernel_rfl)) (by decide) (by decide) (by decide) (fun K hK => ?_) (fun K hK => ?_) (fun K hK => ?_)
                   ·skip
                    refine goes_ Try.func23 (by kernel_rfl) rfl #[.int .u32 a0_0, .int .i64 (wrap64 (a0_1 + 1))] (by rfl) rfl rfl (by (try simp only [List.map_toArray, List.map_cons, List.map_nil]); first | done | rfl | (simp only [List.length_drop, List.length_take]; rfl)) ?_
                    with_reducible refine (cidr_Of.calls a0_0 (wrap64 (a0_1 + 1)) t131 t132 _ A28.out).mono ?_;rintro e w33 ⟨rfl, hb⟩;refine ⟨_, rfl, ?_⟩;replace BK126 := Aside0.mk (bb BK126.out hb);replace BK127 := Aside0.mk (bb BK127.out hb)
                    replace HB := Aside0.mk (below_step (by repeat (first | (with_reducible first | exact HB.out | apply below_alloc | apply pw_below_drewN | apply below_drew1 | refine below_set ?_ GE126.out | refine below_set ?_ GE127.out) | exact HB.out)) hb)
                    (try clear hb);(try clear hb2);(try clear hk);(try clear hi)
                    refine hK.out _ _ ⟨(blk_cell BK126.out 0).trans rfl, (blk_cell BK126.out 1).trans rfl⟩ (fun hHeld => ?_)
                    clear hK K
                    refine norm_ (a' := ?_) ?_ ?_;rotate_left;·show Act.put _ (some 28) _ = _;simp only [Act.put, setIfInBounds_toArray, set_cons_zero, set_cons_succ, i64_w, i32_w];rfl
                    exact nm (hJ5 () _ ⟨hHeld, (by (with_reducible repeat (first | refine blk_drewN ?_ _ | refine blk_drew ?_ | refine blk_alloc ?_ _)); exact BK126.out), (by (with_reducible repeat (first | refine blk_drewN ?_ _ | refine blk_drew ?_ | refine blk_alloc ?_ _)); exact BK127.out), (by repeat (first | (with_reducible first | exact HB.out | apply below_alloc | apply pw_below_drewN | apply below_drew1 | refine below_set ?_ GE126.out | refine below_set ?_ GE127.out) | exact HB.out))⟩)
                   ·skip
                    refine box_step ?hg (N := 7) ?hd (cs := #[.int .u32 0, .int .i64 0]) (t := 37) ?hr ?_; (case hd => rfl); (case hg => rfl); (case hr => first | (go_simp; done) | (go_simp; rfl))
                    intro gb136 hg w33 hbox hb
                    have BK136 := Aside0.mk (hbox)
                    have GW136 := Aside0.mk ((by rw [hg]; exact (below_size (by repeat (first | (with_reducible first | exact HB.out | apply below_alloc | apply pw_below_drewN | apply below_drew1 | refine below_set ?_ GE126.out | refine below_set ?_ GE127.out) | exact HB.out))) : w.heap.size ≤ gb136))
                    have GE136 := GW136;have NB126_136 := Aside0.mk ((ne1 BK126.out hg : gb126 ≠ gb136));have NB136_126 := Aside0.mk ((ne2 BK126.out hg : gb136 ≠ gb126));have NB127_136 := Aside0.mk ((ne1 BK127.out hg : gb127 ≠ gb136));have NB136_127 := Aside0.mk ((ne2 BK127.out hg : gb136 ≠ gb127));replace BK126 := Aside0.mk (bb BK126.out hb);replace BK127 := Aside0.mk (bb BK127.out hb)
                    replace HB := Aside0.mk (below_step (by repeat (first | (with_reducible first | exact HB.out | apply below_alloc | apply pw_below_drewN | apply below_drew1 | refine below_set ?_ GE126.out | refine below_set ?_ GE127.out) | exact HB.out)) hb)
                    clear hb hbox hg
                    refine hK.out _ _ ⟨(blk_cell BK126.out 0).trans rfl, (blk_cell BK126.out 1).trans rfl⟩ (fun hHeld => ?_)
                    clear hK K
                    refine norm_ (a' := ?_) ?_ ?_;rotate_left;·show Act.put _ (some 7) _ = _;simp only [Act.put, setIfInBounds_toArray, set_cons_zero, set_cons_succ, i64_w, i32_w];rfl
                    exact nm (hJ12 (gb136) _ ⟨hHeld, (by (with_reducible repeat (first | refine blk_drewN ?_ _ | refine blk_drew ?_ | refine blk_alloc ?_ _)); exact BK126.out), (by (with_reducible repeat (first | refine blk_drewN ?_ _ | refine blk_drew ?_ | refine blk_alloc ?_ _)); exact BK127.out), (by (with_reducible repeat (first | refine blk_drewN ?_ _ | refine blk_drew ?_ | refine blk_alloc ?_ _)); exact BK136.out), GW136.out, GE136.out, NB126_136.out, NB136_126.out, NB127_136.out, NB136_127.out, (by repeat (first | (with_reducible first | exact HB.out | apply below_alloc | apply pw_below_drewN | apply below_drew1 | refine below_set ?_ GE126.out | refine below_set ?_ GE127.out | refine below_set ?_ GE136.out) | exact HB.out))⟩)
                   ·skip
                    refine box_step ?hg (N := 8) ?hd (cs := #[.int .u32 0, .int .i64 0]) (t := 37) ?hr ?_; (case hd => rfl); (case hg => rfl); (case hr => first | (go_simp; done) | (go_simp; rfl))
                    intro gb137 hg w33 hbox hb
                    have BK137 := Aside0.mk (hbox)
                    have GW137 := Aside0.mk ((by rw [hg]; exact (below_size (by repeat (first | (with_reducible first | exact HB.out | apply below_alloc | apply pw_below_drewN | apply below_drew1 | refine below_set ?_ GE126.out | refine below_set ?_ GE127.out) | exact HB.out))) : w.heap.size ≤ gb137))
                    have GE137 := GW137;have NB126_137 := Aside0.mk ((ne1 BK126.out hg : gb126 ≠ gb137));have NB137_126 := Aside0.mk ((ne2 BK126.out hg : gb137 ≠ gb126));have NB127_137 := Aside0.mk ((ne1 BK127.out hg : gb127 ≠ gb137));have NB137_127 := Aside0.mk ((ne2 BK127.out hg : gb137 ≠ gb127));replace BK126 := Aside0.mk (bb BK126.out hb);replace BK127 := Aside0.mk (bb BK127.out hb)
                    replace HB := Aside0.mk (below_step (by repeat (first | (with_reducible first | exact HB.out | apply below_alloc | apply pw_below_drewN | apply below_drew1 | refine below_set ?_ GE126.out | refine below_set ?_ GE127.out) | exact HB.out)) hb)
                    clear hb hbox hg
                    refine hK.out _ _ ⟨(blk_cell BK126.out 0).trans rfl, (blk_cell BK126.out 1).trans rfl⟩ (fun hHeld => ?_)
                    clear hK K
                    refine norm_ (a' := ?_) ?_ ?_;rotate_left;·show Act.put _ (some 8) _ = _;simp only [Act.put, setIfInBounds_toArray, set_cons_zero, set_cons_succ, i64_w, i32_w];rfl
                    exact nm (hJ13 (gb137) _ ⟨hHeld, (by (with_reducible repeat (first | refine blk_drewN ?_ _ | refine blk_drew ?_ | refine blk_alloc ?_ _)); exact BK126.out), (by (with_reducible repeat (first | refine blk_drewN ?_ _ | refine blk_drew ?_ | refine blk_alloc ?_ _)); exact BK127.out), (by (with_reducible repeat (first | refine blk_drewN ?_ _ | refine blk_drew ?_ | refine blk_alloc ?_ _)); exact BK137.out), GW137.out, GE137.out, NB126_137.out, NB137_126.out, NB127_137.out, NB137_127.out, (by repeat (first | (with_reducible first | exact HB.out | apply below_alloc | apply pw_below_drewN | apply below_drew1 | refine below_set ?_ GE126.out | refine below_set ?_ GE127.out | refine below_set ?_ GE137.out) | exact HB.out))⟩)
                  ·skip
                   rintro gb137 w34 ⟨hS_, h0_, h1_, h2_, h3_, h4_, h5_, h6_, h7_, h8_, h9_⟩;have n0_ : Aside0 (w34.heap[gb126]? = some (.cells #[.int .u32 a0_0, .int .i64 a0_1] 37 (0, 0))) := ⟨h0_⟩;have n1_ : Aside0 (w34.heap[gb127]? = some (.cells #[.int .u32 a1_0, .int .i64 a1_1] 37 (0, 0))) := ⟨h1_⟩;have n2_ : Aside0 (w34.heap[gb137]? = some (.cells #[.int .u32 0, .int .i64 0] 37 (0, 0))) := ⟨h2_⟩;have n3_ : Aside0 (w.heap.size ≤ gb137) := ⟨h3_⟩;have n4_ : Aside0 (w.heap.size ≤ gb137) := ⟨h4_⟩;have n5_ : Aside0 (gb126 ≠ gb137) := ⟨h5_⟩;have n6_ : Aside0 (gb137 ≠ gb126) := ⟨h6_⟩;have n7_ : Aside0 (gb127 ≠ gb137) := ⟨h7_⟩;have n8_ : Aside0 (gb137 ≠ gb127) := ⟨h8_⟩;have n9_ : Aside0 (Below w.heap.size w w34) := ⟨h9_⟩;clear BK126;clear BK127;clear HB;clear h0_ h1_ h2_ h3_ h4_ h5_ h6_ h7_ h8_ h9_;have BK126 := n0_;have BK127 := n1_;have BK137 := n2_;have GW137 := n3_;have GE137 := n4_;have NB126_137 := n5_;have NB137_126 := n6_;have NB127_137 := n7_;have NB137_127 := n8_;have HB := n9_;clear n0_ n1_ n2_ n3_ n4_ n5_ n6_ n7_ n8_ n9_;have hHeld : w34.cell? ⟨gb126, 0, none⟩ = some (.int .u32 a0_0) ∧ w34.cell? ⟨gb126, 1, none⟩ = some (.int .i64 a0_1) := hS_;refine norm_ (a' := ?_) ?_ ?_
                   rotate_left;·simp only [putAll, Act.put, setIfInBounds_toArray, set_cons_zero, set_cons_succ];rfl
                   refine two_ (i := 5) (j := 12) (Ni := some 28) (Nj := some 7) #[T,T,T,T,T,T,T,F,T,T,T,F,F,T,F,F] #[T,T,T,T,T,F,T,F,T,T,T,F,T,T,F,F] rfl rfl rfl rfl (two_of HT_.out (by kernel_rfl)) (by decide) (by decide) (fun K hK => ?_) (fun K hK => ?_)
                   ·skip
                    refine goes_ Try.func23 (by kernel_rfl) rfl #[.int .u32 a0_0, .int .i64 (wrap64 (a0_1 + 1))] (by rfl) rfl rfl (by (try simp only [List.map_toArray, List.map_cons, List.map_nil]); first | done | rfl | (simp only [List.length_drop, List.length_take]; rfl)) ?_
                    with_reducible refine (cidr_Of.calls a0_0 (wrap64 (a0_1 + 1)) t131 t132 _ A28.out).mono ?_;rintro e w35 ⟨rfl, hb⟩;refine ⟨_, rfl, ?_⟩;replace BK126 := Aside0.mk (bb BK126.out hb);replace BK127 := Aside0.mk (bb BK127.out hb);replace BK137 := Aside0.mk (bb BK137.out hb)
                    replace HB := Aside0.mk (below_step (by repeat (first | (with_reducible first | exact HB.out | apply below_alloc | apply pw_below_drewN | apply below_drew1 | refine below_set ?_ GE126.out | refine below_set ?_ GE127.out | refine below_set ?_ GE137.out) | exact HB.out)) hb)
                    (try clear hb);(try clear hb2);(try clear hk);(try clear hi)
                    refine hK.out _ _ ⟨(blk_cell BK126.out 0).trans rfl, (blk_cell BK126.out 1).trans rfl⟩ (fun hHeld => ?_)
                    clear hK K
                    refine norm_ (a' := ?_) ?_ ?_;rotate_left;·show Act.put _ (some 28) _ = _;simp only [Act.put, setIfInBounds_toArray, set_cons_zero, set_cons_succ, i64_w, i32_w];rfl
                    exact nm (hJ5_13 (gb137) _ ⟨hHeld, (by (with_reducible repeat (first | refine blk_drewN ?_ _ | refine blk_drew ?_ | refine blk_alloc ?_ _)); exact BK126.out), (by (with_reducible repeat (first | refine blk_drewN ?_ _ | refine blk_drew ?_ | refine blk_alloc ?_ _)); exact BK127.out), (by (with_reducible repeat (first | refine blk_drewN ?_ _ | refine blk_drew ?_ | refine blk_alloc ?_ _)); exact BK137.out), GW137.out, GE137.out, NB126_137.out, NB137_126.out, NB127_137.out, NB137_127.out, (by repeat (first | (with_reducible first | exact HB.out | apply below_alloc | apply pw_below_drewN | apply below_drew1 | refine below_set ?_ GE126.out | refine below_set ?_ GE127.out | refine below_set ?_ GE137.out) | exact HB.out))⟩)
                   ·skip
                    refine box_step ?hg (N := 7) ?hd (cs := #[.int .u32 0, .int .i64 0]) (t := 37) ?hr ?_; (case hd => rfl); (case hg => rfl); (case hr => first | (go_simp; done) | (go_simp; rfl))
                    intro gb136 hg w35 hbox hb
                    have BK136 := Aside0.mk (hbox)
                    have GW136 := Aside0.mk ((by rw [hg]; exact (below_size (by repeat (first | (with_reducible first | exact HB.out | apply below_alloc | apply pw_below_drewN | apply below_drew1 | refine below_set ?_ GE126.out | refine below_set ?_ GE127.out | refine below_set ?_ GE137.out) | exact HB.out))) : w.heap.size ≤ gb136))
                    have GE136 := GW136;have NB126_136 := Aside0.mk ((ne1 BK126.out hg : gb126 ≠ gb136));have NB136_126 := Aside0.mk ((ne2 BK126.out hg : gb136 ≠ gb126));have NB127_136 := Aside0.mk ((ne1 BK127.out hg : gb127 ≠ gb136));have NB136_127 := Aside0.mk ((ne2 BK127.out hg : gb136 ≠ gb127));have NB137_136 := Aside0.mk ((ne1 BK137.out hg : gb137 ≠ gb136));have NB136_137 := Aside0.mk ((ne2 BK137.out hg : gb136 ≠ gb137));replace BK126 := Aside0.mk (bb BK126.out hb);replace BK127 := Aside0.mk (bb BK127.out hb);replace BK137 := Aside0.mk (bb BK137.out hb)
                    replace HB := Aside0.mk (below_step (by repeat (first | (with_reducible first | exact HB.out | apply below_alloc | apply pw_below_drewN | apply below_drew1 | refine below_set ?_ GE126.out | refine below_set ?_ GE127.out | refine below_set ?_ GE137.out) | exact HB.out)) hb)
                    clear hb hbox hg
                    refine hK.out _ _ ⟨(blk_cell BK126.out 0).trans rfl, (blk_cell BK126.out 1).trans rfl⟩ (fun hHeld => ?_)
                    clear hK K
                    refine norm_ (a' := ?_) ?_ ?_;rotate_left;·show Act.put _ (some 7) _ = _;simp only [Act.put, setIfInBounds_toArray, set_cons_zero, set_cons_succ, i64_w, i32_w];rfl
                    exact nm (hJ12_13 (gb136, gb137) _ ⟨hHeld, (by (with_reducible repeat (first | refine blk_drewN ?_ _ | refine blk_drew ?_ | refine blk_alloc ?_ _)); exact BK126.out), (by (with_reducible repeat (first | refine blk_drewN ?_ _ | refine blk_drew ?_ | refine blk_alloc ?_ _)); exact BK127.out), (by (with_reducible repeat (first | refine blk_drewN ?_ _ | refine blk_drew ?_ | refine blk_alloc ?_ _)); exact BK136.out), (by (with_reducible repeat (first | refine blk_drewN ?_ _ | refine blk_drew ?_ | refine blk_alloc ?_ _)); exact BK137.out), GW136.out, GE136.out, NB126_136.out, NB136_126.out, NB127_136.out, NB136_127.out, NB137_136.out, NB136_137.out, GW137.out, GE137.out, NB126_137.out, NB137_126.out, NB127_137.out, NB137_127.out, (by repeat (first | (with_reducible first | exact HB.out | apply below_alloc | apply pw_below_drewN | apply below_drew1 | refine below_set ?_ GE126.out | refine below_set ?_ GE127.out | refine below_set ?_ GE137.out | refine below_set ?_ GE136.out) | exact HB.out))⟩)
                 ·skip
                  rintro gb136 w34 ⟨hS_, h0_, h1_, h2_, h3_, h4_, h5_, h6_, h7_, h8_, h9_⟩;have n0_ : Aside0 (w34.heap[gb126]? = some (.cells #[.int .u32 a0_0, .int .i64 a0_1] 37 (0, 0))) := ⟨h0_⟩;have n1_ : Aside0 (w34.heap[gb127]? = some (.cells #[.int .u32 a1_0, .int .i64 a1_1] 37 (0, 0))) := ⟨h1_⟩;have n2_ : Aside0 (w34.heap[gb136]? = some (.cells #[.int .u32 0, .int .i64 0] 37 (0, 0))) := ⟨h2_⟩;have n3_ : Aside0 (w.heap.size ≤ gb136) := ⟨h3_⟩;have n4_ : Aside0 (w.heap.size ≤ gb136) := ⟨h4_⟩;have n5_ : Aside0 (gb126 ≠ gb136) := ⟨h5_⟩;have n6_ : Aside0 (gb136 ≠ gb126) := ⟨h6_⟩;have n7_ : Aside0 (gb127 ≠ gb136) := ⟨h7_⟩;have n8_ : Aside0 (gb136 ≠ gb127) := ⟨h8_⟩;have n9_ : Aside0 (Below w.heap.size w w34) := ⟨h9_⟩;clear BK126;clear BK127;clear HB;clear h0_ h1_ h2_ h3_ h4_ h5_ h6_ h7_ h8_ h9_;have BK126 := n0_;have BK127 := n1_;have BK136 := n2_;have GW136 := n3_;have GE136 := n4_;have NB126_136 := n5_;have NB136_126 := n6_;have NB127_136 := n7_;have NB136_127 := n8_;have HB := n9_;clear n0_ n1_ n2_ n3_ n4_ n5_ n6_ n7_ n8_ n9_;have hHeld : w34.cell? ⟨gb126, 0, none⟩ = some (.int .u32 a0_0) ∧ w34.cell? ⟨gb126, 1, none⟩ = some (.int .i64 a0_1) := hS_;refine norm_ (a' := ?_) ?_ ?_
                  rotate_left;·simp only [putAll, Act.put, setIfInBounds_toArray, set_cons_zero, set_cons_succ];rfl
                  refine two_ (i := 5) (j := 13) (Ni := some 28) (Nj := some 8) #[T,T,T,T,T,T,T,F,T,T,T,F,T,F,F,F] #[T,T,T,T,T,F,T,F,T,T,T,F,T,T,F,F] rfl rfl rfl rfl (two_of HT_.out (by kernel_rfl)) (by decide) (by decide) (fun K hK => ?_) (fun K hK => ?_)
                  ·skip
                   refine goes_ Try.func23 (by kernel_rfl) rfl #[.int .u32 a0_0, .int .i64 (wrap64 (a0_1 + 1))] (by rfl) rfl rfl (by (try simp only [List.map_toArray, List.map_cons, List.map_nil]); first | done | rfl | (simp only [List.length_drop, List.length_take]; rfl)) ?_
                   with_reducible refine (cidr_Of.calls a0_0 (wrap64 (a0_1 + 1)) t131 t132 _ A28.out).mono ?_;rintro e w35 ⟨rfl, hb⟩;refine ⟨_, rfl, ?_⟩;replace BK126 := Aside0.mk (bb BK126.out hb);replace BK127 := Aside0.mk (bb BK127.out hb);replace BK136 := Aside0.mk (bb BK136.out hb)
                   replace HB := Aside0.mk (below_step (by repeat (first | (with_reducible first | exact HB.out | apply below_alloc | apply pw_below_drewN | apply below_drew1 | refine below_set ?_ GE126.out | refine below_set ?_ GE127.out | refine below_set ?_ GE136.out) | exact HB.out)) hb)
                   (try clear hb);(try clear hb2);(try clear hk);(try clear hi)
                   refine hK.out _ _ ⟨(blk_cell BK126.out 0).trans rfl, (blk_cell BK126.out 1).trans rfl⟩ (fun hHeld => ?_)
                   clear hK K
                   refine norm_ (a' := ?_) ?_ ?_;rotate_left;·show Act.put _ (some 28) _ = _;simp only [Act.put, setIfInBounds_toArray, set_cons_zero, set_cons_succ, i64_w, i32_w];rfl
                   exact nm (hJ5_12 (gb136) _ ⟨hHeld, (by (with_reducible repeat (first | refine blk_drewN ?_ _ | refine blk_drew ?_ | refine blk_alloc ?_ _)); exact BK126.out), (by (with_reducible repeat (first | refine blk_drewN ?_ _ | refine blk_drew ?_ | refine blk_alloc ?_ _)); exact BK127.out), (by (with_reducible repeat (first | refine blk_drewN ?_ _ | refine blk_drew ?_ | refine blk_alloc ?_ _)); exact BK136.out), GW136.out, GE136.out, NB126_136.out, NB136_126.out, NB127_136.out, NB136_127.out, (by repeat (first | (with_reducible first | exact HB.out | apply below_alloc | apply pw_below_drewN | apply below_drew1 | refine below_set ?_ GE126.out | refine below_set ?_ GE127.out | refine below_set ?_ GE136.out) | exact HB.out))⟩)
                  ·skip
                   refine box_step ?hg (N := 8) ?hd (cs := #[.int .u32 0, .int .i64 0]) (t := 37) ?hr ?_; (case hd => rfl); (case hg => rfl); (case hr => first | (go_simp; done) | (go_simp; rfl))
                   intro gb137 hg w35 hbox hb
                   have BK137 := Aside0.mk (hbox)
                   have GW137 := Aside0.mk ((by rw [hg]; exact (below_size (by repeat (first | (with_reducible first | exact HB.out | apply below_alloc | apply pw_below_drewN | apply below_drew1 | refine below_set ?_ GE126.out | refine below_set ?_ GE127.out | refine below_set ?_ GE136.out) | exact HB.out))) : w.heap.size ≤ gb137))
                   have GE137 := GW137;have NB126_137 := Aside0.mk ((ne1 BK126.out hg : gb126 ≠ gb137));have NB137_126 := Aside0.mk ((ne2 BK126.out hg : gb137 ≠ gb126));have NB127_137 := Aside0.mk ((ne1 BK127.out hg : gb127 ≠ gb137));have NB137_127 := Aside0.mk ((ne2 BK127.out hg : gb137 ≠ gb127));have NB136_137 := Aside0.mk ((ne1 BK136.out hg : gb136 ≠ gb137));have NB137_136 := Aside0.mk ((ne2 BK136.out hg : gb137 ≠ gb136));replace BK126 := Aside0.mk (bb BK126.out hb);replace BK127 := Aside0.mk (bb BK127.out hb);replace BK136 := Aside0.mk (bb BK136.out hb)
                   replace HB := Aside0.mk (below_step (by repeat (first | (with_reducible first | exact HB.out | apply below_alloc | apply pw_below_drewN | apply below_drew1 | refine below_set ?_ GE126.out | refine below_set ?_ GE127.out | refine below_set ?_ GE136.out) | exact HB.out)) hb)
                   clear hb hbox hg
                   refine hK.out _ _ ⟨(blk_cell BK126.out 0).trans rfl, (blk_cell BK126.out 1).trans rfl⟩ (fun hHeld => ?_)
                   clear hK K
                   refine norm_ (a' := ?_) ?_ ?_;rotate_left;·show Act.put _ (some 8) _ = _;simp only [Act.put, setIfInBounds_toArray, set_cons_zero, set_cons_succ, i64_w, i32_w];rfl
                   exact nm (hJ12_13 (gb136, gb137) _ ⟨hHeld, (by (with_reducible repeat (first | refine blk_drewN ?_ _ | refine blk_drew ?_ | refine blk_alloc ?_ _)); exact BK126.out), (by (with_reducible repeat (first | refine blk_drewN ?_ _ | refine blk_drew ?_ | refine blk_alloc ?_ _)); exact BK127.out), (by (with_reducible repeat (first | refine blk_drewN ?_ _ | refine blk_drew ?_ | refine blk_alloc ?_ _)); exact BK136.out), (by (with_reducible repeat (first | refine blk_drewN ?_ _ | refine blk_drew ?_ | refine blk_alloc ?_ _)); exact BK137.out), GW136.out, GE136.out, NB126_136.out, NB136_126.out, NB127_136.out, NB136_127.out, NB137_136.out, NB136_137.out, GW137.out, GE137.out, NB126_137.out, NB137_126.out, NB127_137.out, NB137_127.out, (by repeat (first | (with_reducible first | exact HB.out | apply below_alloc | apply pw_below_drewN | apply below_drew1 | refine below_set ?_ GE126.out | refine below_set ?_ GE127.out | refine below_set ?_ GE136.out | refine below_set ?_ GE137.out) | exact HB.out))⟩)
                ·skip
                 rintro _ w34 ⟨hS_, h0_, h1_, h2_⟩;have n0_ : Aside0 (w34.heap[gb126]? = some (.cells #[.int .u32 a0_0, .int .i64 a0_1] 37 (0, 0))) := ⟨h0_⟩;have n1_ : Aside0 (w34.heap[gb127]? = some (.cells #[.int .u32 a1_0, .int .i64 a1_1] 37 (0, 0))) := ⟨h1_⟩;have n2_ : Aside0 (Below w.heap.size w w34) := ⟨h2_⟩;clear BK126;clear BK127;clear HB;clear h0_ h1_ h2_;have BK126 := n0_;have BK127 := n1_;have HB := n2_;clear n0_ n1_ n2_;have hHeld : w34.cell? ⟨gb126, 0, none⟩ = some (.int .u32 a0_0) ∧ w34.cell? ⟨gb126, 1, none⟩ = some (.int .i64 a0_1) := hS_;refine norm_ (a' := ?_) ?_ ?_
                 rotate_left;·simp only [putAll, Act.put, setIfInBounds_toArray, set_cons_zero, set_cons_succ];rfl
                 refine three_ (i := 7) (j := 12) (k := 13) (Ni := some 30) (Nj := some 7) (Nk := some 8) #[T,T,T,T,T,T,T,T,T,T,T,F,F,F,F,F] #[T,T,T,T,T,T,T,F,T,T,T,F,T,F,F,F] #[T,T,T,T,T,T,T,F,T,T,T,F,F,T,F,F] rfl rfl rfl rfl rfl rfl (three_of HT_.out (by kernel_rfl)) (by decide) (by decide) (by decide) (fun K hK => ?_) (fun K hK => ?_) (fun K hK => ?_)
                 ·skip
                  refine goes_ Try.func24 (by kernel_rfl) rfl #[.agg #[.int .u32 a0_0, .int .i64 a0_1]] (by rfl) rfl rfl (by (try simp only [List.map_toArray, List.map_cons, List.map_nil]); first | done | rfl | (simp only [List.length_drop, List.length_take]; rfl)) ?_
                  with_reducible refine (cidr_Last.calls a0_0 a0_1 t133 _ A29.out).mono ?_;rintro e w35 ⟨rfl, hb⟩;refine ⟨_, rfl, ?_⟩;replace BK126 := Aside0.mk (bb BK126.out hb);replace BK127 := Aside0.mk (bb BK127.out hb)
                  replace HB := Aside0.mk (below_step (by repeat (first | (with_reducible first | exact HB.out | apply below_alloc | apply pw_below_drewN | apply below_drew1 | refine below_set ?_ GE126.out | refine below_set ?_ GE127.out) | exact HB.out)) hb)
                  (try clear hb);(try clear hb2);(try clear hk);(try clear hi)
                  refine hK.out _ _ ⟨(blk_cell BK126.out 0).trans rfl, (blk_cell BK126.out 1).trans rfl⟩ (fun hHeld => ?_)
                  clear hK K
                  refine norm_ (a' := ?_) ?_ ?_;rotate_left;·show Act.put _ (some 30) _ = _;simp only [Act.put, setIfInBounds_toArray, set_cons_zero, set_cons_succ, i64_w, i32_w];rfl
                  exact nm (hJ5_7 () _ ⟨hHeld, (by (with_reducible repeat (first | refine blk_drewN ?_ _ | refine blk_drew ?_ | refine blk_alloc ?_ _)); exact BK126.out), (by (with_reducible repeat (first | refine blk_drewN ?_ _ | refine blk_drew ?_ | refine blk_alloc ?_ _)); exact BK127.out), (by repeat (first | (with_reducible first | exact HB.out | apply below_alloc | apply pw_below_drewN | apply below_drew1 | refine below_set ?_ GE126.out | refine below_set ?_ GE127.out) | exact HB.out))⟩)
                 ·skip
                  refine box_step ?hg (N := 7) ?hd (cs := #[.int .u32 0, .int .i64 0]) (t := 37) ?hr ?_; (case hd => rfl); (case hg => rfl); (case hr => first | (go_simp; done) | (go_simp; rfl))
                  intro gb136 hg w35 hbox hb
                  have BK136 := Aside0.mk (hbox)
                  have GW136 := Aside0.mk ((by rw [hg]; exact (below_size (by repeat (first | (with_reducible first | exact HB.out | apply below_alloc | apply pw_below_drewN | apply below_drew1 | refine below_set ?_ GE126.out | refine below_set ?_ GE127.out) | exact HB.out))) : w.heap.size ≤ gb136))
                  have GE136 := GW136;have NB126_136 := Aside0.mk ((ne1 BK126.out hg : gb126 ≠ gb136));have NB136_126 := Aside0.mk ((ne2 BK126.out hg : gb136 ≠ gb126));have NB127_136 := Aside0.mk ((ne1 BK127.out hg : gb127 ≠ gb136));have NB136_127 := Aside0.mk ((ne2 BK127.out hg : gb136 ≠ gb127));replace BK126 := Aside0.mk (bb BK126.out hb);replace BK127 := Aside0.mk (bb BK127.out hb)
                  replace HB := Aside0.mk (below_step (by repeat (first | (with_reducible first | exact HB.out | apply below_alloc | apply pw_below_drewN | apply below_drew1 | refine below_set ?_ GE126.out | refine below_set ?_ GE127.out) | exact HB.out)) hb)
                  clear hb hbox hg
                  refine hK.out _ _ ⟨(blk_cell BK126.out 0).trans rfl, (blk_cell BK126.out 1).trans rfl⟩ (fun hHeld => ?_)
                  clear hK K
                  refine norm_ (a' := ?_) ?_ ?_;rotate_left;·show Act.put _ (some 7) _ = _;simp only [Act.put, setIfInBounds_toArray, set_cons_zero, set_cons_succ, i64_w, i32_w];rfl
                  exact nm (hJ5_12 (gb136) _ ⟨hHeld, (by (with_reducible repeat (first | refine blk_drewN ?_ _ | refine blk_drew ?_ | refine blk_alloc ?_ _)); exact BK126.out), (by (with_reducible repeat (first | refine blk_drewN ?_ _ | refine blk_drew ?_ | refine blk_alloc ?_ _)); exact BK127.out), (by (with_reducible repeat (first | refine blk_drewN ?_ _ | refine blk_drew ?_ | refine blk_alloc ?_ _)); exact BK136.out), GW136.out, GE136.out, NB126_136.out, NB136_126.out, NB127_136.out, NB136_127.out, (by repeat (first | (with_reducible first | exact HB.out | apply below_alloc | apply pw_below_drewN | apply below_drew1 | refine below_set ?_ GE126.out | refine below_set ?_ GE127.out | refine below_set ?_ GE136.out) | exact HB.out))⟩)
                 ·skip
                  refine box_step ?hg (N := 8) ?hd (cs := #[.int .u32 0, .int .i64 0]) (t := 37) ?hr ?_; (case hd => rfl); (case hg => rfl); (case hr => first | (go_simp; done) | (go_simp; rfl))
                  intro gb137 hg w35 hbox hb
                  have BK137 := Aside0.mk (hbox)
                  have GW137 := Aside0.mk ((by rw [hg]; exact (below_size (by repeat (first | (with_reducible first | exact HB.out | apply below_alloc | apply pw_below_drewN | apply below_drew1 | refine below_set ?_ GE126.out | refine below_set ?_ GE127.out) | exact HB.out))) : w.heap.size ≤ gb137))
                  have GE137 := GW137;have NB126_137 := Aside0.mk ((ne1 BK126.out hg : gb126 ≠ gb137));have NB137_126 := Aside0.mk ((ne2 BK126.out hg : gb137 ≠ gb126));have NB127_137 := Aside0.mk ((ne1 BK127.out hg : gb127 ≠ gb137));have NB137_127 := Aside0.mk ((ne2 BK127.out hg : gb137 ≠ gb127));replace BK126 := Aside0.mk (bb BK126.out hb);replace BK127 := Aside0.mk (bb BK127.out hb)
                  replace HB := Aside0.mk (below_step (by repeat (first | (with_reducible first | exact HB.out | apply below_alloc | apply pw_below_drewN | apply below_drew1 | refine below_set ?_ GE126.out | refine below_set ?_ GE127.out) | exact HB.out)) hb)
                  clear hb hbox hg
                  refine hK.out _ _ ⟨(blk_cell BK126.out 0).trans rfl, (blk_cell BK126.out 1).trans rfl⟩ (fun hHeld => ?_)
                  clear hK K
                  refine norm_ (a' := ?_) ?_ ?_;rotate_left;·show Act.put _ (some 8) _ = _;simp only [Act.put, setIfInBounds_toArray, set_cons_zero, set_cons_succ, i64_w, i32_w];rfl
                  exact nm (hJ5_13 (gb137) _ ⟨hHeld, (by (with_reducible repeat (first | refine blk_drewN ?_ _ | refine blk_drew ?_ | refine blk_alloc ?_ _)); exact BK126.out), (by (with_reducible repeat (first | refine blk_drewN ?_ _ | refine blk_drew ?_ | refine blk_alloc ?_ _)); exact BK127.out), (by (with_reducible repeat (first | refine blk_drewN ?_ _ | refine blk_drew ?_ | refine blk_alloc ?_ _)); exact BK137.out), GW137.out, GE137.out, NB126_137.out, NB137_126.out, NB127_137.out, NB137_127.out, (by repeat (first | (with_reducible first | exact HB.out | apply below_alloc | apply pw_below_drewN | apply below_drew1 | refine below_set ?_ GE126.out | refine below_set ?_ GE127.out | refine below_set ?_ GE137.out) | exact HB.out))⟩)
               ·skip
                rintro ⟨gb136, gb137⟩ w35 ⟨hS_, h0_, h1_, h2_, h3_, h4_, h5_, h6_, h7_, h8_, h9_, h10_, h11_, h12_, h13_, h14_, h15_, h16_, h17_, h18_⟩;have n0_ : Aside0 (w35.heap[gb126]? = some (.cells #[.int .u32 a0_0, .int .i64 a0_1] 37 (0, 0))) := ⟨h0_⟩;have n1_ : Aside0 (w35.heap[gb127]? = some (.cells #[.int .u32 a1_0, .int .i64 a1_1] 37 (0, 0))) := ⟨h1_⟩;have n2_ : Aside0 (w35.heap[gb136]? = some (.cells #[.int .u32 0, .int .i64 0] 37 (0, 0))) := ⟨h2_⟩;have n3_ : Aside0 (w35.heap[gb137]? = some (.cells #[.int .u32 0, .int .i64 0] 37 (0, 0))) := ⟨h3_⟩;have n4_ : Aside0 (w.heap.size ≤ gb136) := ⟨h4_⟩;have n5_ : Aside0 (w.heap.size ≤ gb136) := ⟨h5_⟩;have n6_ : Aside0 (gb126 ≠ gb136) := ⟨h6_⟩;have n7_ : Aside0 (gb136 ≠ gb126) := ⟨h7_⟩;have n8_ : Aside0 (gb127 ≠ gb136) := ⟨h8_⟩;have n9_ : Aside0 (gb136 ≠ gb127) := ⟨h9_⟩;have n10_ : Aside0 (gb137 ≠ gb136) := ⟨h10_⟩;have n11_ : Aside0 (gb136 ≠ gb137) := ⟨h11_⟩;have n12_ : Aside0 (w.heap.size ≤ gb137) := ⟨h12_⟩;have n13_ : Aside0 (w.heap.size ≤ gb137) := ⟨h13_⟩;have n14_ : Aside0 (gb126 ≠ gb137) := ⟨h14_⟩;have n15_ : Aside0 (gb137 ≠ gb126) := ⟨h15_⟩;have n16_ : Aside0 (gb127 ≠ gb137) := ⟨h16_⟩;have n17_ : Aside0 (gb137 ≠ gb127) := ⟨h17_⟩;have n18_ : Aside0 (Below w.heap.size w w35) := ⟨h18_⟩;clear BK126;clear BK127;clear HB;clear h0_ h1_ h2_ h3_ h4_ h5_ h6_ h7_ h8_ h9_ h10_ h11_ h12_ h13_ h14_ h15_ h16_ h17_ h18_;have BK126 := n0_;have BK127 := n1_;have BK136 := n2_;have BK137 := n3_;have GW136 := n4_;have GE136 := n5_;have NB126_136 := n6_
                have NB136_126 := n7_;have NB127_136 := n8_;have NB136_127 := n9_;have NB137_136 := n10_;have NB136_137 := n11_;have GW137 := n12_;have GE137 := n13_;have NB126_137 := n14_;have NB137_126 := n15_;have NB127_137 := n16_;have NB137_127 := n17_;have HB := n18_;clear n0_ n1_ n2_ n3_ n4_ n5_ n6_ n7_ n8_ n9_ n10_ n11_ n12_ n13_ n14_ n15_ n16_ n17_ n18_;have hHeld : w35.cell? ⟨gb126, 0, none⟩ = some (.int .u32 a0_0) ∧ w35.cell? ⟨gb126, 1, none⟩ = some (.int .i64 a0_1) := hS_;refine norm_ (a' := ?_) ?_ ?_
                rotate_left;·simp only [putAll, Act.put, setIfInBounds_toArray, set_cons_zero, set_cons_succ];rfl
                refine one_ (i := 5) (N := some 28) #[T,T,T,T,T,T,T,F,T,T,T,F,T,T,F,F] rfl rfl (one_of HT_.out (by kernel_rfl)) (by decide) (fun K hK => ?_)
                refine goes_ Try.func23 (by kernel_rfl) rfl #[.int .u32 a0_0, .int .i64 (wrap64 (a0_1 + 1))] (by rfl) rfl rfl (by (try simp only [List.map_toArray, List.map_cons, List.map_nil]); first | done | rfl | (simp only [List.length_drop, List.length_take]; rfl)) ?_
                with_reducible refine (cidr_Of.calls a0_0 (wrap64 (a0_1 + 1)) t131 t132 _ A28.out).mono ?_;rintro e w36 ⟨rfl, hb⟩;refine ⟨_, rfl, ?_⟩;replace BK126 := Aside0.mk (bb BK126.out hb);replace BK127 := Aside0.mk (bb BK127.out hb);replace BK136 := Aside0.mk (bb BK136.out hb);replace BK137 := Aside0.mk (bb BK137.out hb)
                replace HB := Aside0.mk (below_step (by repeat (first | (with_reducible first | exact HB.out | apply below_alloc | apply pw_below_drewN | apply below_drew1 | refine below_set ?_ GE126.out | refine below_set ?_ GE127.out | refine below_set ?_ GE136.out | refine below_set ?_ GE137.out) | exact HB.out)) hb)
                (try clear hb);(try clear hb2);(try clear hk);(try clear hi)
                refine hK.out _ _ ⟨(blk_cell BK126.out 0).trans rfl, (blk_cell BK126.out 1).trans rfl⟩ (fun hHeld => ?_)
                clear hK K
                refine norm_ (a' := ?_) ?_ ?_;rotate_left;·show Act.put _ (some 28) _ = _;simp only [Act.put, setIfInBounds_toArray, set_cons_zero, set_cons_succ, i64_w, i32_w];rfl
                exact nm (hJ5_12_13 (gb136, gb137) _ ⟨hHeld, (by (with_reducible repeat (first | refine blk_drewN ?_ _ | refine blk_drew ?_ | refine blk_alloc ?_ _)); exact BK126.out), (by (with_reducible repeat (first | refine blk_drewN ?_ _ | refine blk_drew ?_ | refine blk_alloc ?_ _)); exact BK127.out), (by (with_reducible repeat (first | refine blk_drewN ?_ _ | refine blk_drew ?_ | refine blk_alloc ?_ _)); exact BK136.out), (by (with_reducible repeat (first | refine blk_drewN ?_ _ | refine blk_drew ?_ | refine blk_alloc ?_ _)); exact BK137.out), GW136.out, GE136.out, NB126_136.out, NB136_126.out, NB127_136.out, NB136_127.out, NB137_136.out, NB136_137.out, GW137.out, GE137.out, NB126_137.out, NB137_126.out, NB127_137.out, NB137_127.out, (by repeat (first | (with_reducible first | exact HB.out | apply below_alloc | apply pw_below_drewN | apply below_drew1 | refine below_set ?_ GE126.out | refine below_set ?_ GE127.out | refine below_set ?_ GE136.out | refine below_set ?_ GE137.out) | exact HB.out))⟩)
              ·skip
               rintro gb137 w35 ⟨hS_, h0_, h1_, h2_, h3_, h4_, h5_, h6_, h7_, h8_, h9_⟩;have n0_ : Aside0 (w35.heap[gb126]? = some (.cells #[.int .u32 a0_0, .int .i64 a0_1] 37 (0, 0))) := ⟨h0_⟩;have n1_ : Aside0 (w35.heap[gb127]? = some (.cells #[.int .u32 a1_0, .int .i64 a1_1] 37 (0, 0))) := ⟨h1_⟩;have n2_ : Aside0 (w35.heap[gb137]? = some (.cells #[.int .u32 0, .int .i64 0] 37 (0, 0))) := ⟨h2_⟩;have n3_ : Aside0 (w.heap.size ≤ gb137) := ⟨h3_⟩;have n4_ : Aside0 (w.heap.size ≤ gb137) := ⟨h4_⟩;have n5_ : Aside0 (gb126 ≠ gb137) := ⟨h5_⟩;have n6_ : Aside0 (gb137 ≠ gb126) := ⟨h6_⟩;have n7_ : Aside0 (gb127 ≠ gb137) := ⟨h7_⟩;have n8_ : Aside0 (gb137 ≠ gb127) := ⟨h8_⟩;have n9_ : Aside0 (Below w.heap.size w w35) := ⟨h9_⟩;clear BK126;clear BK127;clear HB;clear h0_ h1_ h2_ h3_ h4_ h5_ h6_ h7_ h8_ h9_;have BK126 := n0_;have BK127 := n1_;have BK137 := n2_;have GW137 := n3_;have GE137 := n4_;have NB126_137 := n5_;have NB137_126 := n6_;have NB127_137 := n7_;have NB137_127 := n8_;have HB := n9_;clear n0_ n1_ n2_ n3_ n4_ n5_ n6_ n7_ n8_ n9_;have hHeld : w35.cell? ⟨gb126, 0, none⟩ = some (.int .u32 a0_0) ∧ w35.cell? ⟨gb126, 1, none⟩ = some (.int .i64 a0_1) := hS_;refine norm_ (a' := ?_) ?_ ?_
               rotate_left;·simp only [putAll, Act.put, setIfInBounds_toArray, set_cons_zero, set_cons_succ];rfl
               refine two_ (i := 7) (j := 12) (Ni := some 30) (Nj := some 7) #[T,T,T,T,T,T,T,T,T,T,T,F,F,T,F,F] #[T,T,T,T,T,T,T,F,T,T,T,F,T,T,F,F] rfl rfl rfl rfl (two_of HT_.out (by kernel_rfl)) (by decide) (by decide) (fun K hK => ?_) (fun K hK => ?_)
               ·skip
                refine goes_ Try.func24 (by kernel_rfl) rfl #[.agg #[.int .u32 a0_0, .int .i64 a0_1]] (by rfl) rfl rfl (by (try simp only [List.map_toArray, List.map_cons, List.map_nil]); first | done | rfl | (simp only [List.length_drop, List.length_take]; rfl)) ?_
                with_reducible refine (cidr_Last.calls a0_0 a0_1 t133 _ A29.out).mono ?_;rintro e w36 ⟨rfl, hb⟩;refine ⟨_, rfl, ?_⟩;replace BK126 := Aside0.mk (bb BK126.out hb);replace BK127 := Aside0.mk (bb BK127.out hb);replace BK137 := Aside0.mk (bb BK137.out hb)
                replace HB := Aside0.mk (below_step (by repeat (first | (with_reducible first | exact HB.out | apply below_alloc | apply pw_below_drewN | apply below_drew1 | refine below_set ?_ GE126.out | refine below_set ?_ GE127.out | refine below_set ?_ GE137.out) | exact HB.out)) hb)
                (try clear hb);(try clear hb2);(try clear hk);(try clear hi)
                refine hK.out _ _ ⟨(blk_cell BK126.out 0).trans rfl, (blk_cell BK126.out 1).trans rfl⟩ (fun hHeld => ?_)
                clear hK K
                refine norm_ (a' := ?_) ?_ ?_;rotate_left;·show Act.put _ (some 30) _ = _;simp only [Act.put, setIfInBounds_toArray, set_cons_zero, set_cons_succ, i64_w, i32_w];rfl
                exact nm (hJ5_7_13 (gb137) _ ⟨hHeld, (by (with_reducible repeat (first | refine blk_drewN ?_ _ | refine blk_drew ?_ | refine blk_alloc ?_ _)); exact BK126.out), (by (with_reducible repeat (first | refine blk_drewN ?_ _ | refine blk_drew ?_ | refine blk_alloc ?_ _)); exact BK127.out), (by (with_reducible repeat (first | refine blk_drewN ?_ _ | refine blk_drew ?_ | refine blk_alloc ?_ _)); exact BK137.out), GW137.out, GE137.out, NB126_137.out, NB137_126.out, NB127_137.out, NB137_127.out, (by repeat (first | (with_reducible first | exact HB.out | apply below_alloc | apply pw_below_drewN | apply below_drew1 | refine below_set ?_ GE126.out | refine below_set ?_ GE127.out | refine below_set ?_ GE137.out) | exact HB.out))⟩)
               ·skip
                refine box_step ?hg (N := 7) ?hd (cs := #[.int .u32 0, .int .i64 0]) (t := 37) ?hr ?_; (case hd => rfl); (case hg => rfl); (case hr => first | (go_simp; done) | (go_simp; rfl))
                intro gb136 hg w36 hbox hb
                have BK136 := Aside0.mk (hbox)
                have GW136 := Aside0.mk ((by rw [hg]; exact (below_size (by repeat (first | (with_reducible first | exact HB.out | apply below_alloc | apply pw_below_drewN | apply below_drew1 | refine below_set ?_ GE126.out | refine below_set ?_ GE127.out | refine below_set ?_ GE137.out) | exact HB.out))) : w.heap.size ≤ gb136))
                have GE136 := GW136;have NB126_136 := Aside0.mk ((ne1 BK126.out hg : gb126 ≠ gb136));have NB136_126 := Aside0.mk ((ne2 BK126.out hg : gb136 ≠ gb126));have NB127_136 := Aside0.mk ((ne1 BK127.out hg : gb127 ≠ gb136));have NB136_127 := Aside0.mk ((ne2 BK127.out hg : gb136 ≠ gb127));have NB137_136 := Aside0.mk ((ne1 BK137.out hg : gb137 ≠ gb136));have NB136_137 := Aside0.mk ((ne2 BK137.out hg : gb136 ≠ gb137));replace BK126 := Aside0.mk (bb BK126.out hb);replace BK127 := Aside0.mk (bb BK127.out hb);replace BK137 := Aside0.mk (bb BK137.out hb)
                replace HB := Aside0.mk (below_step (by repeat (first | (with_reducible first | exact HB.out | apply below_alloc | apply pw_below_drewN | apply below_drew1 | refine below_set ?_ GE126.out | refine below_set ?_ GE127.out | refine below_set ?_ GE137.out) | exact HB.out)) hb)
                clear hb hbox hg
                refine hK.out _ _ ⟨(blk_cell BK126.out 0).trans rfl, (blk_cell BK126.out 1).trans rfl⟩ (fun hHeld => ?_)
                clear hK K
                refine norm_ (a' := ?_) ?_ ?_;rotate_left;·show Act.put _ (some 7) _ = _;simp only [Act.put, setIfInBounds_toArray, set_cons_zero, set_cons_succ, i64_w, i32_w];rfl
                exact nm (hJ5_12_13 (gb136, gb137) _ ⟨hHeld, (by (with_reducible repeat (first | refine blk_drewN ?_ _ | refine blk_drew ?_ | refine blk_alloc ?_ _)); exact BK126.out), (by (with_reducible repeat (first | refine blk_drewN ?_ _ | refine blk_drew ?_ | refine blk_alloc ?_ _)); exact BK127.out), (by (with_reducible repeat (first | refine blk_drewN ?_ _ | refine blk_drew ?_ | refine blk_alloc ?_ _)); exact BK136.out), (by (with_reducible repeat (first | refine blk_drewN ?_ _ | refine blk_drew ?_ | refine blk_alloc ?_ _)); exact BK137.out), GW136.out, GE136.out, NB126_136.out, NB136_126.out, NB127_136.out, NB136_127.out, NB137_136.out, NB136_137.out, GW137.out, GE137.out, NB126_137.out, NB137_126.out, NB127_137.out, NB137_127.out, (by repeat (first | (with_reducible first | exact HB.out | apply below_alloc | apply pw_below_drewN | apply below_drew1 | refine below_set ?_ GE126.out | refine below_set ?_ GE127.out | refine below_set ?_ GE137.out | refine below_set ?_ GE136.out) | exact HB.out))⟩)
             ·skip
              rintro gb136 w35 ⟨hS_, h0_, h1_, h2_, h3_, h4_, h5_, h6_, h7_, h8_, h9_⟩;have n0_ : Aside0 (w35.heap[gb126]? = some (.cells #[.int .u32 a0_0, .int .i64 a0_1] 37 (0, 0))) := ⟨h0_⟩;have n1_ : Aside0 (w35.heap[gb127]? = some (.cells #[.int .u32 a1_0, .int .i64 a1_1] 37 (0, 0))) := ⟨h1_⟩;have n2_ : Aside0 (w35.heap[gb136]? = some (.cells #[.int .u32 0, .int .i64 0] 37 (0, 0))) := ⟨h2_⟩;have n3_ : Aside0 (w.heap.size ≤ gb136) := ⟨h3_⟩;have n4_ : Aside0 (w.heap.size ≤ gb136) := ⟨h4_⟩;have n5_ : Aside0 (gb126 ≠ gb136) := ⟨h5_⟩;have n6_ : Aside0 (gb136 ≠ gb126) := ⟨h6_⟩;have n7_ : Aside0 (gb127 ≠ gb136) := ⟨h7_⟩;have n8_ : Aside0 (gb136 ≠ gb127) := ⟨h8_⟩;have n9_ : Aside0 (Below w.heap.size w w35) := ⟨h9_⟩;clear BK126;clear BK127;clear HB;clear h0_ h1_ h2_ h3_ h4_ h5_ h6_ h7_ h8_ h9_;have BK126 := n0_;have BK127 := n1_;have BK136 := n2_;have GW136 := n3_;have GE136 := n4_;have NB126_136 := n5_;have NB136_126 := n6_;have NB127_136 := n7_;have NB136_127 := n8_;have HB := n9_;clear n0_ n1_ n2_ n3_ n4_ n5_ n6_ n7_ n8_ n9_;have hHeld : w35.cell? ⟨gb126, 0, none⟩ = some (.int .u32 a0_0) ∧ w35.cell? ⟨gb126, 1, none⟩ = some (.int .i64 a0_1) := hS_;refine norm_ (a' := ?_) ?_ ?_
              rotate_left;·simp only [putAll, Act.put, setIfInBounds_toArray, set_cons_zero, set_cons_succ];rfl
              refine two_ (i := 7) (j := 13) (Ni := some 30) (Nj := some 8) #[T,T,T,T,T,T,T,T,T,T,T,F,T,F,F,F] #[T,T,T,T,T,T,T,F,T,T,T,F,T,T,F,F] rfl rfl rfl rfl (two_of HT_.out (by kernel_rfl)) (by decide) (by decide) (fun K hK => ?_) (fun K hK => ?_)
              ·skip
               refine goes_ Try.func24 (by kernel_rfl) rfl #[.agg #[.int .u32 a0_0, .int .i64 a0_1]] (by rfl) rfl rfl (by (try simp only [List.map_toArray, List.map_cons, List.map_nil]); first | done | rfl | (simp only [List.length_drop, List.length_take]; rfl)) ?_
               with_reducible refine (cidr_Last.calls a0_0 a0_1 t133 _ A29.out).mono ?_;rintro e w36 ⟨rfl, hb⟩;refine ⟨_, rfl, ?_⟩;replace BK126 := Aside0.mk (bb BK126.out hb);replace BK127 := Aside0.mk (bb BK127.out hb);replace BK136 := Aside0.mk (bb BK136.out hb)
               replace HB := Aside0.mk (below_step (by repeat (first | (with_reducible first | exact HB.out | apply below_alloc | apply pw_below_drewN | apply below_drew1 | refine below_set ?_ GE126.out | refine below_set ?_ GE127.out | refine below_set ?_ GE136.out) | exact HB.out)) hb)
               (try clear hb);(try clear hb2);(try clear hk);(try clear hi)
               refine hK.out _ _ ⟨(blk_cell BK126.out 0).trans rfl, (blk_cell BK126.out 1).trans rfl⟩ (fun hHeld => ?_)
               clear hK K
               refine norm_ (a' := ?_) ?_ ?_;rotate_left;·show Act.put _ (some 30) _ = _;simp only [Act.put, setIfInBounds_toArray, set_cons_zero, set_cons_succ, i64_w, i32_w];rfl
               exact nm (hJ5_7_12 (gb136) _ ⟨hHeld, (by (with_reducible repeat (first | refine blk_drewN ?_ _ | refine blk_drew ?_ | refine blk_alloc ?_ _)); exact BK126.out), (by (with_reducible repeat (first | refine blk_drewN ?_ _ | refine blk_drew ?_ | refine blk_alloc ?_ _)); exact BK127.out), (by (with_reducible repeat (first | refine blk_drewN ?_ _ | refine blk_drew ?_ | refine blk_alloc ?_ _)); exact BK136.out), GW136.out, GE136.out, NB126_136.out, NB136_126.out, NB127_136.out, NB136_127.out, (by repeat (first | (with_reducible first | exact HB.out | apply below_alloc | apply pw_below_drewN | apply below_drew1 | refine below_set ?_ GE126.out | refine below_set ?_ GE127.out | refine below_set ?_ GE136.out) | exact HB.out))⟩)
              ·skip
               refine box_step ?hg (N := 8) ?hd (cs := #[.int .u32 0, .int .i64 0]) (t := 37) ?hr ?_; (case hd => rfl); (case hg => rfl); (case hr => first | (go_simp; done) | (go_simp; rfl))
               intro gb137 hg w36 hbox hb
               have BK137 := Aside0.mk (hbox)
               have GW137 := Aside0.mk ((by rw [hg]; exact (below_size (by repeat (first | (with_reducible first | exact HB.out | apply below_alloc | apply pw_below_drewN | apply below_drew1 | refine below_set ?_ GE126.out | refine below_set ?_ GE127.out | refine below_set ?_ GE136.out) | exact HB.out))) : w.heap.size ≤ gb137))
               have GE137 := GW137;have NB126_137 := Aside0.mk ((ne1 BK126.out hg : gb126 ≠ gb137));have NB137_126 := Aside0.mk ((ne2 BK126.out hg : gb137 ≠ gb126));have NB127_137 := Aside0.mk ((ne1 BK127.out hg : gb127 ≠ gb137));have NB137_127 := Aside0.mk ((ne2 BK127.out hg : gb137 ≠ gb127));have NB136_137 := Aside0.mk ((ne1 BK136.out hg : gb136 ≠ gb137));have NB137_136 := Aside0.mk ((ne2 BK136.out hg : gb137 ≠ gb136));replace BK126 := Aside0.mk (bb BK126.out hb);replace BK127 := Aside0.mk (bb BK127.out hb);replace BK136 := Aside0.mk (bb BK136.out hb)
               replace HB := Aside0.mk (below_step (by repeat (first | (with_reducible first | exact HB.out | apply below_alloc | apply pw_below_drewN | apply below_drew1 | refine below_set ?_ GE126.out | refine below_set ?_ GE127.out | refine below_set ?_ GE136.out) | exact HB.out)) hb)
               clear hb hbox hg
               refine hK.out _ _ ⟨(blk_cell BK126.out 0).trans rfl, (blk_cell BK126.out 1).trans rfl⟩ (fun hHeld => ?_)
               clear hK K
               refine norm_ (a' := ?_) ?_ ?_;rotate_left;·show Act.put _ (some 8) _ = _;simp only [Act.put, setIfInBounds_toArray, set_cons_zero, set_cons_succ, i64_w, i32_w];rfl
               exact nm (hJ5_12_13 (gb136, gb137) _ ⟨hHeld, (by (with_reducible repeat (first | refine blk_drewN ?_ _ | refine blk_drew ?_ | refine blk_alloc ?_ _)); exact BK126.out), (by (with_reducible repeat (first | refine blk_drewN ?_ _ | refine blk_drew ?_ | refine blk_alloc ?_ _)); exact BK127.out), (by (with_reducible repeat (first | refine blk_drewN ?_ _ | refine blk_drew ?_ | refine blk_alloc ?_ _)); exact BK136.out), (by (with_reducible repeat (first | refine blk_drewN ?_ _ | refine blk_drew ?_ | refine blk_alloc ?_ _)); exact BK137.out), GW136.out, GE136.out, NB126_136.out, NB136_126.out, NB127_136.out, NB136_127.out, NB137_136.out, NB136_137.out, GW137.out, GE137.out, NB126_137.out, NB137_126.out, NB127_137.out, NB137_127.out, (by repeat (first | (with_reducible first | exact HB.out | apply below_alloc | apply pw_below_drewN | apply below_drew1 | refine below_set ?_ GE126.out | refine below_set ?_ GE127.out | refine below_set ?_ GE136.out | refine below_set ?_ GE137.out) | exact HB.out))⟩)
            ·skip
             rintro _ w35 ⟨hS_, h0_, h1_, h2_⟩;have n0_ : Aside0 (w35.heap[gb126]? = some (.cells #[.int .u32 a0_0, .int .i64 a0_1] 37 (0, 0))) := ⟨h0_⟩;have n1_ : Aside0 (w35.heap[gb127]? = some (.cells #[.int .u32 a1_0, .int .i64 a1_1] 37 (0, 0))) := ⟨h1_⟩;have n2_ : Aside0 (Below w.heap.size w w35) := ⟨h2_⟩;clear BK126;clear BK127;clear HB;clear h0_ h1_ h2_;have BK126 := n0_;have BK127 := n1_;have HB := n2_;clear n0_ n1_ n2_;have hHeld : w35.cell? ⟨gb126, 0, none⟩ = some (.int .u32 a0_0) ∧ w35.cell? ⟨gb126, 1, none⟩ = some (.int .i64 a0_1) := hS_;refine norm_ (a' := ?_) ?_ ?_
             rotate_left;·simp only [putAll, Act.put, setIfInBounds_toArray, set_cons_zero, set_cons_succ];rfl
             refine three_ (i := 11) (j := 12) (k := 13) (Ni := some 34) (Nj := some 7) (Nk := some 8) #[T,T,T,T,T,T,T,T,T,T,T,T,F,F,F,F] #[T,T,T,T,T,T,T,T,T,T,T,F,T,F,F,F] #[T,T,T,T,T,T,T,T,T,T,T,F,F,T,F,F] rfl rfl rfl rfl rfl rfl (three_of HT_.out (by kernel_rfl)) (by decide) (by decide) (by decide) (fun K hK => ?_) (fun K hK => ?_) (fun K hK => ?_)
             ·skip
              refine goes_ Try.func23 (by kernel_rfl) rfl #[.int .u32 t133, .int .i64 (wrap64 (a0_1 + 1))] (by rfl) rfl rfl (by (try simp only [List.map_toArray, List.map_cons, List.map_nil]); first | done | rfl | (simp only [List.length_drop, List.length_take]; rfl)) ?_
              with_reducible refine (cidr_Of.calls t133 (wrap64 (a0_1 + 1)) t134 t135 _ A30.out).mono ?_;rintro e w36 ⟨rfl, hb⟩;refine ⟨_, rfl, ?_⟩;replace BK126 := Aside0.mk (bb BK126.out hb);replace BK127 := Aside0.mk (bb BK127.out hb)
              replace HB := Aside0.mk (below_step (by repeat (first | (with_reducible first | exact HB.out | apply below_alloc | apply pw_below_drewN | apply below_drew1 | refine below_set ?_ GE126.out | refine below_set ?_ GE127.out) | exact HB.out)) hb)
              (try clear hb);(try clear hb2);(try clear hk);(try clear hi)
              refine hK.out _ _ ⟨(blk_cell BK126.out 0).trans rfl, (blk_cell BK126.out 1).trans rfl⟩ (fun hHeld => ?_)
              clear hK K
              refine norm_ (a' := ?_) ?_ ?_;rotate_left;·show Act.put _ (some 34) _ = _;simp only [Act.put, setIfInBounds_toArray, set_cons_zero, set_cons_succ, i64_w, i32_w];rfl
              exact nm (hJ5_7_11 () _ ⟨hHeld, (by (with_reducible repeat (first | refine blk_drewN ?_ _ | refine blk_drew ?_ | refine blk_alloc ?_ _)); exact BK126.out), (by (with_reducible repeat (first | refine blk_drewN ?_ _ | refine blk_drew ?_ | refine blk_alloc ?_ _)); exact BK127.out), (by repeat (first | (with_reducible first | exact HB.out | apply below_alloc | apply pw_below_drewN | apply below_drew1 | refine below_set ?_ GE126.out | refine below_set ?_ GE127.out) | exact HB.out))⟩)
             ·skip
              refine box_step ?hg (N := 7) ?hd (cs := #[.int .u32 0, .int .i64 0]) (t := 37) ?hr ?_; (case hd => rfl); (case hg => rfl); (case hr => first | (go_simp; done) | (go_simp; rfl))
              intro gb136 hg w36 hbox hb
              have BK136 := Aside0.mk (hbox)
              have GW136 := Aside0.mk ((by rw [hg]; exact (below_size (by repeat (first | (with_reducible first | exact HB.out | apply below_alloc | apply pw_below_drewN | apply below_drew1 | refine below_set ?_ GE126.out | refine below_set ?_ GE127.out) | exact HB.out))) : w.heap.size ≤ gb136))
              have GE136 := GW136;have NB126_136 := Aside0.mk ((ne1 BK126.out hg : gb126 ≠ gb136));have NB136_126 := Aside0.mk ((ne2 BK126.out hg : gb136 ≠ gb126));have NB127_136 := Aside0.mk ((ne1 BK127.out hg : gb127 ≠ gb136));have NB136_127 := Aside0.mk ((ne2 BK127.out hg : gb136 ≠ gb127));replace BK126 := Aside0.mk (bb BK126.out hb);replace BK127 := Aside0.mk (bb BK127.out hb)
              replace HB := Aside0.mk (below_step (by repeat (first | (with_reducible first | exact HB.out | apply below_alloc | apply pw_below_drewN | apply below_drew1 | refine below_set ?_ GE126.out | refine below_set ?_ GE127.out) | exact HB.out)) hb)
              clear hb hbox hg
              refine hK.out _ _ ⟨(blk_cell BK126.out 0).trans rfl, (blk_cell BK126.out 1).trans rfl⟩ (fun hHeld => ?_)
              clear hK K
              refine norm_ (a' := ?_) ?_ ?_;rotate_left;·show Act.put _ (some 7) _ = _;simp only [Act.put, setIfInBounds_toArray, set_cons_zero, set_cons_succ, i64_w, i32_w];rfl
              exact nm (hJ5_7_12 (gb136) _ ⟨hHeld, (by (with_reducible repeat (first | refine blk_drewN ?_ _ | refine blk_drew ?_ | refine blk_alloc ?_ _)); exact BK126.out), (by (with_reducible repeat (first | refine blk_drewN ?_ _ | refine blk_drew ?_ | refine blk_alloc ?_ _)); exact BK127.out), (by (with_reducible repeat (first | refine blk_drewN ?_ _ | refine blk_drew ?_ | refine blk_alloc ?_ _)); exact BK136.out), GW136.out, GE136.out, NB126_136.out, NB136_126.out, NB127_136.out, NB136_127.out, (by repeat (first | (with_reducible first | exact HB.out | apply below_alloc | apply pw_below_drewN | apply below_drew1 | refine below_set ?_ GE126.out | refine below_set ?_ GE127.out | refine below_set ?_ GE136.out) | exact HB.out))⟩)
             ·skip
              refine box_step ?hg (N := 8) ?hd (cs := #[.int .u32 0, .int .i64 0]) (t := 37) ?hr ?_; (case hd => rfl); (case hg => rfl); (case hr => first | (go_simp; done) | (go_simp; rfl))
              intro gb137 hg w36 hbox hb
              have BK137 := Aside0.mk (hbox)
              have GW137 := Aside0.mk ((by rw [hg]; exact (below_size (by repeat (first | (with_reducible first | exact HB.out | apply below_alloc | apply pw_below_drewN | apply below_drew1 | refine below_set ?_ GE126.out | refine below_set ?_ GE127.out) | exact HB.out))) : w.heap.size ≤ gb137))
              have GE137 := GW137;have NB126_137 := Aside0.mk ((ne1 BK126.out hg : gb126 ≠ gb137));have NB137_126 := Aside0.mk ((ne2 BK126.out hg : gb137 ≠ gb126));have NB127_137 := Aside0.mk ((ne1 BK127.out hg : gb127 ≠ gb137));have NB137_127 := Aside0.mk ((ne2 BK127.out hg : gb137 ≠ gb127));replace BK126 := Aside0.mk (bb BK126.out hb);replace BK127 := Aside0.mk (bb BK127.out hb)
              replace HB := Aside0.mk (below_step (by repeat (first | (with_reducible first | exact HB.out | apply below_alloc | apply pw_below_drewN | apply below_drew1 | refine below_set ?_ GE126.out | refine below_set ?_ GE127.out) | exact HB.out)) hb)
              clear hb hbox hg
              refine hK.out _ _ ⟨(blk_cell BK126.out 0).trans rfl, (blk_cell BK126.out 1).trans rfl⟩ (fun hHeld => ?_)
              clear hK K
              refine norm_ (a' := ?_) ?_ ?_;rotate_left;·show Act.put _ (some 8) _ = _;simp only [Act.put, setIfInBounds_toArray, set_cons_zero, set_cons_succ, i64_w, i32_w];rfl
              exact nm (hJ5_7_13 (gb137) _ ⟨hHeld, (by (with_reducible repeat (first | refine blk_drewN ?_ _ | refine blk_drew ?_ | refine blk_alloc ?_ _)); exact BK126.out), (by (with_reducible repeat (first | refine blk_drewN ?_ _ | refine blk_drew ?_ | refine blk_alloc ?_ _)); exact BK127.out), (by (with_reducible repeat (first | refine blk_drewN ?_ _ | refine blk_drew ?_ | refine blk_alloc ?_ _)); exact BK137.out), GW137.out, GE137.out, NB126_137.out, NB137_126.out, NB127_137.out, NB137_127.out, (by repeat (first | (with_reducible first | exact HB.out | apply below_alloc | apply pw_below_drewN | apply below_drew1 | refine below_set ?_ GE126.out | refine below_set ?_ GE127.out | refine below_set ?_ GE137.out) | exact HB.out))⟩)
           ·skip
            rintro ⟨gb136, gb137⟩ w36 ⟨hS_, h0_, h1_, h2_, h3_, h4_, h5_, h6_, h7_, h8_, h9_, h10_, h11_, h12_, h13_, h14_, h15_, h16_, h17_, h18_⟩;have n0_ : Aside0 (w36.heap[gb126]? = some (.cells #[.int .u32 a0_0, .int .i64 a0_1] 37 (0, 0))) := ⟨h0_⟩;have n1_ : Aside0 (w36.heap[gb127]? = some (.cells #[.int .u32 a1_0, .int .i64 a1_1] 37 (0, 0))) := ⟨h1_⟩;have n2_ : Aside0 (w36.heap[gb136]? = some (.cells #[.int .u32 0, .int .i64 0] 37 (0, 0))) := ⟨h2_⟩;have n3_ : Aside0 (w36.heap[gb137]? = some (.cells #[.int .u32 0, .int .i64 0] 37 (0, 0))) := ⟨h3_⟩;have n4_ : Aside0 (w.heap.size ≤ gb136) := ⟨h4_⟩;have n5_ : Aside0 (w.heap.size ≤ gb136) := ⟨h5_⟩;have n6_ : Aside0 (gb126 ≠ gb136) := ⟨h6_⟩;have n7_ : Aside0 (gb136 ≠ gb126) := ⟨h7_⟩;have n8_ : Aside0 (gb127 ≠ gb136) := ⟨h8_⟩;have n9_ : Aside0 (gb136 ≠ gb127) := ⟨h9_⟩;have n10_ : Aside0 (gb137 ≠ gb136) := ⟨h10_⟩;have n11_ : Aside0 (gb136 ≠ gb137) := ⟨h11_⟩;have n12_ : Aside0 (w.heap.size ≤ gb137) := ⟨h12_⟩;have n13_ : Aside0 (w.heap.size ≤ gb137) := ⟨h13_⟩;have n14_ : Aside0 (gb126 ≠ gb137) := ⟨h14_⟩;have n15_ : Aside0 (gb137 ≠ gb126) := ⟨h15_⟩;have n16_ : Aside0 (gb127 ≠ gb137) := ⟨h16_⟩;have n17_ : Aside0 (gb137 ≠ gb127) := ⟨h17_⟩;have n18_ : Aside0 (Below w.heap.size w w36) := ⟨h18_⟩;clear BK126;clear BK127;clear HB;clear h0_ h1_ h2_ h3_ h4_ h5_ h6_ h7_ h8_ h9_ h10_ h11_ h12_ h13_ h14_ h15_ h16_ h17_ h18_;have BK126 := n0_;have BK127 := n1_;have BK136 := n2_;have BK137 := n3_;have GW136 := n4_;have GE136 := n5_;have NB126_136 := n6_
            have NB136_126 := n7_;have NB127_136 := n8_;have NB136_127 := n9_;have NB137_136 := n10_;have NB136_137 := n11_;have GW137 := n12_;have GE137 := n13_;have NB126_137 := n14_;have NB137_126 := n15_;have NB127_137 := n16_;have NB137_127 := n17_;have HB := n18_;clear n0_ n1_ n2_ n3_ n4_ n5_ n6_ n7_ n8_ n9_ n10_ n11_ n12_ n13_ n14_ n15_ n16_ n17_ n18_;have hHeld : w36.cell? ⟨gb126, 0, none⟩ = some (.int .u32 a0_0) ∧ w36.cell? ⟨gb126, 1, none⟩ = some (.int .i64 a0_1) := hS_;refine norm_ (a' := ?_) ?_ ?_
            rotate_left;·simp only [putAll, Act.put, setIfInBounds_toArray, set_cons_zero, set_cons_succ];rfl
            refine one_ (i := 7) (N := some 30) #[T,T,T,T,T,T,T,T,T,T,T,F,T,T,F,F] rfl rfl (one_of HT_.out (by kernel_rfl)) (by decide) (fun K hK => ?_)
            refine goes_ Try.func24 (by kernel_rfl) rfl #[.agg #[.int .u32 a0_0, .int .i64 a0_1]] (by rfl) rfl rfl (by (try simp only [List.map_toArray, List.map_cons, List.map_nil]); first | done | rfl | (simp only [List.length_drop, List.length_take]; rfl)) ?_
            with_reducible refine (cidr_Last.calls a0_0 a0_1 t133 _ A29.out).mono ?_;rintro e w37 ⟨rfl, hb⟩;refine ⟨_, rfl, ?_⟩;replace BK126 := Aside0.mk (bb BK126.out hb);replace BK127 := Aside0.mk (bb BK127.out hb);replace BK136 := Aside0.mk (bb BK136.out hb);replace BK137 := Aside0.mk (bb BK137.out hb)
            replace HB := Aside0.mk (below_step (by repeat (first | (with_reducible first | exact HB.out | apply below_alloc | apply pw_below_drewN | apply below_drew1 | refine below_set ?_ GE126.out | refine below_set ?_ GE127.out | refine below_set ?_ GE136.out | refine below_set ?_ GE137.out) | exact HB.out)) hb)
            (try clear hb);(try clear hb2);(try clear hk);(try clear hi)
            refine hK.out _ _ ⟨(blk_cell BK126.out 0).trans rfl, (blk_cell BK126.out 1).trans rfl⟩ (fun hHeld => ?_)
            clear hK K
            refine norm_ (a' := ?_) ?_ ?_;rotate_left;·show Act.put _ (some 30) _ = _;simp only [Act.put, setIfInBounds_toArray, set_cons_zero, set_cons_succ, i64_w, i32_w];rfl
            exact nm (hJ5_7_12_13 (gb136, gb137) _ ⟨hHeld, (by (with_reducible repeat (first | refine blk_drewN ?_ _ | refine blk_drew ?_ | refine blk_alloc ?_ _)); exact BK126.out), (by (with_reducible repeat (first | refine blk_drewN ?_ _ | refine blk_drew ?_ | refine blk_alloc ?_ _)); exact BK127.out), (by (with_reducible repeat (first | refine blk_drewN ?_ _ | refine blk_drew ?_ | refine blk_alloc ?_ _)); exact BK136.out), (by (with_reducible repeat (first | refine blk_drewN ?_ _ | refine blk_drew ?_ | refine blk_alloc ?_ _)); exact BK137.out), GW136.out, GE136.out, NB126_136.out, NB136_126.out, NB127_136.out, NB136_127.out, NB137_136.out, NB136_137.out, GW137.out, GE137.out, NB126_137.out, NB137_126.out, NB127_137.out, NB137_127.out, (by repeat (first | (with_reducible first | exact HB.out | apply below_alloc | apply pw_below_drewN | apply below_drew1 | refine below_set ?_ GE126.out | refine below_set ?_ GE127.out | refine below_set ?_ GE136.out | refine below_set ?_ GE137.out) | exact HB.out))⟩)
          ·skip
           rintro gb137 w36 ⟨hS_, h0_, h1_, h2_, h3_, h4_, h5_, h6_, h7_, h8_, h9_⟩;have n0_ : Aside0 (w36.heap[gb126]? = some (.cells #[.int .u32 a0_0, .int .i64 a0_1] 37 (0, 0))) := ⟨h0_⟩;have n1_ : Aside0 (w36.heap[gb127]? = some (.cells #[.int .u32 a1_0, .int .i64 a1_1] 37 (0, 0))) := ⟨h1_⟩;have n2_ : Aside0 (w36.heap[gb137]? = some (.cells #[.int .u32 0, .int .i64 0] 37 (0, 0))) := ⟨h2_⟩;have n3_ : Aside0 (w.heap.size ≤ gb137) := ⟨h3_⟩;have n4_ : Aside0 (w.heap.size ≤ gb137) := ⟨h4_⟩;have n5_ : Aside0 (gb126 ≠ gb137) := ⟨h5_⟩;have n6_ : Aside0 (gb137 ≠ gb126) := ⟨h6_⟩;have n7_ : Aside0 (gb127 ≠ gb137) := ⟨h7_⟩;have n8_ : Aside0 (gb137 ≠ gb127) := ⟨h8_⟩;have n9_ : Aside0 (Below w.heap.size w w36) := ⟨h9_⟩;clear BK126;clear BK127;clear HB;clear h0_ h1_ h2_ h3_ h4_ h5_ h6_ h7_ h8_ h9_;have BK126 := n0_;have BK127 := n1_;have BK137 := n2_;have GW137 := n3_;have GE137 := n4_;have NB126_137 := n5_;have NB137_126 := n6_;have NB127_137 := n7_;have NB137_127 := n8_;have HB := n9_;clear n0_ n1_ n2_ n3_ n4_ n5_ n6_ n7_ n8_ n9_;have hHeld : w36.cell? ⟨gb126, 0, none⟩ = some (.int .u32 a0_0) ∧ w36.cell? ⟨gb126, 1, none⟩ = some (.int .i64 a0_1) := hS_;refine norm_ (a' := ?_) ?_ ?_
           rotate_left;·simp only [putAll, Act.put, setIfInBounds_toArray, set_cons_zero, set_cons_succ];rfl
           refine two_ (i := 11) (j := 12) (Ni := some 34) (Nj := some 7) #[T,T,T,T,T,T,T,T,T,T,T,T,F,T,F,F] #[T,T,T,T,T,T,T,T,T,T,T,F,T,T,F,F] rfl rfl rfl rfl (two_of HT_.out (by kernel_rfl)) (by decide) (by decide) (fun K hK => ?_) (fun K hK => ?_)
           ·skip
            refine goes_ Try.func23 (by kernel_rfl) rfl #[.int .u32 t133, .int .i64 (wrap64 (a0_1 + 1))] (by rfl) rfl rfl (by (try simp only [List.map_toArray, List.map_cons, List.map_nil]); first | done | rfl | (simp only [List.length_drop, List.length_take]; rfl)) ?_
            with_reducible refine (cidr_Of.calls t133 (wrap64 (a0_1 + 1)) t134 t135 _ A30.out).mono ?_;rintro e w37 ⟨rfl, hb⟩;refine ⟨_, rfl, ?_⟩;replace BK126 := Aside0.mk (bb BK126.out hb);replace BK127 := Aside0.mk (bb BK127.out hb);replace BK137 := Aside0.mk (bb BK137.out hb)
            replace HB := Aside0.mk (below_step (by repeat (first | (with_reducible first | exact HB.out | apply below_alloc | apply pw_below_drewN | apply below_drew1 | refine below_set ?_ GE126.out | refine below_set ?_ GE127.out | refine below_set ?_ GE137.out) | exact HB.out)) hb)
            (try clear hb);(try clear hb2);(try clear hk);(try clear hi)
            refine hK.out _ _ ⟨(blk_cell BK126.out 0).trans rfl, (blk_cell BK126.out 1).trans rfl⟩ (fun hHeld => ?_)
            clear hK K
            refine norm_ (a' := ?_) ?_ ?_;rotate_left;·show Act.put _ (some 34) _ = _;simp only [Act.put, setIfInBounds_toArray, set_cons_zero, set_cons_succ, i64_w, i32_w];rfl
            exact nm (hJ5_7_11_13 (gb137) _ ⟨hHeld, (by (with_reducible repeat (first | refine blk_drewN ?_ _ | refine blk_drew ?_ | refine blk_alloc ?_ _)); exact BK126.out), (by (with_reducible repeat (first | refine blk_drewN ?_ _ | refine blk_drew ?_ | refine blk_alloc ?_ _)); exact BK127.out), (by (with_reducible repeat (first | refine blk_drewN ?_ _ | refine blk_drew ?_ | refine blk_alloc ?_ _)); exact BK137.out), GW137.out, GE137.out, NB126_137.out, NB137_126.out, NB127_137.out, NB137_127.out, (by repeat (first | (with_reducible first | exact HB.out | apply below_alloc | apply pw_below_drewN | apply below_drew1 | refine below_set ?_ GE126.out | refine below_set ?_ GE127.out | refine below_set ?_ GE137.out) | exact HB.out))⟩)
           ·skip
            refine box_step ?hg (N := 7) ?hd (cs := #[.int .u32 0, .int .i64 0]) (t := 37) ?hr ?_; (case hd => rfl); (case hg => rfl); (case hr => first | (go_simp; done) | (go_simp; rfl))
            intro gb136 hg w37 hbox hb
            have BK136 := Aside0.mk (hbox)
            have GW136 := Aside0.mk ((by rw [hg]; exact (below_size (by repeat (first | (with_reducible first | exact HB.out | apply below_alloc | apply pw_below_drewN | apply below_drew1 | refine below_set ?_ GE126.out | refine below_set ?_ GE127.out | refine below_set ?_ GE137.out) | exact HB.out))) : w.heap.size ≤ gb136))
            have GE136 := GW136;have NB126_136 := Aside0.mk ((ne1 BK126.out hg : gb126 ≠ gb136));have NB136_126 := Aside0.mk ((ne2 BK126.out hg : gb136 ≠ gb126));have NB127_136 := Aside0.mk ((ne1 BK127.out hg : gb127 ≠ gb136));have NB136_127 := Aside0.mk ((ne2 BK127.out hg : gb136 ≠ gb127));have NB137_136 := Aside0.mk ((ne1 BK137.out hg : gb137 ≠ gb136));have NB136_137 := Aside0.mk ((ne2 BK137.out hg : gb136 ≠ gb137));replace BK126 := Aside0.mk (bb BK126.out hb);replace BK127 := Aside0.mk (bb BK127.out hb);replace BK137 := Aside0.mk (bb BK137.out hb)
            replace HB := Aside0.mk (below_step (by repeat (first | (with_reducible first | exact HB.out | apply below_alloc | apply pw_below_drewN | apply below_drew1 | refine below_set ?_ GE126.out | refine below_set ?_ GE127.out | refine below_set ?_ GE137.out) | exact HB.out)) hb)
            clear hb hbox hg
            refine hK.out _ _ ⟨(blk_cell BK126.out 0).trans rfl, (blk_cell BK126.out 1).trans rfl⟩ (fun hHeld => ?_)
            clear hK K
            refine norm_ (a' := ?_) ?_ ?_;rotate_left;·show Act.put _ (some 7) _ = _;simp only [Act.put, setIfInBounds_toArray, set_cons_zero, set_cons_succ, i64_w, i32_w];rfl
            exact nm (hJ5_7_12_13 (gb136, gb137) _ ⟨hHeld, (by (with_reducible repeat (first | refine blk_drewN ?_ _ | refine blk_drew ?_ | refine blk_alloc ?_ _)); exact BK126.out), (by (with_reducible repeat (first | refine blk_drewN ?_ _ | refine blk_drew ?_ | refine blk_alloc ?_ _)); exact BK127.out), (by (with_reducible repeat (first | refine blk_drewN ?_ _ | refine blk_drew ?_ | refine blk_alloc ?_ _)); exact BK136.out), (by (with_reducible repeat (first | refine blk_drewN ?_ _ | refine blk_drew ?_ | refine blk_alloc ?_ _)); exact BK137.out), GW136.out, GE136.out, NB126_136.out, NB136_126.out, NB127_136.out, NB136_127.out, NB137_136.out, NB136_137.out, GW137.out, GE137.out, NB126_137.out, NB137_126.out, NB127_137.out, NB137_127.out, (by repeat (first | (with_reducible first | exact HB.out | apply below_alloc | apply pw_below_drewN | apply below_drew1 | refine below_set ?_ GE126.out | refine below_set ?_ GE127.out | refine below_set ?_ GE137.out | refine below_set ?_ GE136.out) | exact HB.out))⟩)
         ·skip
          rintro gb136 w36 ⟨hS_, h0_, h1_, h2_, h3_, h4_, h5_, h6_, h7_, h8_, h9_⟩;have n0_ : Aside0 (w36.heap[gb126]? = some (.cells #[.int .u32 a0_0, .int .i64 a0_1] 37 (0, 0))) := ⟨h0_⟩;have n1_ : Aside0 (w36.heap[gb127]? = some (.cells #[.int .u32 a1_0, .int .i64 a1_1] 37 (0, 0))) := ⟨h1_⟩;have n2_ : Aside0 (w36.heap[gb136]? = some (.cells #[.int .u32 0, .int .i64 0] 37 (0, 0))) := ⟨h2_⟩;have n3_ : Aside0 (w.heap.size ≤ gb136) := ⟨h3_⟩;have n4_ : Aside0 (w.heap.size ≤ gb136) := ⟨h4_⟩;have n5_ : Aside0 (gb126 ≠ gb136) := ⟨h5_⟩;have n6_ : Aside0 (gb136 ≠ gb126) := ⟨h6_⟩;have n7_ : Aside0 (gb127 ≠ gb136) := ⟨h7_⟩;have n8_ : Aside0 (gb136 ≠ gb127) := ⟨h8_⟩;have n9_ : Aside0 (Below w.heap.size w w36) := ⟨h9_⟩;clear BK126;clear BK127;clear HB;clear h0_ h1_ h2_ h3_ h4_ h5_ h6_ h7_ h8_ h9_;have BK126 := n0_;have BK127 := n1_;have BK136 := n2_;have GW136 := n3_;have GE136 := n4_;have NB126_136 := n5_;have NB136_126 := n6_;have NB127_136 := n7_;have NB136_127 := n8_;have HB := n9_;clear n0_ n1_ n2_ n3_ n4_ n5_ n6_ n7_ n8_ n9_;have hHeld : w36.cell? ⟨gb126, 0, none⟩ = some (.int .u32 a0_0) ∧ w36.cell? ⟨gb126, 1, none⟩ = some (.int .i64 a0_1) := hS_;refine norm_ (a' := ?_) ?_ ?_
          rotate_left;·simp only [putAll, Act.put, setIfInBounds_toArray, set_cons_zero, set_cons_succ];rfl
          refine two_ (i := 11) (j := 13) (Ni := some 34) (Nj := some 8) #[T,T,T,T,T,T,T,T,T,T,T,T,T,F,F,F] #[T,T,T,T,T,T,T,T,T,T,T,F,T,T,F,F] rfl rfl rfl rfl (two_of HT_.out (by kernel_rfl)) (by decide) (by decide) (fun K hK => ?_) (fun K hK => ?_)
          ·skip
           refine goes_ Try.func23 (by kernel_rfl) rfl #[.int .u32 t133, .int .i64 (wrap64 (a0_1 + 1))] (by rfl) rfl rfl (by (try simp only [List.map_toArray, List.map_cons, List.map_nil]); first | done | rfl | (simp only [List.length_drop, List.length_take]; rfl)) ?_
           with_reducible refine (cidr_Of.calls t133 (wrap64 (a0_1 + 1)) t134 t135 _ A30.out).mono ?_;rintro e w37 ⟨rfl, hb⟩;refine ⟨_, rfl, ?_⟩;replace BK126 := Aside0.mk (bb BK126.out hb);replace BK127 := Aside0.mk (bb BK127.out hb);replace BK136 := Aside0.mk (bb BK136.out hb)
           replace HB := Aside0.mk (below_step (by repeat (first | (with_reducible first | exact HB.out | apply below_alloc | apply pw_below_drewN | apply below_drew1 | refine below_set ?_ GE126.out | refine below_set ?_ GE127.out | refine below_set ?_ GE136.out) | exact HB.out)) hb)
           (try clear hb);(try clear hb2);(try clear hk);(try clear hi)
           refine hK.out _ _ ⟨(blk_cell BK126.out 0).trans rfl, (blk_cell BK126.out 1).trans rfl⟩ (fun hHeld => ?_)
           clear hK K
           refine norm_ (a' := ?_) ?_ ?_;rotate_left;·show Act.put _ (some 34) _ = _;simp only [Act.put, setIfInBounds_toArray, set_cons_zero, set_cons_succ, i64_w, i32_w];rfl
           exact nm (hJ5_7_11_12 (gb136) _ ⟨hHeld, (by (with_reducible repeat (first | refine blk_drewN ?_ _ | refine blk_drew ?_ | refine blk_alloc ?_ _)); exact BK126.out), (by (with_reducible repeat (first | refine blk_drewN ?_ _ | refine blk_drew ?_ | refine blk_alloc ?_ _)); exact BK127.out), (by (with_reducible repeat (first | refine blk_drewN ?_ _ | refine blk_drew ?_ | refine blk_alloc ?_ _)); exact BK136.out), GW136.out, GE136.out, NB126_136.out, NB136_126.out, NB127_136.out, NB136_127.out, (by repeat (first | (with_reducible first | exact HB.out | apply below_alloc | apply pw_below_drewN | apply below_drew1 | refine below_set ?_ GE126.out | refine below_set ?_ GE127.out | refine below_set ?_ GE136.out) | exact HB.out))⟩)
          ·skip
           refine box_step ?hg (N := 8) ?hd (cs := #[.int .u32 0, .int .i64 0]) (t := 37) ?hr ?_; (case hd => rfl); (case hg => rfl); (case hr => first | (go_simp; done) | (go_simp; rfl))
           intro gb137 hg w37 hbox hb
           have BK137 := Aside0.mk (hbox)
           have GW137 := Aside0.mk ((by rw [hg]; exact (below_size (by repeat (first | (with_reducible first | exact HB.out | apply below_alloc | apply pw_below_drewN | apply below_drew1 | refine below_set ?_ GE126.out | refine below_set ?_ GE127.out | refine below_set ?_ GE136.out) | exact HB.out))) : w.heap.size ≤ gb137))
           have GE137 := GW137;have NB126_137 := Aside0.mk ((ne1 BK126.out hg : gb126 ≠ gb137));have NB137_126 := Aside0.mk ((ne2 BK126.out hg : gb137 ≠ gb126));have NB127_137 := Aside0.mk ((ne1 BK127.out hg : gb127 ≠ gb137));have NB137_127 := Aside0.mk ((ne2 BK127.out hg : gb137 ≠ gb127));have NB136_137 := Aside0.mk ((ne1 BK136.out hg : gb136 ≠ gb137));have NB137_136 := Aside0.mk ((ne2 BK136.out hg : gb137 ≠ gb136));replace BK126 := Aside0.mk (bb BK126.out hb);replace BK127 := Aside0.mk (bb BK127.out hb);replace BK136 := Aside0.mk (bb BK136.out hb)
           replace HB := Aside0.mk (below_step (by repeat (first | (with_reducible first | exact HB.out | apply below_alloc | apply pw_below_drewN | apply below_drew1 | refine below_set ?_ GE126.out | refine below_set ?_ GE127.out | refine below_set ?_ GE136.out) | exact HB.out)) hb)
           clear hb hbox hg
           refine hK.out _ _ ⟨(blk_cell BK126.out 0).trans rfl, (blk_cell BK126.out 1).trans rfl⟩ (fun hHeld => ?_)
           clear hK K
           refine norm_ (a' := ?_) ?_ ?_;rotate_left;·show Act.put _ (some 8) _ = _;simp only [Act.put, setIfInBounds_toArray, set_cons_zero, set_cons_succ, i64_w, i32_w];rfl
           exact nm (hJ5_7_12_13 (gb136, gb137) _ ⟨hHeld, (by (with_reducible repeat (first | refine blk_drewN ?_ _ | refine blk_drew ?_ | refine blk_alloc ?_ _)); exact BK126.out), (by (with_reducible repeat (first | refine blk_drewN ?_ _ | refine blk_drew ?_ | refine blk_alloc ?_ _)); exact BK127.out), (by (with_reducible repeat (first | refine blk_drewN ?_ _ | refine blk_drew ?_ | refine blk_alloc ?_ _)); exact BK136.out), (by (with_reducible repeat (first | refine blk_drewN ?_ _ | refine blk_drew ?_ | refine blk_alloc ?_ _)); exact BK137.out), GW136.out, GE136.out, NB126_136.out, NB136_126.out, NB127_136.out, NB136_127.out, NB137_136.out, NB136_137.out, GW137.out, GE137.out, NB126_137.out, NB137_126.out, NB127_137.out, NB137_127.out, (by repeat (first | (with_reducible first | exact HB.out | apply below_alloc | apply pw_below_drewN | apply below_drew1 | refine below_set ?_ GE126.out | refine below_set ?_ GE127.out | refine below_set ?_ GE136.out | refine below_set ?_ GE137.out) | exact HB.out))⟩)
        ·skip
         rintro _ w36 ⟨hS_, h0_, h1_, h2_⟩;have n0_ : Aside0 (w36.heap[gb126]? = some (.cells #[.int .u32 a0_0, .int .i64 a0_1] 37 (0, 0))) := ⟨h0_⟩;have n1_ : Aside0 (w36.heap[gb127]? = some (.cells #[.int .u32 a1_0, .int .i64 a1_1] 37 (0, 0))) := ⟨h1_⟩;have n2_ : Aside0 (Below w.heap.size w w36) := ⟨h2_⟩;clear BK126;clear BK127;clear HB;clear h0_ h1_ h2_;have BK126 := n0_;have BK127 := n1_;have HB := n2_;clear n0_ n1_ n2_;have hHeld : w36.cell? ⟨gb126, 0, none⟩ = some (.int .u32 a0_0) ∧ w36.cell? ⟨gb126, 1, none⟩ = some (.int .i64 a0_1) := hS_;refine norm_ (a' := ?_) ?_ ?_
         rotate_left;·simp only [putAll, Act.put, setIfInBounds_toArray, set_cons_zero, set_cons_succ];rfl
         refine two_ (i := 12) (j := 13) (Ni := some 7) (Nj := some 8) #[T,T,T,T,T,T,T,T,T,T,T,T,T,F,F,F] #[T,T,T,T,T,T,T,T,T,T,T,T,F,T,F,F] rfl rfl rfl rfl (two_of HT_.out (by kernel_rfl)) (by decide) (by decide) (fun K hK => ?_) (fun K hK => ?_)
         ·skip
          refine box_step ?hg (N := 7) ?hd (cs := #[.int .u32 0, .int .i64 0]) (t := 37) ?hr ?_; (case hd => rfl); (case hg => rfl); (case hr => first | (go_simp; done) | (go_simp; rfl))
          intro gb136 hg w37 hbox hb
          have BK136 := Aside0.mk (hbox)
          have GW136 := Aside0.mk ((by rw [hg]; exact (below_size (by repeat (first | (with_reducible first | exact HB.out | apply below_alloc | apply pw_below_drewN | apply below_drew1 | refine below_set ?_ GE126.out | refine below_set ?_ GE127.out) | exact HB.out))) : w.heap.size ≤ gb136))
          have GE136 := GW136;have NB126_136 := Aside0.mk ((ne1 BK126.out hg : gb126 ≠ gb136));have NB136_126 := Aside0.mk ((ne2 BK126.out hg : gb136 ≠ gb126));have NB127_136 := Aside0.mk ((ne1 BK127.out hg : gb127 ≠ gb136));have NB136_127 := Aside0.mk ((ne2 BK127.out hg : gb136 ≠ gb127));replace BK126 := Aside0.mk (bb BK126.out hb);replace BK127 := Aside0.mk (bb BK127.out hb)
          replace HB := Aside0.mk (below_step (by repeat (first | (with_reducible first | exact HB.out | apply below_alloc | apply pw_below_drewN | apply below_drew1 | refine below_set ?_ GE126.out | refine below_set ?_ GE127.out) | exact HB.out)) hb)
          clear hb hbox hg
          refine hK.out _ _ ⟨(blk_cell BK126.out 0).trans rfl, (blk_cell BK126.out 1).trans rfl⟩ (fun hHeld => ?_)
          clear hK K
          refine norm_ (a' := ?_) ?_ ?_;rotate_left;·show Act.put _ (some 7) _ = _;simp only [Act.put, setIfInBounds_toArray, set_cons_zero, set_cons_succ, i64_w, i32_w];rfl
          exact nm (hJ5_7_11_12 (gb136) _ ⟨hHeld, (by (with_reducible repeat (first | refine blk_drewN ?_ _ | refine blk_drew ?_ | refine blk_alloc ?_ _)); exact BK126.out), (by (with_reducible repeat (first | refine blk_drewN ?_ _ | refine blk_drew ?_ | refine blk_alloc ?_ _)); exact BK127.out), (by (with_reducible repeat (first | refine blk_drewN ?_ _ | refine blk_drew ?_ | refine blk_alloc ?_ _)); exact BK136.out), GW136.out, GE136.out, NB126_136.out, NB136_126.out, NB127_136.out, NB136_127.out, (by repeat (first | (with_reducible first | exact HB.out | apply below_alloc | apply pw_below_drewN | apply below_drew1 | refine below_set ?_ GE126.out | refine below_set ?_ GE127.out | refine below_set ?_ GE136.out) | exact HB.out))⟩)
         ·skip
          refine box_step ?hg (N := 8) ?hd (cs := #[.int .u32 0, .int .i64 0]) (t := 37) ?hr ?_; (case hd => rfl); (case hg => rfl); (case hr => first | (go_simp; done) | (go_simp; rfl))
          intro gb137 hg w37 hbox hb
          have BK137 := Aside0.mk (hbox)
          have GW137 := Aside0.mk ((by rw [hg]; exact (below_size (by repeat (first | (with_reducible first | exact HB.out | apply below_alloc | apply pw_below_drewN | apply below_drew1 | refine below_set ?_ GE126.out | refine below_set ?_ GE127.out) | exact HB.out))) : w.heap.size ≤ gb137))
          have GE137 := GW137;have NB126_137 := Aside0.mk ((ne1 BK126.out hg : gb126 ≠ gb137));have NB137_126 := Aside0.mk ((ne2 BK126.out hg : gb137 ≠ gb126));have NB127_137 := Aside0.mk ((ne1 BK127.out hg : gb127 ≠ gb137));have NB137_127 := Aside0.mk ((ne2 BK127.out hg : gb137 ≠ gb127));replace BK126 := Aside0.mk (bb BK126.out hb);replace BK127 := Aside0.mk (bb BK127.out hb)
          replace HB := Aside0.mk (below_step (by repeat (first | (with_reducible first | exact HB.out | apply below_alloc | apply pw_below_drewN | apply below_drew1 | refine below_set ?_ GE126.out | refine below_set ?_ GE127.out) | exact HB.out)) hb)
          clear hb hbox hg
          refine hK.out _ _ ⟨(blk_cell BK126.out 0).trans rfl, (blk_cell BK126.out 1).trans rfl⟩ (fun hHeld => ?_)
          clear hK K
          refine norm_ (a' := ?_) ?_ ?_;rotate_left;·show Act.put _ (some 8) _ = _;simp only [Act.put, setIfInBounds_toArray, set_cons_zero, set_cons_succ, i64_w, i32_w];rfl
          exact nm (hJ5_7_11_13 (gb137) _ ⟨hHeld, (by (with_reducible repeat (first | refine blk_drewN ?_ _ | refine blk_drew ?_ | refine blk_alloc ?_ _)); exact BK126.out), (by (with_reducible repeat (first | refine blk_drewN ?_ _ | refine blk_drew ?_ | refine blk_alloc ?_ _)); exact BK127.out), (by (with_reducible repeat (first | refine blk_drewN ?_ _ | refine blk_drew ?_ | refine blk_alloc ?_ _)); exact BK137.out), GW137.out, GE137.out, NB126_137.out, NB137_126.out, NB127_137.out, NB137_127.out, (by repeat (first | (with_reducible first | exact HB.out | apply below_alloc | apply pw_below_drewN | apply below_drew1 | refine below_set ?_ GE126.out | refine below_set ?_ GE127.out | refine below_set ?_ GE137.out) | exact HB.out))⟩)
       ·skip
        rintro ⟨gb136, gb137⟩ w37 ⟨hS_, h0_, h1_, h2_, h3_, h4_, h5_, h6_, h7_, h8_, h9_, h10_, h11_, h12_, h13_, h14_, h15_, h16_, h17_, h18_⟩;have n0_ : Aside0 (w37.heap[gb126]? = some (.cells #[.int .u32 a0_0, .int .i64 a0_1] 37 (0, 0))) := ⟨h0_⟩;have n1_ : Aside0 (w37.heap[gb127]? = some (.cells #[.int .u32 a1_0, .int .i64 a1_1] 37 (0, 0))) := ⟨h1_⟩;have n2_ : Aside0 (w37.heap[gb136]? = some (.cells #[.int .u32 0, .int .i64 0] 37 (0, 0))) := ⟨h2_⟩;have n3_ : Aside0 (w37.heap[gb137]? = some (.cells #[.int .u32 0, .int .i64 0] 37 (0, 0))) := ⟨h3_⟩;have n4_ : Aside0 (w.heap.size ≤ gb136) := ⟨h4_⟩;have n5_ : Aside0 (w.heap.size ≤ gb136) := ⟨h5_⟩;have n6_ : Aside0 (gb126 ≠ gb136) := ⟨h6_⟩;have n7_ : Aside0 (gb136 ≠ gb126) := ⟨h7_⟩;have n8_ : Aside0 (gb127 ≠ gb136) := ⟨h8_⟩;have n9_ : Aside0 (gb136 ≠ gb127) := ⟨h9_⟩;have n10_ : Aside0 (gb137 ≠ gb136) := ⟨h10_⟩;have n11_ : Aside0 (gb136 ≠ gb137) := ⟨h11_⟩;have n12_ : Aside0 (w.heap.size ≤ gb137) := ⟨h12_⟩;have n13_ : Aside0 (w.heap.size ≤ gb137) := ⟨h13_⟩;have n14_ : Aside0 (gb126 ≠ gb137) := ⟨h14_⟩;have n15_ : Aside0 (gb137 ≠ gb126) := ⟨h15_⟩;have n16_ : Aside0 (gb127 ≠ gb137) := ⟨h16_⟩;have n17_ : Aside0 (gb137 ≠ gb127) := ⟨h17_⟩;have n18_ : Aside0 (Below w.heap.size w w37) := ⟨h18_⟩;clear BK126;clear BK127;clear HB;clear h0_ h1_ h2_ h3_ h4_ h5_ h6_ h7_ h8_ h9_ h10_ h11_ h12_ h13_ h14_ h15_ h16_ h17_ h18_;have BK126 := n0_;have BK127 := n1_;have BK136 := n2_;have BK137 := n3_;have GW136 := n4_;have GE136 := n5_;have NB126_136 := n6_
        have NB136_126 := n7_;have NB127_136 := n8_;have NB136_127 := n9_;have NB137_136 := n10_;have NB136_137 := n11_;have GW137 := n12_;have GE137 := n13_;have NB126_137 := n14_;have NB137_126 := n15_;have NB127_137 := n16_;have NB137_127 := n17_;have HB := n18_;clear n0_ n1_ n2_ n3_ n4_ n5_ n6_ n7_ n8_ n9_ n10_ n11_ n12_ n13_ n14_ n15_ n16_ n17_ n18_;have hHeld : w37.cell? ⟨gb126, 0, none⟩ = some (.int .u32 a0_0) ∧ w37.cell? ⟨gb126, 1, none⟩ = some (.int .i64 a0_1) := hS_;refine norm_ (a' := ?_) ?_ ?_
        rotate_left;·simp only [putAll, Act.put, setIfInBounds_toArray, set_cons_zero, set_cons_succ];rfl
        refine one_ (i := 11) (N := some 34) #[T,T,T,T,T,T,T,T,T,T,T,T,T,T,F,F] rfl rfl (one_of HT_.out (by kernel_rfl)) (by decide) (fun K hK => ?_)
        refine goes_ Try.func23 (by kernel_rfl) rfl #[.int .u32 t133, .int .i64 (wrap64 (a0_1 + 1))] (by rfl) rfl rfl (by (try simp only [List.map_toArray, List.map_cons, List.map_nil]); first | done | rfl | (simp only [List.length_drop, List.length_take]; rfl)) ?_
        with_reducible refine (cidr_Of.calls t133 (wrap64 (a0_1 + 1)) t134 t135 _ A30.out).mono ?_;rintro e w38 ⟨rfl, hb⟩;refine ⟨_, rfl, ?_⟩;replace BK126 := Aside0.mk (bb BK126.out hb);replace BK127 := Aside0.mk (bb BK127.out hb);replace BK136 := Aside0.mk (bb BK136.out hb);replace BK137 := Aside0.mk (bb BK137.out hb)
        replace HB := Aside0.mk (below_step (by repeat (first | (with_reducible first | exact HB.out | apply below_alloc | apply pw_below_drewN | apply below_drew1 | refine below_set ?_ GE126.out | refine below_set ?_ GE127.out | refine below_set ?_ GE136.out | refine below_set ?_ GE137.out) | exact HB.out)) hb)
        (try clear hb);(try clear hb2);(try clear hk);(try clear hi)
        refine hK.out _ _ ⟨(blk_cell BK126.out 0).trans rfl, (blk_cell BK126.out 1).trans rfl⟩ (fun hHeld => ?_)
        clear hK K
        refine norm_ (a' := ?_) ?_ ?_;rotate_left;·show Act.put _ (some 34) _ = _;simp only [Act.put, setIfInBounds_toArray, set_cons_zero, set_cons_succ, i64_w, i32_w];rfl
        exact nm (hJ5_7_11_12_13 (gb136, gb137) _ ⟨hHeld, (by (with_reducible repeat (first | refine blk_drewN ?_ _ | refine blk_drew ?_ | refine blk_alloc ?_ _)); exact BK126.out), (by (with_reducible repeat (first | refine blk_drewN ?_ _ | refine blk_drew ?_ | refine blk_alloc ?_ _)); exact BK127.out), (by (with_reducible repeat (first | refine blk_drewN ?_ _ | refine blk_drew ?_ | refine blk_alloc ?_ _)); exact BK136.out), (by (with_reducible repeat (first | refine blk_drewN ?_ _ | refine blk_drew ?_ | refine blk_alloc ?_ _)); exact BK137.out), GW136.out, GE136.out, NB126_136.out, NB136_126.out, NB127_136.out, NB136_127.out, NB137_136.out, NB136_137.out, GW137.out, GE137.out, NB126_137.out, NB137_126.out, NB127_137.out, NB137_127.out, (by repeat (first | (with_reducible first | exact HB.out | apply below_alloc | apply pw_below_drewN | apply below_drew1 | refine below_set ?_ GE126.out | refine below_set ?_ GE127.out | refine below_set ?_ GE136.out | refine below_set ?_ GE137.out) | exact HB.out))⟩)
      ·skip
       rintro gb137 w37 ⟨hS_, h0_, h1_, h2_, h3_, h4_, h5_, h6_, h7_, h8_, h9_⟩;have n0_ : Aside0 (w37.heap[gb126]? = some (.cells #[.int .u32 a0_0, .int .i64 a0_1] 37 (0, 0))) := ⟨h0_⟩;have n1_ : Aside0 (w37.heap[gb127]? = some (.cells #[.int .u32 a1_0, .int .i64 a1_1] 37 (0, 0))) := ⟨h1_⟩;have n2_ : Aside0 (w37.heap[gb137]? = some (.cells #[.int .u32 0, .int .i64 0] 37 (0, 0))) := ⟨h2_⟩;have n3_ : Aside0 (w.heap.size ≤ gb137) := ⟨h3_⟩;have n4_ : Aside0 (w.heap.size ≤ gb137) := ⟨h4_⟩;have n5_ : Aside0 (gb126 ≠ gb137) := ⟨h5_⟩;have n6_ : Aside0 (gb137 ≠ gb126) := ⟨h6_⟩;have n7_ : Aside0 (gb127 ≠ gb137) := ⟨h7_⟩;have n8_ : Aside0 (gb137 ≠ gb127) := ⟨h8_⟩;have n9_ : Aside0 (Below w.heap.size w w37) := ⟨h9_⟩;clear BK126;clear BK127;clear HB;clear h0_ h1_ h2_ h3_ h4_ h5_ h6_ h7_ h8_ h9_;have BK126 := n0_;have BK127 := n1_;have BK137 := n2_;have GW137 := n3_;have GE137 := n4_;have NB126_137 := n5_;have NB137_126 := n6_;have NB127_137 := n7_;have NB137_127 := n8_;have HB := n9_;clear n0_ n1_ n2_ n3_ n4_ n5_ n6_ n7_ n8_ n9_;have hHeld : w37.cell? ⟨gb126, 0, none⟩ = some (.int .u32 a0_0) ∧ w37.cell? ⟨gb126, 1, none⟩ = some (.int .i64 a0_1) := hS_;refine norm_ (a' := ?_) ?_ ?_
       rotate_left;·simp only [putAll, Act.put, setIfInBounds_toArray, set_cons_zero, set_cons_succ];rfl
       refine one_ (i := 12) (N := some 7) #[T,T,T,T,T,T,T,T,T,T,T,T,T,T,F,F] rfl rfl (one_of HT_.out (by kernel_rfl)) (by decide) (fun K hK => ?_)
       refine box_step ?hg (N := 7) ?hd (cs := #[.int .u32 0, .int .i64 0]) (t := 37) ?hr ?_; (case hd => rfl); (case hg => rfl); (case hr => first | (go_simp; done) | (go_simp; rfl))
       intro gb136 hg w38 hbox hb
       have BK136 := Aside0.mk (hbox)
       have GW136 := Aside0.mk ((by rw [hg]; exact (below_size (by repeat (first | (with_reducible first | exact HB.out | apply below_alloc | apply pw_below_drewN | apply below_drew1 | refine below_set ?_ GE126.out | refine below_set ?_ GE127.out | refine below_set ?_ GE137.out) | exact HB.out))) : w.heap.size ≤ gb136))
       have GE136 := GW136;have NB126_136 := Aside0.mk ((ne1 BK126.out hg : gb126 ≠ gb136));have NB136_126 := Aside0.mk ((ne2 BK126.out hg : gb136 ≠ gb126));have NB127_136 := Aside0.mk ((ne1 BK127.out hg : gb127 ≠ gb136));have NB136_127 := Aside0.mk ((ne2 BK127.out hg : gb136 ≠ gb127));have NB137_136 := Aside0.mk ((ne1 BK137.out hg : gb137 ≠ gb136));have NB136_137 := Aside0.mk ((ne2 BK137.out hg : gb136 ≠ gb137));replace BK126 := Aside0.mk (bb BK126.out hb);replace BK127 := Aside0.mk (bb BK127.out hb);replace BK137 := Aside0.mk (bb BK137.out hb)
       replace HB := Aside0.mk (below_step (by repeat (first | (with_reducible first | exact HB.out | apply below_alloc | apply pw_below_drewN | apply below_drew1 | refine below_set ?_ GE126.out | refine below_set ?_ GE127.out | refine below_set ?_ GE137.out) | exact HB.out)) hb)
       clear hb hbox hg
       refine hK.out _ _ ⟨(blk_cell BK126.out 0).trans rfl, (blk_cell BK126.out 1).trans rfl⟩ (fun hHeld => ?_)
       clear hK K
       refine norm_ (a' := ?_) ?_ ?_;rotate_left;·show Act.put _ (some 7) _ = _;simp only [Act.put, setIfInBounds_toArray, set_cons_zero, set_cons_succ, i64_w, i32_w];rfl
       exact nm (hJ5_7_11_12_13 (gb136, gb137) _ ⟨hHeld, (by (with_reducible repeat (first | refine blk_drewN ?_ _ | refine blk_drew ?_ | refine blk_alloc ?_ _)); exact BK126.out), (by (with_reducible repeat (first | refine blk_drewN ?_ _ | refine blk_drew ?_ | refine blk_alloc ?_ _)); exact BK127.out), (by (with_reducible repeat (first | refine blk_drewN ?_ _ | refine blk_drew ?_ | refine blk_alloc ?_ _)); exact BK136.out), (by (with_reducible repeat (first | refine blk_drewN ?_ _ | refine blk_drew ?_ | refine blk_alloc ?_ _)); exact BK137.out), GW136.out, GE136.out, NB126_136.out, NB136_126.out, NB127_136.out, NB136_127.out, NB137_136.out, NB136_137.out, GW137.out, GE137.out, NB126_137.out, NB137_126.out, NB127_137.out, NB137_127.out, (by repeat (first | (with_reducible first | exact HB.out | apply below_alloc | apply pw_below_drewN | apply below_drew1 | refine below_set ?_ GE126.out | refine below_set ?_ GE127.out | refine below_set ?_ GE137.out | refine below_set ?_ GE136.out) | exact HB.out))⟩)
     ·skip
      rintro gb136 w37 ⟨hS_, h0_, h1_, h2_, h3_, h4_, h5_, h6_, h7_, h8_, h9_⟩;have n0_ : Aside0 (w37.heap[gb126]? = some (.cells #[.int .u32 a0_0, .int .i64 a0_1] 37 (0, 0))) := ⟨h0_⟩;have n1_ : Aside0 (w37.heap[gb127]? = some (.cells #[.int .u32 a1_0, .int .i64 a1_1] 37 (0, 0))) := ⟨h1_⟩;have n2_ : Aside0 (w37.heap[gb136]? = some (.cells #[.int .u32 0, .int .i64 0] 37 (0, 0))) := ⟨h2_⟩;have n3_ : Aside0 (w.heap.size ≤ gb136) := ⟨h3_⟩;have n4_ : Aside0 (w.heap.size ≤ gb136) := ⟨h4_⟩;have n5_ : Aside0 (gb126 ≠ gb136) := ⟨h5_⟩;have n6_ : Aside0 (gb136 ≠ gb126) := ⟨h6_⟩;have n7_ : Aside0 (gb127 ≠ gb136) := ⟨h7_⟩;have n8_ : Aside0 (gb136 ≠ gb127) := ⟨h8_⟩;have n9_ : Aside0 (Below w.heap.size w w37) := ⟨h9_⟩;clear BK126;clear BK127;clear HB;clear h0_ h1_ h2_ h3_ h4_ h5_ h6_ h7_ h8_ h9_;have BK126 := n0_;have BK127 := n1_;have BK136 := n2_;have GW136 := n3_;have GE136 := n4_;have NB126_136 := n5_;have NB136_126 := n6_;have NB127_136 := n7_;have NB136_127 := n8_;have HB := n9_;clear n0_ n1_ n2_ n3_ n4_ n5_ n6_ n7_ n8_ n9_;have hHeld : w37.cell? ⟨gb126, 0, none⟩ = some (.int .u32 a0_0) ∧ w37.cell? ⟨gb126, 1, none⟩ = some (.int .i64 a0_1) := hS_;refine norm_ (a' := ?_) ?_ ?_
      rotate_left;·simp only [putAll, Act.put, setIfInBounds_toArray, set_cons_zero, set_cons_succ];rfl
      refine one_ (i := 13) (N := some 8) #[T,T,T,T,T,T,T,T,T,T,T,T,T,T,F,F] rfl rfl (one_of HT_.out (by kernel_rfl)) (by decide) (fun K hK => ?_)
      refine box_step ?hg (N := 8) ?hd (cs := #[.int .u32 0, .int .i64 0]) (t := 37) ?hr ?_; (case hd => rfl); (case hg => rfl); (case hr => first | (go_simp; done) | (go_simp; rfl))
      intro gb137 hg w38 hbox hb
      have BK137 := Aside0.mk (hbox)
      have GW137 := Aside0.mk ((by rw [hg]; exact (below_size (by repeat (first | (with_reducible first | exact HB.out | apply below_alloc | apply pw_below_drewN | apply below_drew1 | refine below_set ?_ GE126.out | refine below_set ?_ GE127.out | refine below_set ?_ GE136.out) | exact HB.out))) : w.heap.size ≤ gb137))
      have GE137 := GW137;have NB126_137 := Aside0.mk ((ne1 BK126.out hg : gb126 ≠ gb137));have NB137_126 := Aside0.mk ((ne2 BK126.out hg : gb137 ≠ gb126));have NB127_137 := Aside0.mk ((ne1 BK127.out hg : gb127 ≠ gb137));have NB137_127 := Aside0.mk ((ne2 BK127.out hg : gb137 ≠ gb127));have NB136_137 := Aside0.mk ((ne1 BK136.out hg : gb136 ≠ gb137));have NB137_136 := Aside0.mk ((ne2 BK136.out hg : gb137 ≠ gb136));replace BK126 := Aside0.mk (bb BK126.out hb);replace BK127 := Aside0.mk (bb BK127.out hb);replace BK136 := Aside0.mk (bb BK136.out hb)
      replace HB := Aside0.mk (below_step (by repeat (first | (with_reducible first | exact HB.out | apply below_alloc | apply pw_below_drewN | apply below_drew1 | refine below_set ?_ GE126.out | refine below_set ?_ GE127.out | refine below_set ?_ GE136.out) | exact HB.out)) hb)
      clear hb hbox hg
      refine hK.out _ _ ⟨(blk_cell BK126.out 0).trans rfl, (blk_cell BK126.out 1).trans rfl⟩ (fun hHeld => ?_)
      clear hK K
      refine norm_ (a' := ?_) ?_ ?_;rotate_left;·show Act.put _ (some 8) _ = _;simp only [Act.put, setIfInBounds_toArray, set_cons_zero, set_cons_succ, i64_w, i32_w];rfl
      exact nm (hJ5_7_11_12_13 (gb136, gb137) _ ⟨hHeld, (by (with_reducible repeat (first | refine blk_drewN ?_ _ | refine blk_drew ?_ | refine blk_alloc ?_ _)); exact BK126.out), (by (with_reducible repeat (first | refine blk_drewN ?_ _ | refine blk_drew ?_ | refine blk_alloc ?_ _)); exact BK127.out), (by (with_reducible repeat (first | refine blk_drewN ?_ _ | refine blk_drew ?_ | refine blk_alloc ?_ _)); exact BK136.out), (by (with_reducible repeat (first | refine blk_drewN ?_ _ | refine blk_drew ?_ | refine blk_alloc ?_ _)); exact BK137.out), GW136.out, GE136.out, NB126_136.out, NB136_126.out, NB127_136.out, NB136_127.out, NB137_136.out, NB136_137.out, GW137.out, GE137.out, NB126_137.out, NB137_126.out, NB127_137.out, NB137_127.out, (by repeat (first | (with_reducible first | exact HB.out | apply below_alloc | apply pw_below_drewN | apply below_drew1 | refine below_set ?_ GE126.out | refine below_set ?_ GE127.out | refine below_set ?_ GE136.out | refine below_set ?_ GE137.out) | exact HB.out))⟩)
    rintro ⟨gb136, gb137⟩ w38 ⟨hS_, h0_, h1_, h2_, h3_, h4_, h5_, h6_, h7_, h8_, h9_, h10_, h11_, h12_, h13_, h14_, h15_, h16_, h17_, h18_⟩;have n0_ : Aside0 (w38.heap[gb126]? = some (.cells #[.int .u32 a0_0, .int .i64 a0_1] 37 (0, 0))) := ⟨h0_⟩;have n1_ : Aside0 (w38.heap[gb127]? = some (.cells #[.int .u32 a1_0, .int .i64 a1_1] 37 (0, 0))) := ⟨h1_⟩;have n2_ : Aside0 (w38.heap[gb136]? = some (.cells #[.int .u32 0, .int .i64 0] 37 (0, 0))) := ⟨h2_⟩;have n3_ : Aside0 (w38.heap[gb137]? = some (.cells #[.int .u32 0, .int .i64 0] 37 (0, 0))) := ⟨h3_⟩;have n4_ : Aside0 (w.heap.size ≤ gb136) := ⟨h4_⟩;have n5_ : Aside0 (w.heap.size ≤ gb136) := ⟨h5_⟩;have n6_ : Aside0 (gb126 ≠ gb136) := ⟨h6_⟩;have n7_ : Aside0 (gb136 ≠ gb126) := ⟨h7_⟩;have n8_ : Aside0 (gb127 ≠ gb136) := ⟨h8_⟩;have n9_ : Aside0 (gb136 ≠ gb127) := ⟨h9_⟩;have n10_ : Aside0 (gb137 ≠ gb136) := ⟨h10_⟩;have n11_ : Aside0 (gb136 ≠ gb137) := ⟨h11_⟩;have n12_ : Aside0 (w.heap.size ≤ gb137) := ⟨h12_⟩;have n13_ : Aside0 (w.heap.size ≤ gb137) := ⟨h13_⟩;have n14_ : Aside0 (gb126 ≠ gb137) := ⟨h14_⟩;have n15_ : Aside0 (gb137 ≠ gb126) := ⟨h15_⟩;have n16_ : Aside0 (gb127 ≠ gb137) := ⟨h16_⟩;have n17_ : Aside0 (gb137 ≠ gb127) := ⟨h17_⟩;have n18_ : Aside0 (Below w.heap.size w w38) := ⟨h18_⟩;clear BK126;clear BK127;clear HB;clear h0_ h1_ h2_ h3_ h4_ h5_ h6_ h7_ h8_ h9_ h10_ h11_ h12_ h13_ h14_ h15_ h16_ h17_ h18_;have BK126 := n0_;have BK127 := n1_;have BK136 := n2_;have BK137 := n3_;have GW136 := n4_;have GE136 := n5_;have NB126_136 := n6_
    have NB136_126 := n7_;have NB127_136 := n8_;have NB136_127 := n9_;have NB137_136 := n10_;have NB136_137 := n11_;have GW137 := n12_;have GE137 := n13_;have NB126_137 := n14_;have NB137_126 := n15_;have NB127_137 := n16_;have NB137_127 := n17_;have HB := n18_;clear n0_ n1_ n2_ n3_ n4_ n5_ n6_ n7_ n8_ n9_ n10_ n11_ n12_ n13_ n14_ n15_ n16_ n17_ n18_;have hHeld : w38.cell? ⟨gb126, 0, none⟩ = some (.int .u32 a0_0) ∧ w38.cell? ⟨gb126, 1, none⟩ = some (.int .i64 a0_1) := hS_;refine norm_ (a' := ?_) ?_ ?_
    rotate_left;·simp only [putAll, Act.put, setIfInBounds_toArray, set_cons_zero, set_cons_succ];rfl
    refine one_ (i := 14) (N := none) #[T,T,T,T,T,T,T,T,T,T,T,T,T,T,T,F] rfl rfl (one_of HT_.out (by kernel_rfl)) (by decide) (fun K hK => ?_)
    have hs39 : w38.cell? ⟨gb136, 0, none⟩ = some (.int .u32 0) := (blk_cell BK136.out 0).trans rfl;have hfs39 := blk_frozen BK136.out 0;have hns39_0 := NB126_136.out;have hns39_1 := NB127_136.out;have hns39_3 := NB137_136.out;have hms39_0 := NB136_126.out;have hms39_1 := NB136_127.out;have hms39_3 := NB136_137.out;have hs40 : w38.cell? ⟨gb136, 1, none⟩ = some (.int .i64 0) := (blk_cell BK136.out 1).trans rfl;have hfs40 := blk_frozen BK136.out 1;have hns40_0 := NB126_136.out;have hns40_1 := NB127_136.out;have hns40_3 := NB137_136.out;have hms40_0 := NB136_126.out;have hms40_1 := NB136_127.out;have hms40_3 := NB136_137.out
    refine skip_ (w1 := ?_) (by rfl) rfl ?_ ?_
    rotate_left
    ·go_simp
     rfl
    refine hK.out _ _ ⟨((cell_far (p := ⟨gb136, _, none⟩) NB126_136.out _).trans (((cell_far (p := ⟨gb136, _, none⟩) NB126_136.out _).trans (hHeld.1)))), ((cell_far (p := ⟨gb136, _, none⟩) NB126_136.out _).trans (((cell_far (p := ⟨gb136, _, none⟩) NB126_136.out _).trans (hHeld.2))))⟩ (fun hHeld => ?_)
    clear hK K
    refine one_ (i := 15) (N := none) #[T,T,T,T,T,T,T,T,T,T,T,T,T,T,T,T] rfl rfl (one_of HT_.out (by kernel_rfl)) (by decide) (fun K hK => ?_)
    have hs41 : w38.cell? ⟨gb137, 0, none⟩ = some (.int .u32 0) := (blk_cell BK137.out 0).trans rfl;have hfs41 := blk_frozen BK137.out 0;have hns41_0 := NB126_137.out;have hns41_1 := NB127_137.out;have hns41_2 := NB136_137.out;have hms41_0 := NB137_126.out;have hms41_1 := NB137_127.out;have hms41_2 := NB137_136.out;have hs42 : w38.cell? ⟨gb137, 1, none⟩ = some (.int .i64 0) := (blk_cell BK137.out 1).trans rfl;have hfs42 := blk_frozen BK137.out 1;have hns42_0 := NB126_137.out;have hns42_1 := NB127_137.out;have hns42_2 := NB136_137.out;have hms42_0 := NB137_126.out;have hms42_1 := NB137_127.out;have hms42_2 := NB137_136.out
    refine skip_ (w1 := ?_) (by rfl) rfl ?_ ?_
    rotate_left
    ·go_simp
     rfl
    refine hK.out _ _ ⟨((cell_far (p := ⟨gb137, _, none⟩) NB126_137.out _).trans (((cell_far (p := ⟨gb137, _, none⟩) NB126_137.out _).trans (hHeld.1)))), ((cell_far (p := ⟨gb137, _, none⟩) NB126_137.out _).trans (((cell_far (p := ⟨gb137, _, none⟩) NB126_137.out _).trans (hHeld.2))))⟩ (fun hHeld => ?_)
    clear hK K
    refine done_ (done_of HT_.out (by kernel_rfl)) ?_
    go_upto_region 4 with (fail)
    go_cut [62] (fun v62 wc => ∃ (kq : Nat) (x62_30 : Bool), v62 = .bool x62_30 ∧ Aside0 (crossbucklaw03_CidrHalves.j1 kq x62_30 a0_0 a0_1 a1_0 a1_1 t131 t132 t134 t135 = some r) ∧ Aside0 (kq ≤ kj3) ∧ Aside0 (wc.heap[gb126]? = some (.cells #[.int .u32 a0_0, .int .i64 a0_1] 37 (0, 0))) ∧ Aside0 (wc.heap[gb127]? = some (.cells #[.int .u32 a1_0, .int .i64 a1_1] 37 (0, 0))) ∧ Aside0 (wc.heap[gb136]? = some (.cells #[.int .u32 t131, .int .i64 t132] 37 (0, 0))) ∧ Aside0 (wc.heap[gb137]? = some (.cells #[.int .u32 t134, .int .i64 t135] 37 (0, 0))) ∧ Aside0 (Below w.heap.size w wc))
    case first =>
     have H := HC31.out;clear HC31;replace H := Option.bind_eq_some_iff.mp H;obtain ⟨t138, A430, H⟩ := H
     replace H : (if t138 = true then (crossbucklaw03_CidrHalves.j1 kj3 true a0_0 a0_1 a1_0 a1_1 t131 t132 t134 t135) else ((cidr_Within.f t131 t132 a0_0 a0_1).bind fun t139 => (if t139 = true then ((cidr_Within.f t134 t135 a0_0 a0_1).bind fun t140 => (if t140 = true then ((cidr_Has.f a0_0 a0_1 a2).bind fun t141 => ((cidr_Has.f t131 t132 a2).bind fun t142 => ((cidr_Has.f t134 t135 a2).bind fun t143 => (crossbucklaw03_CidrHalves.j1 kj3 (t141 != (t142 != t143)) a0_0 a0_1 a1_0 a1_1 t131 t132 t134 t135)))) else (crossbucklaw03_CidrHalves.j1 kj3 true a0_0 a0_1 a1_0 a1_1 t131 t132 t134 t135))) else (crossbucklaw03_CidrHalves.j1 kj3 true a0_0 a0_1 a1_0 a1_1 t131 t132 t134 t135)))) = some r := H
     have A43 := Aside0.mk A430;clear A430
     by_cases c44 : t138 = true
     ·subst c44
      have H1 : (crossbucklaw03_CidrHalves.j1 kj3 true a0_0 a0_1 a1_0 a1_1 t131 t132 t134 t135) = some r := by rw [if_pos rfl] at H; exact H
      clear H;have H := H1;clear H1;exfalso;unfold crossbucklaw03_CidrHalves.j1 at H;split at H
      ·exact absurd H (by simp)
      ·rw [if_pos rfl] at H
       exact absurd ((Option.some.inj H).trans hT.out) (by decide)
     ·replace c44 := Bool.eq_false_iff.mpr c44
      subst c44
      have H1 : ((cidr_Within.f t131 t132 a0_0 a0_1).bind fun t139 => (if t139 = true then ((cidr_Within.f t134 t135 a0_0 a0_1).bind fun t140 => (if t140 = true then ((cidr_Has.f a0_0 a0_1 a2).bind fun t141 => ((cidr_Has.f t131 t132 a2).bind fun t142 => ((cidr_Has.f t134 t135 a2).bind fun t143 => (crossbucklaw03_CidrHalves.j1 kj3 (t141 != (t142 != t143)) a0_0 a0_1 a1_0 a1_1 t131 t132 t134 t135)))) else (crossbucklaw03_CidrHalves.j1 kj3 true a0_0 a0_1 a1_0 a1_1 t131 t132 t134 t135))) else (crossbucklaw03_CidrHalves.j1 kj3 true a0_0 a0_1 a1_0 a1_1 t131 t132 t134 t135))) = some r := by rw [if_neg (show ¬ (false = true) by decide)] at H; exact H
      clear H;have H := H1;clear H1;replace H := Option.bind_eq_some_iff.mp H;obtain ⟨t139, A450, H⟩ := H
      replace H : (if t139 = true then ((cidr_Within.f t134 t135 a0_0 a0_1).bind fun t140 => (if t140 = true then ((cidr_Has.f a0_0 a0_1 a2).bind fun t141 => ((cidr_Has.f t131 t132 a2).bind fun t142 => ((cidr_Has.f t134 t135 a2).bind fun t143 => (crossbucklaw03_CidrHalves.j1 kj3 (t141 != (t142 != t143)) a0_0 a0_1 a1_0 a1_1 t131 t132 t134 t135)))) else (crossbucklaw03_CidrHalves.j1 kj3 true a0_0 a0_1 a1_0 a1_1 t131 t132 t134 t135))) else (crossbucklaw03_CidrHalves.j1 kj3 true a0_0 a0_1 a1_0 a1_1 t131 t132 t134 t135)) = some r := H
      have A45 := Aside0.mk A450;clear A450
      by_cases c46 : t139 = true
      ·subst c46
       have H1 : ((cidr_Within.f t134 t135 a0_0 a0_1).bind fun t140 => (if t140 = true then ((cidr_Has.f a0_0 a0_1 a2).bind fun t141 => ((cidr_Has.f t131 t132 a2).bind fun t142 => ((cidr_Has.f t134 t135 a2).bind fun t143 => (crossbucklaw03_CidrHalves.j1 kj3 (t141 != (t142 != t143)) a0_0 a0_1 a1_0 a1_1 t131 t132 t134 t135)))) else (crossbucklaw03_CidrHalves.j1 kj3 true a0_0 a0_1 a1_0 a1_1 t131 t132 t134 t135))) = some r := by rw [if_pos rfl] at H; exact H
       clear H;have H := H1;clear H1;replace H := Option.bind_eq_some_iff.mp H;obtain ⟨t140, A470, H⟩ := H
       replace H : (if t140 = true then ((cidr_Has.f a0_0 a0_1 a2).bind fun t141 => ((cidr_Has.f t131 t132 a2).bind fun t142 => ((cidr_Has.f t134 t135 a2).bind fun t143 => (crossbucklaw03_CidrHalves.j1 kj3 (t141 != (t142 != t143)) a0_0 a0_1 a1_0 a1_1 t131 t132 t134 t135)))) else (crossbucklaw03_CidrHalves.j1 kj3 true a0_0 a0_1 a1_0 a1_1 t131 t132 t134 t135)) = some r := H
       have A47 := Aside0.mk A470;clear A470
       by_cases c48 : t140 = true
       ·subst c48
        have H1 : ((cidr_Has.f a0_0 a0_1 a2).bind fun t141 => ((cidr_Has.f t131 t132 a2).bind fun t142 => ((cidr_Has.f t134 t135 a2).bind fun t143 => (crossbucklaw03_CidrHalves.j1 kj3 (t141 != (t142 != t143)) a0_0 a0_1 a1_0 a1_1 t131 t132 t134 t135)))) = some r := by rw [if_pos rfl] at H; exact H
        clear H;have H := H1;clear H1;replace H := Option.bind_eq_some_iff.mp H;obtain ⟨t141, A490, H⟩ := H
        replace H : ((cidr_Has.f t131 t132 a2).bind fun t142 => ((cidr_Has.f t134 t135 a2).bind fun t143 => (crossbucklaw03_CidrHalves.j1 kj3 (t141 != (t142 != t143)) a0_0 a0_1 a1_0 a1_1 t131 t132 t134 t135))) = some r := H
        have A49 := Aside0.mk A490;clear A490;replace H := Option.bind_eq_some_iff.mp H;obtain ⟨t142, A500, H⟩ := H
        replace H : ((cidr_Has.f t134 t135 a2).bind fun t143 => (crossbucklaw03_CidrHalves.j1 kj3 (t141 != (t142 != t143)) a0_0 a0_1 a1_0 a1_1 t131 t132 t134 t135)) = some r := H
        have A50 := Aside0.mk A500;clear A500;replace H := Option.bind_eq_some_iff.mp H;obtain ⟨t143, A510, H⟩ := H;replace H : (crossbucklaw03_CidrHalves.j1 kj3 (t141 != (t142 != t143)) a0_0 a0_1 a1_0 a1_1 t131 t132 t134 t135) = some r := H;have A51 := Aside0.mk A510;clear A510;have H' := Aside0.mk H;clear H
        try go_wp2
        have n0_ : Aside0 (((((w38.setCell ⟨gb136, 0, none⟩ (.int .u32 t131)).setCell ⟨gb136, 1, none⟩ (.int .i64 t132)).setCell ⟨gb137, 0, none⟩ (.int .u32 t134)).setCell ⟨gb137, 1, none⟩ (.int .i64 t135)).heap[gb126]? = some (.cells #[.int .u32 a0_0, .int .i64 a0_1] 37 (0, 0))) := ⟨by (with_reducible repeat (first | refine blk_drewN ?_ _ | refine blk_drew ?_ | refine blk_alloc ?_ _)); refine blk_far ?_ NB126_137.out _; (with_reducible repeat (first | refine blk_drewN ?_ _ | refine blk_drew ?_ | refine blk_alloc ?_ _)); refine blk_far ?_ NB126_137.out _; (with_reducible repeat (first | refine blk_drewN ?_ _ | refine blk_drew ?_ | refine blk_alloc ?_ _)); refine blk_far ?_ NB126_136.out _; (with_reducible repeat (first | refine blk_drewN ?_ _ | refine blk_drew ?_ | refine blk_alloc ?_ _)); refine blk_far ?_ NB126_136.out _; (with_reducible repeat (first | refine blk_drewN ?_ _ | refine blk_drew ?_ | refine blk_alloc ?_ _)); exact BK126.out⟩
        have n1_ : Aside0 (((((w38.setCell ⟨gb136, 0, none⟩ (.int .u32 t131)).setCell ⟨gb136, 1, none⟩ (.int .i64 t132)).setCell ⟨gb137, 0, none⟩ (.int .u32 t134)).setCell ⟨gb137, 1, none⟩ (.int .i64 t135)).heap[gb127]? = some (.cells #[.int .u32 a1_0, .int .i64 a1_1] 37 (0, 0))) := ⟨by (with_reducible repeat (first | refine blk_drewN ?_ _ | refine blk_drew ?_ | refine blk_alloc ?_ _)); refine blk_far ?_ NB127_137.out _; (with_reducible repeat (first | refine blk_drewN ?_ _ | refine blk_drew ?_ | refine blk_alloc ?_ _)); refine blk_far ?_ NB127_137.out _; (with_reducible repeat (first | refine blk_drewN ?_ _ | refine blk_drew ?_ | refine blk_alloc ?_ _)); refine blk_far ?_ NB127_136.out _; (with_reducible repeat (first | refine blk_drewN ?_ _ | refine blk_drew ?_ | refine blk_alloc ?_ _)); refine blk_far ?_ NB127_136.out _; (with_reducible repeat (first | refine blk_drewN ?_ _ | refine blk_drew ?_ | refine blk_alloc ?_ _)); exact BK127.out⟩
        have n2_ : Aside0 (((((w38.setCell ⟨gb136, 0, none⟩ (.int .u32 t131)).setCell ⟨gb136, 1, none⟩ (.int .i64 t132)).setCell ⟨gb137, 0, none⟩ (.int .u32 t134)).setCell ⟨gb137, 1, none⟩ (.int .i64 t135)).heap[gb136]? = some (.cells #[.int .u32 t131, .int .i64 t132] 37 (0, 0))) := ⟨by (with_reducible repeat (first | refine blk_drewN ?_ _ | refine blk_drew ?_ | refine blk_alloc ?_ _)); refine blk_far ?_ NB136_137.out _; (with_reducible repeat (first | refine blk_drewN ?_ _ | refine blk_drew ?_ | refine blk_alloc ?_ _)); refine blk_far ?_ NB136_137.out _; (with_reducible repeat (first | refine blk_drewN ?_ _ | refine blk_drew ?_ | refine blk_alloc ?_ _)); refine blk_put (cs := #[.int .u32 t131, .int .i64 0]) ?_ 1 _ rfl; (with_reducible repeat (first | refine blk_drewN ?_ _ | refine blk_drew ?_ | refine blk_alloc ?_ _)); refine blk_put (cs := #[.int .u32 0, .int .i64 0]) ?_ 0 _ rfl; (with_reducible repeat (first | refine blk_drewN ?_ _ | refine blk_drew ?_ | refine blk_alloc ?_ _)); exact BK136.out⟩
        have n3_ : Aside0 (((((w38.setCell ⟨gb136, 0, none⟩ (.int .u32 t131)).setCell ⟨gb136, 1, none⟩ (.int .i64 t132)).setCell ⟨gb137, 0, none⟩ (.int .u32 t134)).setCell ⟨gb137, 1, none⟩ (.int .i64 t135)).heap[gb137]? = some (.cells #[.int .u32 t134, .int .i64 t135] 37 (0, 0))) := ⟨by (with_reducible repeat (first | refine blk_drewN ?_ _ | refine blk_drew ?_ | refine blk_alloc ?_ _)); refine blk_put (cs := #[.int .u32 t134, .int .i64 0]) ?_ 1 _ rfl; (with_reducible repeat (first | refine blk_drewN ?_ _ | refine blk_drew ?_ | refine blk_alloc ?_ _)); refine blk_put (cs := #[.int .u32 0, .int .i64 0]) ?_ 0 _ rfl; (with_reducible repeat (first | refine blk_drewN ?_ _ | refine blk_drew ?_ | refine blk_alloc ?_ _)); refine blk_far ?_ NB137_136.out _; (with_reducible repeat (first | refine blk_drewN ?_ _ | refine blk_drew ?_ | refine blk_alloc ?_ _)); refine blk_far ?_ NB137_136.out _; (with_reducible repeat (first | refine blk_drewN ?_ _ | refine blk_drew ?_ | refine blk_alloc ?_ _)); exact BK137.out⟩
        have n4_ : Aside0 (Below w.heap.size w ((((w38.setCell ⟨gb136, 0, none⟩ (.int .u32 t131)).setCell ⟨gb136, 1, none⟩ (.int .i64 t132)).setCell ⟨gb137, 0, none⟩ (.int .u32 t134)).setCell ⟨gb137, 1, none⟩ (.int .i64 t135))) := ⟨by repeat (first | (with_reducible first | exact HB.out | apply below_alloc | apply pw_below_drewN | apply below_drew1 | refine below_set ?_ GE126.out | refine below_set ?_ GE127.out | refine below_set ?_ GE136.out | refine below_set ?_ GE137.out) | exact HB.out)⟩
        (try clear BK126);(try clear BK127);(try clear BK136);(try clear BK137);(try clear HB)
        generalize ((((w38.setCell ⟨gb136, 0, none⟩ (.int .u32 t131)).setCell ⟨gb136, 1, none⟩ (.int .i64 t132)).setCell ⟨gb137, 0, none⟩ (.int .u32 t134)).setCell ⟨gb137, 1, none⟩ (.int .i64 t135)) = w52 at n0_ n1_ n2_ n3_ n4_ ⊢
        have BK126 := n0_;have BK127 := n1_;have BK136 := n2_;have BK137 := n3_;have HB := n4_;clear n0_ n1_ n2_ n3_ n4_;replace BK126 := Aside0.mk (blk_drew BK126.out);replace BK127 := Aside0.mk (blk_drew BK127.out);replace BK136 := Aside0.mk (blk_drew BK136.out);replace BK137 := Aside0.mk (blk_drew BK137.out);replace HB := Aside0.mk (below_drew1 HB.out)
        refine start_ (n := 28) (S := fun w' => w'.cell? ⟨gb136, 0, none⟩ = some (.int .u32 t131) ∧ w'.cell? ⟨gb136, 1, none⟩ = some (.int .i64 t132) ∧ w'.cell? ⟨gb137, 0, none⟩ = some (.int .u32 t134) ∧ w'.cell? ⟨gb137, 1, none⟩ = some (.int .i64 t135) ∧ w'.cell? ⟨gb126, 0, none⟩ = some (.int .u32 a0_0) ∧ w'.cell? ⟨gb126, 1, none⟩ = some (.int .i64 a0_1)) (ds := []) #[F,F,F,F,F,F,F,F,F,F,F,F,F,F,F,F,F,F,F,F,F,F,F,F,F,F,F,F] (by kernel_rfl) rfl rfl ⟨(blk_cell BK136.out 0).trans rfl, (blk_cell BK136.out 1).trans rfl, (blk_cell BK137.out 0).trans rfl, (blk_cell BK137.out 1).trans rfl, (blk_cell BK126.out 0).trans rfl, (blk_cell BK126.out 1).trans rfl⟩ (fun hHeld => ?_); refine with_tabW crossbucklaw03_CidrHalves.tab4 crossbucklaw03_CidrHalves.bits4 (fun HT_ HW_ => ?_)
        generalize w52.drew = w53 at BK126 BK127 BK136 BK137 HB hHeld ⊢
        refine take_ (i := 0) (N := some 35) (v := ?_) (a' := ?_) #[T,F,F,F,F,F,F,F,F,F,F,F,F,F,F,F,F,F,F,F,F,F,F,F,F,F,F,F] rfl rfl (take_ofW HT_.out HW_.out (by kernel_rfl)) (fun _ _ _ h => h) (Or.inl ⟨by rfl, ?_⟩) hHeld ?_ ?_
        rotate_left
        ·rintro w' ⟨s0, s1, s2, s3, s4, s5⟩
         go_simp;with_reducible rfl
        rotate_left;·simp only [Act.put, setIfInBounds_toArray, set_cons_zero, set_cons_succ, i64_w, i32_w];rfl
        refine take_ (i := 1) (N := some 36) (v := ?_) (a' := ?_) #[T,T,F,F,F,F,F,F,F,F,F,F,F,F,F,F,F,F,F,F,F,F,F,F,F,F,F,F] rfl rfl (take_ofW HT_.out HW_.out (by kernel_rfl)) (fun _ _ _ h => h) (Or.inl ⟨by rfl, ?_⟩) hHeld ?_ ?_
        rotate_left
        ·rintro w' ⟨s0, s1, s2, s3, s4, s5⟩
         go_simp;with_reducible rfl
        rotate_left;·simp only [Act.put, setIfInBounds_toArray, set_cons_zero, set_cons_succ, i64_w, i32_w];rfl
        refine one_ (i := 2) (N := some 37) #[T,T,T,F,F,F,F,F,F,F,F,F,F,F,F,F,F,F,F,F,F,F,F,F,F,F,F,F] rfl rfl (one_of HT_.out (by kernel_rfl)) (by decide) (fun K hK => ?_)
        refine goes_ Try.func25 (by kernel_rfl) rfl #[.agg #[.int .u32 t131, .int .i64 t132], .agg #[.int .u32 t134, .int .i64 t135]] (by rfl) rfl rfl (by (try simp only [List.map_toArray, List.map_cons, List.map_nil]); first | done | rfl | (simp only [List.length_drop, List.length_take]; rfl)) ?_
        with_reducible refine (cidr_Meet.calls t131 t132 t134 t135 false _ A43.out).mono ?_;rintro e w54 ⟨rfl, hb⟩;refine ⟨_, rfl, ?_⟩;replace BK126 := Aside0.mk (bb BK126.out hb);replace BK127 := Aside0.mk (bb BK127.out hb);replace BK136 := Aside0.mk (bb BK136.out hb);replace BK137 := Aside0.mk (bb BK137.out hb)
        replace HB := Aside0.mk (below_step (by repeat (first | (with_reducible first | exact HB.out | apply below_alloc | apply pw_below_drewN | apply below_drew1 | refine below_set ?_ GE126.out | refine below_set ?_ GE127.out | refine below_set ?_ GE136.out | refine below_set ?_ GE137.out) | exact HB.out)) hb)
        (try clear hb);(try clear hb2);(try clear hk);(try clear hi)
        refine hK.out _ _ ⟨(blk_cell BK136.out 0).trans rfl, (blk_cell BK136.out 1).trans rfl, (blk_cell BK137.out 0).trans rfl, (blk_cell BK137.out 1).trans rfl, (blk_cell BK126.out 0).trans rfl, (blk_cell BK126.out 1).trans rfl⟩ (fun hHeld => ?_)
        clear hK K
        refine norm_ (a' := ?_) ?_ ?_;rotate_left;·show Act.put _ (some 37) _ = _;simp only [Act.put, setIfInBounds_toArray, set_cons_zero, set_cons_succ, i64_w, i32_w];rfl
        refine pure_ (i := 3) (N := some 38) (v := ?_) (a' := ?_) #[T,T,T,T,F,F,F,F,F,F,F,F,F,F,F,F,F,F,F,F,F,F,F,F,F,F,F,F] rfl rfl (any_of HT_.out (by kernel_rfl)) (fun _ _ _ h => h) (Or.inl ⟨by rfl, ?_⟩) ?_ ?_
        rotate_left;·intro w';go_simp;with_reducible rfl
        rotate_left;·simp only [Act.put, setIfInBounds_toArray, set_cons_zero, set_cons_succ, i64_w, i32_w];rfl
        refine take_ (i := 4) (N := some 39) (v := ?_) (a' := ?_) #[T,T,T,T,T,F,F,F,F,F,F,F,F,F,F,F,F,F,F,F,F,F,F,F,F,F,F,F] rfl rfl (take_ofW HT_.out HW_.out (by kernel_rfl)) (fun _ _ _ h => h) (Or.inl ⟨by rfl, ?_⟩) hHeld ?_ ?_
        rotate_left
        ·rintro w' ⟨s0, s1, s2, s3, s4, s5⟩
         go_simp;with_reducible rfl
        rotate_left;·simp only [Act.put, setIfInBounds_toArray, set_cons_zero, set_cons_succ, i64_w, i32_w];rfl
        refine take_ (i := 5) (N := some 40) (v := ?_) (a' := ?_) #[T,T,T,T,T,T,F,F,F,F,F,F,F,F,F,F,F,F,F,F,F,F,F,F,F,F,F,F] rfl rfl (take_ofW HT_.out HW_.out (by kernel_rfl)) (fun _ _ _ h => h) (Or.inl ⟨by rfl, ?_⟩) hHeld ?_ ?_
        rotate_left
        ·rintro w' ⟨s0, s1, s2, s3, s4, s5⟩
         go_simp;with_reducible rfl
        rotate_left;·simp only [Act.put, setIfInBounds_toArray, set_cons_zero, set_cons_succ, i64_w, i32_w];rfl
        refine one_ (i := 6) (N := some 41) #[T,T,T,T,T,T,T,F,F,F,F,F,F,F,F,F,F,F,F,F,F,F,F,F,F,F,F,F] rfl rfl (one_of HT_.out (by kernel_rfl)) (by decide) (fun K hK => ?_)
        refine goes_ Try.func26 (by kernel_rfl) rfl #[.agg #[.int .u32 t131, .int .i64 t132], .agg #[.int .u32 a0_0, .int .i64 a0_1]] (by rfl) rfl rfl (by (try simp only [List.map_toArray, List.map_cons, List.map_nil]); first | done | rfl | (simp only [List.length_drop, List.length_take]; rfl)) ?_
        with_reducible refine (cidr_Within.calls t131 t132 a0_0 a0_1 true _ A45.out).mono ?_;rintro e w55 ⟨rfl, hb⟩;refine ⟨_, rfl, ?_⟩;replace BK126 := Aside0.mk (bb BK126.out hb);replace BK127 := Aside0.mk (bb BK127.out hb);replace BK136 := Aside0.mk (bb BK136.out hb);replace BK137 := Aside0.mk (bb BK137.out hb)
        replace HB := Aside0.mk (below_step (by repeat (first | (with_reducible first | exact HB.out | apply below_alloc | apply pw_below_drewN | apply below_drew1 | refine below_set ?_ GE126.out | refine below_set ?_ GE127.out | refine below_set ?_ GE136.out | refine below_set ?_ GE137.out) | exact HB.out)) hb)
        (try clear hb);(try clear hb2);(try clear hk);(try clear hi)
        refine hK.out _ _ ⟨(blk_cell BK136.out 0).trans rfl, (blk_cell BK136.out 1).trans rfl, (blk_cell BK137.out 0).trans rfl, (blk_cell BK137.out 1).trans rfl, (blk_cell BK126.out 0).trans rfl, (blk_cell BK126.out 1).trans rfl⟩ (fun hHeld => ?_)
        clear hK K
        refine norm_ (a' := ?_) ?_ ?_;rotate_left;·show Act.put _ (some 41) _ = _;simp only [Act.put, setIfInBounds_toArray, set_cons_zero, set_cons_succ, i64_w, i32_w];rfl
        refine pure_ (i := 7) (N := some 42) (v := ?_) (a' := ?_) #[T,T,T,T,T,T,T,T,F,F,F,F,F,F,F,F,F,F,F,F,F,F,F,F,F,F,F,F] rfl rfl (any_of HT_.out (by kernel_rfl)) (fun _ _ _ h => h) (Or.inl ⟨by rfl, ?_⟩) ?_ ?_
        rotate_left;·intro w';go_simp;with_reducible rfl
        rotate_left;·simp only [Act.put, setIfInBounds_toArray, set_cons_zero, set_cons_succ, i64_w, i32_w];rfl
        refine pure_ (i := 8) (N := some 43) (v := ?_) (a' := ?_) #[T,T,T,T,T,T,T,T,T,F,F,F,F,F,F,F,F,F,F,F,F,F,F,F,F,F,F,F] rfl rfl (any_of HT_.out (by kernel_rfl)) (fun _ _ _ h => h) (Or.inl ⟨by rfl, ?_⟩) ?_ ?_
        rotate_left;·intro w';go_simp;with_reducible rfl
        rotate_left;·simp only [Act.put, setIfInBounds_toArray, set_cons_zero, set_cons_succ, i64_w, i32_w];rfl
        refine pure_ (i := 9) (N := some 44) (v := ?_) (a' := ?_) #[T,T,T,T,T,T,T,T,T,T,F,F,F,F,F,F,F,F,F,F,F,F,F,F,F,F,F,F] rfl rfl (any_of HT_.out (by kernel_rfl)) (fun _ _ _ h => h) (Or.inl ⟨by rfl, ?_⟩) ?_ ?_
        rotate_left;·intro w';go_simp;with_reducible rfl
        rotate_left;·simp only [Act.put, setIfInBounds_toArray, set_cons_zero, set_cons_succ, i64_w, i32_w];rfl
        refine take_ (i := 10) (N := some 45) (v := ?_) (a' := ?_) #[T,T,T,T,T,T,T,T,T,T,T,F,F,F,F,F,F,F,F,F,F,F,F,F,F,F,F,F] rfl rfl (take_ofW HT_.out HW_.out (by kernel_rfl)) (fun _ _ _ h => h) (Or.inl ⟨by rfl, ?_⟩) hHeld ?_ ?_
        rotate_left
        ·rintro w' ⟨s0, s1, s2, s3, s4, s5⟩
         go_simp;with_reducible rfl
        rotate_left;·simp only [Act.put, setIfInBounds_toArray, set_cons_zero, set_cons_succ, i64_w, i32_w];rfl
        refine take_ (i := 11) (N := some 46) (v := ?_) (a' := ?_) #[T,T,T,T,T,T,T,T,T,T,T,T,F,F,F,F,F,F,F,F,F,F,F,F,F,F,F,F] rfl rfl (take_ofW HT_.out HW_.out (by kernel_rfl)) (fun _ _ _ h => h) (Or.inl ⟨by rfl, ?_⟩) hHeld ?_ ?_
        rotate_left
        ·rintro w' ⟨s0, s1, s2, s3, s4, s5⟩
         go_simp;with_reducible rfl
        rotate_left;·simp only [Act.put, setIfInBounds_toArray, set_cons_zero, set_cons_succ, i64_w, i32_w];rfl
        refine one_ (i := 12) (N := some 47) #[T,T,T,T,T,T,T,T,T,T,T,T,T,F,F,F,F,F,F,F,F,F,F,F,F,F,F,F] rfl rfl (one_of HT_.out (by kernel_rfl)) (by decide) (fun K hK => ?_)
        refine goes_ Try.func26 (by kernel_rfl) rfl #[.agg #[.int .u32 t134, .int .i64 t135], .agg #[.int .u32 a0_0, .int .i64 a0_1]] (by rfl) rfl rfl (by (try simp only [List.map_toArray, List.map_cons, List.map_nil]); first | done | rfl | (simp only [List.length_drop, List.length_take]; rfl)) ?_
        with_reducible refine (cidr_Within.calls t134 t135 a0_0 a0_1 true _ A47.out).mono ?_;rintro e w56 ⟨rfl, hb⟩;refine ⟨_, rfl, ?_⟩;replace BK126 := Aside0.mk (bb BK126.out hb);replace BK127 := Aside0.mk (bb BK127.out hb);replace BK136 := Aside0.mk (bb BK136.out hb);replace BK137 := Aside0.mk (bb BK137.out hb)
        replace HB := Aside0.mk (below_step (by repeat (first | (with_reducible first | exact HB.out | apply below_alloc | apply pw_below_drewN | apply below_drew1 | refine below_set ?_ GE126.out | refine below_set ?_ GE127.out | refine below_set ?_ GE136.out | refine below_set ?_ GE137.out) | exact HB.out)) hb)
        (try clear hb);(try clear hb2);(try clear hk);(try clear hi)
        refine hK.out _ _ ⟨(blk_cell BK136.out 0).trans rfl, (blk_cell BK136.out 1).trans rfl, (blk_cell BK137.out 0).trans rfl, (blk_cell BK137.out 1).trans rfl, (blk_cell BK126.out 0).trans rfl, (blk_cell BK126.out 1).trans rfl⟩ (fun hHeld => ?_)
        clear hK K
        refine norm_ (a' := ?_) ?_ ?_;rotate_left;·show Act.put _ (some 47) _ = _;simp only [Act.put, setIfInBounds_toArray, set_cons_zero, set_cons_succ, i64_w, i32_w];rfl
        refine pure_ (i := 13) (N := some 48) (v := ?_) (a' := ?_) #[T,T,T,T,T,T,T,T,T,T,T,T,T,T,F,F,F,F,F,F,F,F,F,F,F,F,F,F] rfl rfl (any_of HT_.out (by kernel_rfl)) (fun _ _ _ h => h) (Or.inl ⟨by rfl, ?_⟩) ?_ ?_
        rotate_left;·intro w';go_simp;with_reducible rfl
        rotate_left;·simp only [Act.put, setIfInBounds_toArray, set_cons_zero, set_cons_succ, i64_w, i32_w];rfl
        refine pure_ (i := 14) (N := some 49) (v := ?_) (a' := ?_) #[T,T,T,T,T,T,T,T,T,T,T,T,T,T,T,F,F,F,F,F,F,F,F,F,F,F,F,F] rfl rfl (any_of HT_.out (by kernel_rfl)) (fun _ _ _ h => h) (Or.inl ⟨by rfl, ?_⟩) ?_ ?_
        rotate_left;·intro w';go_simp;with_reducible rfl
        rotate_left;·simp only [Act.put, setIfInBounds_toArray, set_cons_zero, set_cons_succ, i64_w, i32_w];rfl
        refine pure_ (i := 15) (N := some 50) (v := ?_) (a' := ?_) #[T,T,T,T,T,T,T,T,T,T,T,T,T,T,T,T,F,F,F,F,F,F,F,F,F,F,F,F] rfl rfl (any_of HT_.out (by kernel_rfl)) (fun _ _ _ h => h) (Or.inl ⟨by rfl, ?_⟩) ?_ ?_
        rotate_left;·intro w';go_simp;with_reducible rfl
        rotate_left;·simp only [Act.put, setIfInBounds_toArray, set_cons_zero, set_cons_succ, i64_w, i32_w];rfl
        refine pure_ (i := 17) (N := some 52) (v := ?_) (a' := ?_) #[T,T,T,T,T,T,T,T,T,T,T,T,T,T,T,T,F,T,F,F,F,F,F,F,F,F,F,F] rfl rfl (any_of HT_.out (by kernel_rfl)) (fun _ _ _ h => h) (Or.inl ⟨by rfl, ?_⟩) ?_ ?_
        rotate_left;·intro w';go_simp;with_reducible rfl
        rotate_left;·simp only [Act.put, setIfInBounds_toArray, set_cons_zero, set_cons_succ, i64_w, i32_w];rfl
        refine pure_ (i := 20) (N := some 55) (v := ?_) (a' := ?_) #[T,T,T,T,T,T,T,T,T,T,T,T,T,T,T,T,F,T,F,F,T,F,F,F,F,F,F,F] rfl rfl (any_of HT_.out (by kernel_rfl)) (fun _ _ _ h => h) (Or.inl ⟨by rfl, ?_⟩) ?_ ?_
        rotate_left;·intro w';go_simp;with_reducible rfl
        rotate_left;·simp only [Act.put, setIfInBounds_toArray, set_cons_zero, set_cons_succ, i64_w, i32_w];rfl
        refine pure_ (i := 23) (N := some 58) (v := ?_) (a' := ?_) #[T,T,T,T,T,T,T,T,T,T,T,T,T,T,T,T,F,T,F,F,T,F,F,T,F,F,F,F] rfl rfl (any_of HT_.out (by kernel_rfl)) (fun _ _ _ h => h) (Or.inl ⟨by rfl, ?_⟩) ?_ ?_
        rotate_left;·intro w';go_simp;with_reducible rfl
        rotate_left;·simp only [Act.put, setIfInBounds_toArray, set_cons_zero, set_cons_succ, i64_w, i32_w];rfl
        refine take_ (i := 16) (N := some 51) (v := ?_) (a' := ?_) #[T,T,T,T,T,T,T,T,T,T,T,T,T,T,T,T,T,T,F,F,T,F,F,T,F,F,F,F] rfl rfl (take_ofW HT_.out HW_.out (by kernel_rfl)) (fun _ _ _ h => h) (Or.inl ⟨by rfl, ?_⟩) hHeld ?_ ?_
        rotate_left
        ·rintro w' ⟨s0, s1, s2, s3, s4, s5⟩
         go_simp;with_reducible rfl
        rotate_left;·simp only [Act.put, setIfInBounds_toArray, set_cons_zero, set_cons_succ, i64_w, i32_w];rfl
        refine take_ (i := 19) (N := some 54) (v := ?_) (a' := ?_) #[T,T,T,T,T,T,T,T,T,T,T,T,T,T,T,T,T,T,F,T,T,F,F,T,F,F,F,F] rfl rfl (take_ofW HT_.out HW_.out (by kernel_rfl)) (fun _ _ _ h => h) (Or.inl ⟨by rfl, ?_⟩) hHeld ?_ ?_
        rotate_left
        ·rintro w' ⟨s0, s1, s2, s3, s4, s5⟩
         go_simp;with_reducible rfl
        rotate_left;·simp only [Act.put, setIfInBounds_toArray, set_cons_zero, set_cons_succ, i64_w, i32_w];rfl
        refine take_ (i := 22) (N := some 57) (v := ?_) (a' := ?_) #[T,T,T,T,T,T,T,T,T,T,T,T,T,T,T,T,T,T,F,T,T,F,T,T,F,F,F,F] rfl rfl (take_ofW HT_.out HW_.out (by kernel_rfl)) (fun _ _ _ h => h) (Or.inl ⟨by rfl, ?_⟩) hHeld ?_ ?_
        rotate_left
        ·rintro w' ⟨s0, s1, s2, s3, s4, s5⟩
         go_simp;with_reducible rfl
        rotate_left;·simp only [Act.put, setIfInBounds_toArray, set_cons_zero, set_cons_succ, i64_w, i32_w];rfl
        refine one_ (i := 18) (N := some 53) #[T,T,T,T,T,T,T,T,T,T,T,T,T,T,T,T,T,T,T,T,T,F,T,T,F,F,F,F] rfl rfl (one_of HT_.out (by kernel_rfl)) (by decide) (fun K hK => ?_)
        refine goes_ Try.func27 (by kernel_rfl) rfl #[.agg #[.int .u32 a0_0, .int .i64 a0_1], .int .u32 a2] (by rfl) rfl rfl (by (try simp only [List.map_toArray, List.map_cons, List.map_nil]); first | done | rfl | (simp only [List.length_drop, List.length_take]; rfl)) ?_
        with_reducible refine (cidr_Has.calls a0_0 a0_1 a2 t141 _ A49.out).mono ?_;rintro e w57 ⟨rfl, hb⟩;refine ⟨_, rfl, ?_⟩;replace BK126 := Aside0.mk (bb BK126.out hb);replace BK127 := Aside0.mk (bb BK127.out hb);replace BK136 := Aside0.mk (bb BK136.out hb);replace BK137 := Aside0.mk (bb BK137.out hb)
        replace HB := Aside0.mk (below_step (by repeat (first | (with_reducible first | exact HB.out | apply below_alloc | apply pw_below_drewN | apply below_drew1 | refine below_set ?_ GE126.out | refine below_set ?_ GE127.out | refine below_set ?_ GE136.out | refine below_set ?_ GE137.out) | exact HB.out)) hb)
        (try clear hb);(try clear hb2);(try clear hk);(try clear hi)
        refine hK.out _ _ ⟨(blk_cell BK136.out 0).trans rfl, (blk_cell BK136.out 1).trans rfl, (blk_cell BK137.out 0).trans rfl, (blk_cell BK137.out 1).trans rfl, (blk_cell BK126.out 0).trans rfl, (blk_cell BK126.out 1).trans rfl⟩ (fun hHeld => ?_)
        clear hK K
        refine norm_ (a' := ?_) ?_ ?_;rotate_left;·show Act.put _ (some 53) _ = _;simp only [Act.put, setIfInBounds_toArray, set_cons_zero, set_cons_succ, i64_w, i32_w];rfl
        refine one_ (i := 21) (N := some 56) #[T,T,T,T,T,T,T,T,T,T,T,T,T,T,T,T,T,T,T,T,T,T,T,T,F,F,F,F] rfl rfl (one_of HT_.out (by kernel_rfl)) (by decide) (fun K hK => ?_)
        refine goes_ Try.func27 (by kernel_rfl) rfl #[.agg #[.int .u32 t131, .int .i64 t132], .int .u32 a2] (by rfl) rfl rfl (by (try simp only [List.map_toArray, List.map_cons, List.map_nil]); first | done | rfl | (simp only [List.length_drop, List.length_take]; rfl)) ?_
        with_reducible refine (cidr_Has.calls t131 t132 a2 t142 _ A50.out).mono ?_;rintro e w58 ⟨rfl, hb⟩;refine ⟨_, rfl, ?_⟩;replace BK126 := Aside0.mk (bb BK126.out hb);replace BK127 := Aside0.mk (bb BK127.out hb);replace BK136 := Aside0.mk (bb BK136.out hb);replace BK137 := Aside0.mk (bb BK137.out hb)
        replace HB := Aside0.mk (below_step (by repeat (first | (with_reducible first | exact HB.out | apply below_alloc | apply pw_below_drewN | apply below_drew1 | refine below_set ?_ GE126.out | refine below_set ?_ GE127.out | refine below_set ?_ GE136.out | refine below_set ?_ GE137.out) | exact HB.out)) hb)
        (try clear hb);(try clear hb2);(try clear hk);(try clear hi)
        refine hK.out _ _ ⟨(blk_cell BK136.out 0).trans rfl, (blk_cell BK136.out 1).trans rfl, (blk_cell BK137.out 0).trans rfl, (blk_cell BK137.out 1).trans rfl, (blk_cell BK126.out 0).trans rfl, (blk_cell BK126.out 1).trans rfl⟩ (fun hHeld => ?_)
        clear hK K
        refine norm_ (a' := ?_) ?_ ?_;rotate_left;·show Act.put _ (some 56) _ = _;simp only [Act.put, setIfInBounds_toArray, set_cons_zero, set_cons_succ, i64_w, i32_w];rfl
        refine one_ (i := 24) (N := some 59) #[T,T,T,T,T,T,T,T,T,T,T,T,T,T,T,T,T,T,T,T,T,T,T,T,T,F,F,F] rfl rfl (one_of HT_.out (by kernel_rfl)) (by decide) (fun K hK => ?_)
        refine goes_ Try.func27 (by kernel_rfl) rfl #[.agg #[.int .u32 t134, .int .i64 t135], .int .u32 a2] (by rfl) rfl rfl (by (try simp only [List.map_toArray, List.map_cons, List.map_nil]); first | done | rfl | (simp only [List.length_drop, List.length_take]; rfl)) ?_
        with_reducible refine (cidr_Has.calls t134 t135 a2 t143 _ A51.out).mono ?_;rintro e w59 ⟨rfl, hb⟩;refine ⟨_, rfl, ?_⟩;replace BK126 := Aside0.mk (bb BK126.out hb);replace BK127 := Aside0.mk (bb BK127.out hb);replace BK136 := Aside0.mk (bb BK136.out hb);replace BK137 := Aside0.mk (bb BK137.out hb)
        replace HB := Aside0.mk (below_step (by repeat (first | (with_reducible first | exact HB.out | apply below_alloc | apply pw_below_drewN | apply below_drew1 | refine below_set ?_ GE126.out | refine below_set ?_ GE127.out | refine below_set ?_ GE136.out | refine below_set ?_ GE137.out) | exact HB.out)) hb)
        (try clear hb);(try clear hb2);(try clear hk);(try clear hi)
        refine hK.out _ _ ⟨(blk_cell BK136.out 0).trans rfl, (blk_cell BK136.out 1).trans rfl, (blk_cell BK137.out 0).trans rfl, (blk_cell BK137.out 1).trans rfl, (blk_cell BK126.out 0).trans rfl, (blk_cell BK126.out 1).trans rfl⟩ (fun hHeld => ?_)
        clear hK K
        refine norm_ (a' := ?_) ?_ ?_;rotate_left;·show Act.put _ (some 59) _ = _;simp only [Act.put, setIfInBounds_toArray, set_cons_zero, set_cons_succ, i64_w, i32_w];rfl
        refine pure_ (i := 25) (N := some 60) (v := ?_) (a' := ?_) #[T,T,T,T,T,T,T,T,T,T,T,T,T,T,T,T,T,T,T,T,T,T,T,T,T,T,F,F] rfl rfl (any_of HT_.out (by kernel_rfl)) (fun _ _ _ h => h) (Or.inl ⟨by rfl, ?_⟩) ?_ ?_
        rotate_left;·intro w';go_simp;with_reducible rfl
        rotate_left;·simp only [Act.put, setIfInBounds_toArray, set_cons_zero, set_cons_succ, i64_w, i32_w];rfl
        refine pure_ (i := 26) (N := some 61) (v := ?_) (a' := ?_) #[T,T,T,T,T,T,T,T,T,T,T,T,T,T,T,T,T,T,T,T,T,T,T,T,T,T,T,F] rfl rfl (any_of HT_.out (by kernel_rfl)) (fun _ _ _ h => h) (Or.inl ⟨by rfl, ?_⟩) ?_ ?_
        rotate_left;·intro w';go_simp;with_reducible rfl
        rotate_left;·simp only [Act.put, setIfInBounds_toArray, set_cons_zero, set_cons_succ, i64_w, i32_w];rfl
        refine pure_ (i := 27) (N := some 62) (v := ?_) (a' := ?_) #[T,T,T,T,T,T,T,T,T,T,T,T,T,T,T,T,T,T,T,T,T,T,T,T,T,T,T,T] rfl rfl (any_of HT_.out (by kernel_rfl)) (fun _ _ _ h => h) (Or.inl ⟨by rfl, ?_⟩) ?_ ?_
        rotate_left;·intro w';go_simp;with_reducible rfl
        rotate_left;·simp only [Act.put, setIfInBounds_toArray, set_cons_zero, set_cons_succ, i64_w, i32_w];rfl
        refine done_ (done_of HT_.out (by kernel_rfl)) ?_
        try go_wp2
        go_meet
        case rel => exact ⟨_, ((t141 != (t142 != t143))), (by first | rfl | (simp; done) | (simp [*]; done)), H', ⟨by have := HJ3.out; first | omega | exact Nat.le_refl _⟩, ⟨by (with_reducible repeat (first | refine blk_drewN ?_ _ | refine blk_drew ?_ | refine blk_alloc ?_ _)); exact BK126.out⟩, ⟨by (with_reducible repeat (first | refine blk_drewN ?_ _ | refine blk_drew ?_ | refine blk_alloc ?_ _)); exact BK127.out⟩, ⟨by (with_reducible repeat (first | refine blk_drewN ?_ _ | refine blk_drew ?_ | refine blk_alloc ?_ _)); exact BK136.out⟩, ⟨by (with_reducible repeat (first | refine blk_drewN ?_ _ | refine blk_drew ?_ | refine blk_alloc ?_ _)); exact BK137.out⟩, ⟨by repeat (first | (with_reducible first | exact HB.out | apply below_alloc | apply pw_below_drewN | apply below_drew1 | refine below_set ?_ GE126.out | refine below_set ?_ GE127.out | refine below_set ?_ GE136.out | refine below_set ?_ GE137.out) | exact HB.out)⟩⟩
       ·replace c48 := Bool.eq_false_iff.mpr c48
        subst c48
        have H1 : (crossbucklaw03_CidrHalves.j1 kj3 true a0_0 a0_1 a1_0 a1_1 t131 t132 t134 t135) = some r := by rw [if_neg (show ¬ (false = true) by decide)] at H; exact H
        clear H;have H := H1;clear H1;exfalso;unfold crossbucklaw03_CidrHalves.j1 at H;split at H
        ·exact absurd H (by simp)
        ·rw [if_pos rfl] at H
         exact absurd ((Option.some.inj H).trans hT.out) (by decide)
      ·replace c46 := Bool.eq_false_iff.mpr c46
       subst c46
       have H1 : (crossbucklaw03_CidrHalves.j1 kj3 true a0_0 a0_1 a1_0 a1_1 t131 t132 t134 t135) = some r := by rw [if_neg (show ¬ (false = true) by decide)] at H; exact H
       clear H;have H := H1;clear H1;exfalso;unfold crossbucklaw03_CidrHalves.j1 at H;split at H
       ·exact absurd H (by simp)
       ·rw [if_pos rfl] at H
        exact absurd ((Option.some.inj H).trans hT.out) (by decide)
    case rest =>
     clear HC31
     try clear c2
     try clear p2
     try clear c4
     try clear c25
     try clear c26
     try clear c27
     try clear c44
     try clear c46
     try clear c48
     obtain ⟨kq, x62_30, rfl, HA, HJ30, BK126, BK127, BK136, BK137, HB⟩ := hcut
     cases kq with
     | zero => exact absurd HA.out (by simp [crossbucklaw03_CidrHalves.j1])
     | succ kj30 =>
      have H := HA.out;clear HA;simp only [crossbucklaw03_CidrHalves.j1] at H
      by_cases c60 : x62_30 = true
      ·subst c60
       have H1 : (some false) = some r := by rw [if_pos rfl] at H; exact H
       clear H;have H := H1;clear H1
       exact absurd ((Option.some.inj H).trans hT.out) (by decide)
      ·replace c60 := Bool.eq_false_iff.mpr c60
       subst c60
       have H1 : ((cidr_Last.f t131 t132).bind fun t144 => (if t144 = ((t134 - 1) % 4294967296) then (if t131 = a0_0 then ((cidr_Last.f t134 t135).bind fun t145 => ((cidr_Last.f a0_0 a0_1).bind fun t146 => (crossbucklaw03_CidrHalves.j2 kj30 (t145 != t146) a0_0 a0_1 a1_0 a1_1 t131 t132 t134 t135))) else (crossbucklaw03_CidrHalves.j2 kj30 true a0_0 a0_1 a1_0 a1_1 t131 t132 t134 t135)) else (crossbucklaw03_CidrHalves.j2 kj30 true a0_0 a0_1 a1_0 a1_1 t131 t132 t134 t135))) = some r := by rw [if_neg (show ¬ (false = true) by decide)] at H; exact H
       clear H;have H := H1;clear H1;have HC61 := Aside0.mk H;clear H;go_upto_region 6 with (fail)
       go_cut [82] (fun v82 wc => ∃ (kq : Nat) (x82_60 : Bool), v82 = .bool x82_60 ∧ Aside0 (crossbucklaw03_CidrHalves.j2 kq x82_60 a0_0 a0_1 a1_0 a1_1 t131 t132 t134 t135 = some r) ∧ Aside0 (kq ≤ kj30) ∧ Aside0 (wc.heap[gb126]? = some (.cells #[.int .u32 a0_0, .int .i64 a0_1] 37 (0, 0))) ∧ Aside0 (wc.heap[gb127]? = some (.cells #[.int .u32 a1_0, .int .i64 a1_1] 37 (0, 0))) ∧ Aside0 (wc.heap[gb136]? = some (.cells #[.int .u32 t131, .int .i64 t132] 37 (0, 0))) ∧ Aside0 (wc.heap[gb137]? = some (.cells #[.int .u32 t134, .int .i64 t135] 37 (0, 0))) ∧ Aside0 (Below w.heap.size w wc))
       case first =>
        have H := HC61.out;clear HC61;replace H := Option.bind_eq_some_iff.mp H;obtain ⟨t144, A620, H⟩ := H
        replace H : (if t144 = ((t134 - 1) % 4294967296) then (if t131 = a0_0 then ((cidr_Last.f t134 t135).bind fun t145 => ((cidr_Last.f a0_0 a0_1).bind fun t146 => (crossbucklaw03_CidrHalves.j2 kj30 (t145 != t146) a0_0 a0_1 a1_0 a1_1 t131 t132 t134 t135))) else (crossbucklaw03_CidrHalves.j2 kj30 true a0_0 a0_1 a1_0 a1_1 t131 t132 t134 t135)) else (crossbucklaw03_CidrHalves.j2 kj30 true a0_0 a0_1 a1_0 a1_1 t131 t132 t134 t135)) = some r := H
        have A62 := Aside0.mk A620;clear A620
        by_cases c63 : t144 = ((t134 - 1) % 4294967296)
        ·rw [if_pos c63] at H
         have c63b0 : (t144 == ((t134 - 1) % 4294967296)) = true := beq_iff_eq.mpr c63;have c63b1 : (t144 != ((t134 - 1) % 4294967296)) = false := bne_eq_false_iff_eq.mpr c63;clear c63;(first | rw [c63b0] | (simp only [i64_w, i32_w]; rw [c63b0]) | skip)
         by_cases c64 : t131 = a0_0
         ·rw [if_pos c64] at H
          have c64b0 : (t131 == a0_0) = true := beq_iff_eq.mpr c64;have c64b1 : (t131 != a0_0) = false := bne_eq_false_iff_eq.mpr c64;clear c64;replace H := Option.bind_eq_some_iff.mp H;obtain ⟨t145, A650, H⟩ := H
          replace H : ((cidr_Last.f a0_0 a0_1).bind fun t146 => (crossbucklaw03_CidrHalves.j2 kj30 (t145 != t146) a0_0 a0_1 a1_0 a1_1 t131 t132 t134 t135)) = some r := H
          have A65 := Aside0.mk A650;clear A650;replace H := Option.bind_eq_some_iff.mp H;obtain ⟨t146, A660, H⟩ := H;replace H : (crossbucklaw03_CidrHalves.j2 kj30 (t145 != t146) a0_0 a0_1 a1_0 a1_1 t131 t132 t134 t135) = some r := H;have A66 := Aside0.mk A660;clear A660;have H' := Aside0.mk H;clear H
          try go_wp2
          replace BK126 := Aside0.mk (blk_drew BK126.out);replace BK127 := Aside0.mk (blk_drew BK127.out);replace BK136 := Aside0.mk (blk_drew BK136.out);replace BK137 := Aside0.mk (blk_drew BK137.out);replace HB := Aside0.mk (below_drew1 HB.out)
          refine start_ (n := 20) (S := fun w' => w'.cell? ⟨gb136, 0, none⟩ = some (.int .u32 t131) ∧ w'.cell? ⟨gb136, 1, none⟩ = some (.int .i64 t132) ∧ w'.cell? ⟨gb137, 0, none⟩ = some (.int .u32 t134) ∧ w'.cell? ⟨gb137, 1, none⟩ = some (.int .i64 t135) ∧ w'.cell? ⟨gb126, 0, none⟩ = some (.int .u32 a0_0) ∧ w'.cell? ⟨gb126, 1, none⟩ = some (.int .i64 a0_1)) (ds := []) #[F,F,F,F,F,F,F,F,F,F,F,F,F,F,F,F,F,F,F,F] (by kernel_rfl) rfl rfl ⟨(blk_cell BK136.out 0).trans rfl, (blk_cell BK136.out 1).trans rfl, (blk_cell BK137.out 0).trans rfl, (blk_cell BK137.out 1).trans rfl, (blk_cell BK126.out 0).trans rfl, (blk_cell BK126.out 1).trans rfl⟩ (fun hHeld => ?_); refine with_tabW crossbucklaw03_CidrHalves.tab6 crossbucklaw03_CidrHalves.bits6 (fun HT_ HW_ => ?_)
          generalize wc.drew = w67 at BK126 BK127 BK136 BK137 HB hHeld ⊢
          refine pure_ (i := 2) (N := some 65) (v := ?_) (a' := ?_) #[F,F,T,F,F,F,F,F,F,F,F,F,F,F,F,F,F,F,F,F] rfl rfl (any_of HT_.out (by kernel_rfl)) (fun _ _ _ h => h) (Or.inl ⟨by rfl, ?_⟩) ?_ ?_
          rotate_left;·intro w';go_simp;with_reducible rfl
          rotate_left;·simp only [Act.put, setIfInBounds_toArray, set_cons_zero, set_cons_succ, i64_w, i32_w];rfl
          refine take_ (i := 0) (N := some 63) (v := ?_) (a' := ?_) #[T,F,T,F,F,F,F,F,F,F,F,F,F,F,F,F,F,F,F,F] rfl rfl (take_ofW HT_.out HW_.out (by kernel_rfl)) (fun _ _ _ h => h) (Or.inl ⟨by rfl, ?_⟩) hHeld ?_ ?_
          rotate_left
          ·rintro w' ⟨s0, s1, s2, s3, s4, s5⟩
           go_simp;with_reducible rfl
          rotate_left;·simp only [Act.put, setIfInBounds_toArray, set_cons_zero, set_cons_succ, i64_w, i32_w];rfl
          refine take_ (i := 3) (N := some 66) (v := ?_) (a' := ?_) #[T,F,T,T,F,F,F,F,F,F,F,F,F,F,F,F,F,F,F,F] rfl rfl (take_ofW HT_.out HW_.out (by kernel_rfl)) (fun _ _ _ h => h) (Or.inl ⟨by rfl, ?_⟩) hHeld ?_ ?_
          rotate_left
          ·rintro w' ⟨s0, s1, s2, s3, s4, s5⟩
           go_simp;with_reducible rfl
          rotate_left;·simp only [Act.put, setIfInBounds_toArray, set_cons_zero, set_cons_succ, i64_w, i32_w];rfl
          refine pure_ (i := 4) (N := some 67) (v := ?_) (a' := ?_) #[T,F,T,T,T,F,F,F,F,F,F,F,F,F,F,F,F,F,F,F] rfl rfl (any_of HT_.out (by kernel_rfl)) (fun _ _ _ h => h) (Or.inl ⟨by rfl, ?_⟩) ?_ ?_
          rotate_left;·intro w';go_simp;with_reducible rfl
          rotate_left;·simp only [Act.put, setIfInBounds_toArray, set_cons_zero, set_cons_succ, i64_w, i32_w];rfl
          refine one_ (i := 1) (N := some 64) #[T,T,T,T,T,F,F,F,F,F,F,F,F,F,F,F,F,F,F,F] rfl rfl (one_of HT_.out (by kernel_rfl)) (by decide) (fun K hK => ?_)
          refine goes_ Try.func24 (by kernel_rfl) rfl #[.agg #[.int .u32 t131, .int .i64 t132]] (by rfl) rfl rfl (by (try simp only [List.map_toArray, List.map_cons, List.map_nil]); first | done | rfl | (simp only [List.length_drop, List.length_take]; rfl)) ?_
          with_reducible refine (cidr_Last.calls t131 t132 t144 _ A62.out).mono ?_;rintro e w68 ⟨rfl, hb⟩;refine ⟨_, rfl, ?_⟩;replace BK126 := Aside0.mk (bb BK126.out hb);replace BK127 := Aside0.mk (bb BK127.out hb);replace BK136 := Aside0.mk (bb BK136.out hb);replace BK137 := Aside0.mk (bb BK137.out hb)
          replace HB := Aside0.mk (below_step (by repeat (first | (with_reducible first | exact HB.out | apply below_alloc | apply pw_below_drewN | apply below_drew1 | refine below_set ?_ GE126.out | refine below_set ?_ GE127.out | refine below_set ?_ GE136.out | refine below_set ?_ GE137.out) | exact HB.out)) hb)
          (try clear hb);(try clear hb2);(try clear hk);(try clear hi)
          refine hK.out _ _ ⟨(blk_cell BK136.out 0).trans rfl, (blk_cell BK136.out 1).trans rfl, (blk_cell BK137.out 0).trans rfl, (blk_cell BK137.out 1).trans rfl, (blk_cell BK126.out 0).trans rfl, (blk_cell BK126.out 1).trans rfl⟩ (fun hHeld => ?_)
          clear hK K
          refine norm_ (a' := ?_) ?_ ?_;rotate_left;·show Act.put _ (some 64) _ = _;simp only [Act.put, setIfInBounds_toArray, set_cons_zero, set_cons_succ, i64_w, i32_w];rfl
          refine pure_ (i := 5) (N := some 68) (v := ?_) (a' := ?_) #[T,T,T,T,T,T,F,F,F,F,F,F,F,F,F,F,F,F,F,F] rfl rfl (any_of HT_.out (by kernel_rfl)) (fun _ _ _ h => h) (Or.inl ⟨by rfl, ?_⟩) ?_ ?_
          rotate_left;·intro w';go_simp;simp only [IntKind.wrap_u32, c63b1];with_reducible rfl
          rotate_left;·simp only [Act.put, setIfInBounds_toArray, set_cons_zero, set_cons_succ, i64_w, i32_w];rfl
          refine pure_ (i := 6) (N := some 69) (v := ?_) (a' := ?_) #[T,T,T,T,T,T,T,F,F,F,F,F,F,F,F,F,F,F,F,F] rfl rfl (any_of HT_.out (by kernel_rfl)) (fun _ _ _ h => h) (Or.inl ⟨by rfl, ?_⟩) ?_ ?_
          rotate_left;·intro w';go_simp;with_reducible rfl
          rotate_left;·simp only [Act.put, setIfInBounds_toArray, set_cons_zero, set_cons_succ, i64_w, i32_w];rfl
          refine pure_ (i := 7) (N := some 70) (v := ?_) (a' := ?_) #[T,T,T,T,T,T,T,T,F,F,F,F,F,F,F,F,F,F,F,F] rfl rfl (any_of HT_.out (by kernel_rfl)) (fun _ _ _ h => h) (Or.inl ⟨by rfl, ?_⟩) ?_ ?_
          rotate_left;·intro w';go_simp;with_reducible rfl
          rotate_left;·simp only [Act.put, setIfInBounds_toArray, set_cons_zero, set_cons_succ, i64_w, i32_w];rfl
          refine pure_ (i := 9) (N := some 72) (v := ?_) (a' := ?_) #[T,T,T,T,T,T,T,T,F,T,F,F,F,F,F,F,F,F,F,F] rfl rfl (any_of HT_.out (by kernel_rfl)) (fun _ _ _ h => h) (Or.inl ⟨by rfl, ?_⟩) ?_ ?_
          rotate_left;·intro w';go_simp;with_reducible rfl
          rotate_left;·simp only [Act.put, setIfInBounds_toArray, set_cons_zero, set_cons_succ, i64_w, i32_w];rfl
          refine take_ (i := 8) (N := some 71) (v := ?_) (a' := ?_) #[T,T,T,T,T,T,T,T,T,T,F,F,F,F,F,F,F,F,F,F] rfl rfl (take_ofW HT_.out HW_.out (by kernel_rfl)) (fun _ _ _ h => h) (Or.inl ⟨by rfl, ?_⟩) hHeld ?_ ?_
          rotate_left
          ·rintro w' ⟨s0, s1, s2, s3, s4, s5⟩
           go_simp;with_reducible rfl
          rotate_left;·simp only [Act.put, setIfInBounds_toArray, set_cons_zero, set_cons_succ, i64_w, i32_w];rfl
          refine take_ (i := 10) (N := some 73) (v := ?_) (a' := ?_) #[T,T,T,T,T,T,T,T,T,T,T,F,F,F,F,F,F,F,F,F] rfl rfl (take_ofW HT_.out HW_.out (by kernel_rfl)) (fun _ _ _ h => h) (Or.inl ⟨by rfl, ?_⟩) hHeld ?_ ?_
          rotate_left
          ·rintro w' ⟨s0, s1, s2, s3, s4, s5⟩
           go_simp;with_reducible rfl
          rotate_left;·simp only [Act.put, setIfInBounds_toArray, set_cons_zero, set_cons_succ, i64_w, i32_w];rfl
          refine pure_ (i := 11) (N := some 74) (v := ?_) (a' := ?_) #[T,T,T,T,T,T,T,T,T,T,T,T,F,F,F,F,F,F,F,F] rfl rfl (any_of HT_.out (by kernel_rfl)) (fun _ _ _ h => h) (Or.inl ⟨by rfl, ?_⟩) ?_ ?_
          rotate_left;·intro w';go_simp;with_reducible rfl
          rotate_left;·simp only [Act.put, setIfInBounds_toArray, set_cons_zero, set_cons_succ, i64_w, i32_w];rfl
          refine pure_ (i := 12) (N := some 75) (v := ?_) (a' := ?_) #[T,T,T,T,T,T,T,T,T,T,T,T,T,F,F,F,F,F,F,F] rfl rfl (any_of HT_.out (by kernel_rfl)) (fun _ _ _ h => h) (Or.inl ⟨by rfl, ?_⟩) ?_ ?_
          rotate_left;·intro w';go_simp;with_reducible rfl
          rotate_left;·simp only [Act.put, setIfInBounds_toArray, set_cons_zero, set_cons_succ, i64_w, i32_w];rfl
          refine pure_ (i := 13) (N := some 76) (v := ?_) (a' := ?_) #[T,T,T,T,T,T,T,T,T,T,T,T,T,T,F,F,F,F,F,F] rfl rfl (any_of HT_.out (by kernel_rfl)) (fun _ _ _ h => h) (Or.inl ⟨by rfl, ?_⟩) ?_ ?_
          rotate_left;·intro w';go_simp;with_reducible rfl
          rotate_left;·simp only [Act.put, setIfInBounds_toArray, set_cons_zero, set_cons_succ, i64_w, i32_w];rfl
          refine take_ (i := 14) (N := some 77) (v := ?_) (a' := ?_) #[T,T,T,T,T,T,T,T,T,T,T,T,T,T,T,F,F,F,F,F] rfl rfl (take_ofW HT_.out HW_.out (by kernel_rfl)) (fun _ _ _ h => h) (Or.inl ⟨by rfl, ?_⟩) hHeld ?_ ?_
          rotate_left
          ·rintro w' ⟨s0, s1, s2, s3, s4, s5⟩
           go_simp;with_reducible rfl
          rotate_left;·simp only [Act.put, setIfInBounds_toArray, set_cons_zero, set_cons_succ, i64_w, i32_w];rfl
          refine take_ (i := 16) (N := some 79) (v := ?_) (a' := ?_) #[T,T,T,T,T,T,T,T,T,T,T,T,T,T,T,F,T,F,F,F] rfl rfl (take_ofW HT_.out HW_.out (by kernel_rfl)) (fun _ _ _ h => h) (Or.inl ⟨by rfl, ?_⟩) hHeld ?_ ?_
          rotate_left
          ·rintro w' ⟨s0, s1, s2, s3, s4, s5⟩
           go_simp;with_reducible rfl
          rotate_left;·simp only [Act.put, setIfInBounds_toArray, set_cons_zero, set_cons_succ, i64_w, i32_w];rfl
          refine one_ (i := 15) (N := some 78) #[T,T,T,T,T,T,T,T,T,T,T,T,T,T,T,T,T,F,F,F] rfl rfl (one_of HT_.out (by kernel_rfl)) (by decide) (fun K hK => ?_)
          refine goes_ Try.func24 (by kernel_rfl) rfl #[.agg #[.int .u32 t134, .int .i64 t135]] (by rfl) rfl rfl (by (try simp only [List.map_toArray, List.map_cons, List.map_nil]); first | done | rfl | (simp only [List.length_drop, List.length_take]; rfl)) ?_
          with_reducible refine (cidr_Last.calls t134 t135 t145 _ A65.out).mono ?_;rintro e w69 ⟨rfl, hb⟩;refine ⟨_, rfl, ?_⟩;replace BK126 := Aside0.mk (bb BK126.out hb);replace BK127 := Aside0.mk (bb BK127.out hb);replace BK136 := Aside0.mk (bb BK136.out hb);replace BK137 := Aside0.mk (bb BK137.out hb)
          replace HB := Aside0.mk (below_step (by repeat (first | (with_reducible first | exact HB.out | apply below_alloc | apply pw_below_drewN | apply below_drew1 | refine below_set ?_ GE126.out | refine below_set ?_ GE127.out | refine below_set ?_ GE136.out | refine below_set ?_ GE137.out) | exact HB.out)) hb)
          (try clear hb);(try clear hb2);(try clear hk);(try clear hi)
          refine hK.out _ _ ⟨(blk_cell BK136.out 0).trans rfl, (blk_cell BK136.out 1).trans rfl, (blk_cell BK137.out 0).trans rfl, (blk_cell BK137.out 1).trans rfl, (blk_cell BK126.out 0).trans rfl, (blk_cell BK126.out 1).trans rfl⟩ (fun hHeld => ?_)
          clear hK K
          refine norm_ (a' := ?_) ?_ ?_;rotate_left;·show Act.put _ (some 78) _ = _;simp only [Act.put, setIfInBounds_toArray, set_cons_zero, set_cons_succ, i64_w, i32_w];rfl
          refine one_ (i := 17) (N := some 80) #[T,T,T,T,T,T,T,T,T,T,T,T,T,T,T,T,T,T,F,F] rfl rfl (one_of HT_.out (by kernel_rfl)) (by decide) (fun K hK => ?_)
          refine goes_ Try.func24 (by kernel_rfl) rfl #[.agg #[.int .u32 a0_0, .int .i64 a0_1]] (by rfl) rfl rfl (by (try simp only [List.map_toArray, List.map_cons, List.map_nil]); first | done | rfl | (simp only [List.length_drop, List.length_take]; rfl)) ?_
          with_reducible refine (cidr_Last.calls a0_0 a0_1 t146 _ A66.out).mono ?_;rintro e w70 ⟨rfl, hb⟩;refine ⟨_, rfl, ?_⟩;replace BK126 := Aside0.mk (bb BK126.out hb);replace BK127 := Aside0.mk (bb BK127.out hb);replace BK136 := Aside0.mk (bb BK136.out hb);replace BK137 := Aside0.mk (bb BK137.out hb)
          replace HB := Aside0.mk (below_step (by repeat (first | (with_reducible first | exact HB.out | apply below_alloc | apply pw_below_drewN | apply below_drew1 | refine below_set ?_ GE126.out | refine below_set ?_ GE127.out | refine below_set ?_ GE136.out | refine below_set ?_ GE137.out) | exact HB.out)) hb)
          (try clear hb);(try clear hb2);(try clear hk);(try clear hi)
          refine hK.out _ _ ⟨(blk_cell BK136.out 0).trans rfl, (blk_cell BK136.out 1).trans rfl, (blk_cell BK137.out 0).trans rfl, (blk_cell BK137.out 1).trans rfl, (blk_cell BK126.out 0).trans rfl, (blk_cell BK126.out 1).trans rfl⟩ (fun hHeld => ?_)
          clear hK K
          refine norm_ (a' := ?_) ?_ ?_;rotate_left;·show Act.put _ (some 80) _ = _;simp only [Act.put, setIfInBounds_toArray, set_cons_zero, set_cons_succ, i64_w, i32_w];rfl
          refine pure_ (i := 18) (N := some 81) (v := ?_) (a' := ?_) #[T,T,T,T,T,T,T,T,T,T,T,T,T,T,T,T,T,T,T,F] rfl rfl (any_of HT_.out (by kernel_rfl)) (fun _ _ _ h => h) (Or.inl ⟨by rfl, ?_⟩) ?_ ?_
          rotate_left;·intro w';go_simp;with_reducible rfl
          rotate_left;·simp only [Act.put, setIfInBounds_toArray, set_cons_zero, set_cons_succ, i64_w, i32_w];rfl
          refine pure_ (i := 19) (N := some 82) (v := ?_) (a' := ?_) #[T,T,T,T,T,T,T,T,T,T,T,T,T,T,T,T,T,T,T,T] rfl rfl (any_of HT_.out (by kernel_rfl)) (fun _ _ _ h => h) (Or.inl ⟨by rfl, ?_⟩) ?_ ?_
          rotate_left;·intro w';go_simp;with_reducible rfl
          rotate_left;·simp only [Act.put, setIfInBounds_toArray, set_cons_zero, set_cons_succ, i64_w, i32_w];rfl
          refine done_ (done_of HT_.out (by kernel_rfl)) ?_
          try go_wp2
          go_meet
          case rel => exact ⟨_, ((t145 != t146)), (by first | rfl | (simp; done) | (simp [*]; done)), H', ⟨by have := HJ3.out; have := HJ30.out; first | omega | exact Nat.le_refl _⟩, ⟨by (with_reducible repeat (first | refine blk_drewN ?_ _ | refine blk_drew ?_ | refine blk_alloc ?_ _)); exact BK126.out⟩, ⟨by (with_reducible repeat (first | refine blk_drewN ?_ _ | refine blk_drew ?_ | refine blk_alloc ?_ _)); exact BK127.out⟩, ⟨by (with_reducible repeat (first | refine blk_drewN ?_ _ | refine blk_drew ?_ | refine blk_alloc ?_ _)); exact BK136.out⟩, ⟨by (with_reducible repeat (first | refine blk_drewN ?_ _ | refine blk_drew ?_ | refine blk_alloc ?_ _)); exact BK137.out⟩, ⟨by repeat (first | (with_reducible first | exact HB.out | apply below_alloc | apply pw_below_drewN | apply below_drew1 | refine below_set ?_ GE126.out | refine below_set ?_ GE127.out | refine below_set ?_ GE136.out | refine below_set ?_ GE137.out) | exact HB.out)⟩⟩
         ·rw [if_neg c64] at H
          have c64b0 : (t131 == a0_0) = false := beq_eq_false_iff_ne.mpr c64;have c64b1 : (t131 != a0_0) = true := bne_iff_ne.mpr c64;exfalso;unfold crossbucklaw03_CidrHalves.j2 at H;split at H
          ·exact absurd H (by simp)
          ·rw [if_pos rfl] at H
           exact absurd ((Option.some.inj H).trans hT.out) (by decide)
        ·rw [if_neg c63] at H
         have c63b0 : (t144 == ((t134 - 1) % 4294967296)) = false := beq_eq_false_iff_ne.mpr c63;have c63b1 : (t144 != ((t134 - 1) % 4294967296)) = true := bne_iff_ne.mpr c63;(first | rw [c63b0] | (simp only [i64_w, i32_w]; rw [c63b0]) | skip);exfalso;unfold crossbucklaw03_CidrHalves.j2 at H;split at H
         ·exact absurd H (by simp)
         ·rw [if_pos rfl] at H
          exact absurd ((Option.some.inj H).trans hT.out) (by decide)
       case rest =>
        clear HC61
        try clear c2
        try clear p2
        try clear c4
        try clear c6
        try clear c24
        try clear c25
        try clear c26
        try clear c27
        try clear c44
        try clear c46
        try clear c48
        try clear c60
        try clear c63
        try clear c63b0
        try clear c63b1
        try clear c64
        try clear c64b0
        try clear c64b1
        try clear p2
        obtain ⟨kq, x82_60, rfl, HA, HJ60, BK126, BK127, BK136, BK137, HB⟩ := hcut
        cases kq with
        | zero => exact absurd HA.out (by simp [crossbucklaw03_CidrHalves.j2])
        | succ kj60 =>
         have H := HA.out;clear HA;simp only [crossbucklaw03_CidrHalves.j2] at H
         by_cases c71 : x82_60 = true
         ·subst c71
          have H1 : (some false) = some r := by rw [if_pos rfl] at H; exact H
          clear H;have H := H1;clear H1
          exact absurd ((Option.some.inj H).trans hT.out) (by decide)
         ·replace c71 := Bool.eq_false_iff.mpr c71
          subst c71
          have H1 : ((crossbucklaw03_awake.f kj60).bind fun t147 => (if t147 = true then ((cidr_Within.f a0_0 a0_1 a1_0 a1_1).bind fun t148 => (if t148 = true then ((cidr_Within.f t131 t132 a1_0 a1_1).bind fun t149 => (if t149 = true then ((cidr_Within.f t134 t135 a1_0 a1_1).bind fun t150 => (if t150 = true then ((cidr_Meet.f a0_0 a0_1 a1_0 a1_1).bind fun t151 => ((cidr_Meet.f t131 t132 a1_0 a1_1).bind fun t152 => (if t152 = true then (some (t151 == true)) else ((cidr_Meet.f t134 t135 a1_0 a1_1).bind fun t153 => (some (t151 == t153)))))) else (some false))) else (some false))) else ((cidr_Meet.f a0_0 a0_1 a1_0 a1_1).bind fun t154 => ((cidr_Meet.f t131 t132 a1_0 a1_1).bind fun t155 => (if t155 = true then (some (t154 == true)) else ((cidr_Meet.f t134 t135 a1_0 a1_1).bind fun t156 => (some (t154 == t156)))))))) else (some false))) = some r := by rw [if_neg (show ¬ (false = true) by decide)] at H; exact H
          clear H;have H := H1;clear H1;replace H := Option.bind_eq_some_iff.mp H;obtain ⟨t147, A720, H⟩ := H
          replace H : (if t147 = true then ((cidr_Within.f a0_0 a0_1 a1_0 a1_1).bind fun t148 => (if t148 = true then ((cidr_Within.f t131 t132 a1_0 a1_1).bind fun t149 => (if t149 = true then ((cidr_Within.f t134 t135 a1_0 a1_1).bind fun t150 => (if t150 = true then ((cidr_Meet.f a0_0 a0_1 a1_0 a1_1).bind fun t151 => ((cidr_Meet.f t131 t132 a1_0 a1_1).bind fun t152 => (if t152 = true then (some (t151 == true)) else ((cidr_Meet.f t134 t135 a1_0 a1_1).bind fun t153 => (some (t151 == t153)))))) else (some false))) else (some false))) else ((cidr_Meet.f a0_0 a0_1 a1_0 a1_1).bind fun t154 => ((cidr_Meet.f t131 t132 a1_0 a1_1).bind fun t155 => (if t155 = true then (some (t154 == true)) else ((cidr_Meet.f t134 t135 a1_0 a1_1).bind fun t156 => (some (t154 == t156)))))))) else (some false)) = some r := H
          have A72 := Aside0.mk A720;clear A720
          by_cases c73 : t147 = true
          ·subst c73
           have H1 : ((cidr_Within.f a0_0 a0_1 a1_0 a1_1).bind fun t148 => (if t148 = true then ((cidr_Within.f t131 t132 a1_0 a1_1).bind fun t149 => (if t149 = true then ((cidr_Within.f t134 t135 a1_0 a1_1).bind fun t150 => (if t150 = true then ((cidr_Meet.f a0_0 a0_1 a1_0 a1_1).bind fun t151 => ((cidr_Meet.f t131 t132 a1_0 a1_1).bind fun t152 => (if t152 = true then (some (t151 == true)) else ((cidr_Meet.f t134 t135 a1_0 a1_1).bind fun t153 => (some (t151 == t153)))))) else (some false))) else (some false))) else ((cidr_Meet.f a0_0 a0_1 a1_0 a1_1).bind fun t154 => ((cidr_Meet.f t131 t132 a1_0 a1_1).bind fun t155 => (if t155 = true then (some (t154 == true)) else ((cidr_Meet.f t134 t135 a1_0 a1_1).bind fun t156 => (some (t154 == t156)))))))) = some r := by rw [if_pos rfl] at H; exact H
           clear H;have H := H1;clear H1;replace H := Option.bind_eq_some_iff.mp H;obtain ⟨t148, A740, H⟩ := H
           replace H : (if t148 = true then ((cidr_Within.f t131 t132 a1_0 a1_1).bind fun t149 => (if t149 = true then ((cidr_Within.f t134 t135 a1_0 a1_1).bind fun t150 => (if t150 = true then ((cidr_Meet.f a0_0 a0_1 a1_0 a1_1).bind fun t151 => ((cidr_Meet.f t131 t132 a1_0 a1_1).bind fun t152 => (if t152 = true then (some (t151 == true)) else ((cidr_Meet.f t134 t135 a1_0 a1_1).bind fun t153 => (some (t151 == t153)))))) else (some false))) else (some false))) else ((cidr_Meet.f a0_0 a0_1 a1_0 a1_1).bind fun t154 => ((cidr_Meet.f t131 t132 a1_0 a1_1).bind fun t155 => (if t155 = true then (some (t154 == true)) else ((cidr_Meet.f t134 t135 a1_0 a1_1).bind fun t156 => (some (t154 == t156))))))) = some r := H
           have A74 := Aside0.mk A740;clear A740
           by_cases c75 : t148 = true
           ·subst c75
            have H1 : ((cidr_Within.f t131 t132 a1_0 a1_1).bind fun t149 => (if t149 = true then ((cidr_Within.f t134 t135 a1_0 a1_1).bind fun t150 => (if t150 = true then ((cidr_Meet.f a0_0 a0_1 a1_0 a1_1).bind fun t151 => ((cidr_Meet.f t131 t132 a1_0 a1_1).bind fun t152 => (if t152 = true then (some (t151 == true)) else ((cidr_Meet.f t134 t135 a1_0 a1_1).bind fun t153 => (some (t151 == t153)))))) else (some false))) else (some false))) = some r := by rw [if_pos rfl] at H; exact H
            clear H;have H := H1;clear H1;replace H := Option.bind_eq_some_iff.mp H;obtain ⟨t149, A760, H⟩ := H
            replace H : (if t149 = true then ((cidr_Within.f t134 t135 a1_0 a1_1).bind fun t150 => (if t150 = true then ((cidr_Meet.f a0_0 a0_1 a1_0 a1_1).bind fun t151 => ((cidr_Meet.f t131 t132 a1_0 a1_1).bind fun t152 => (if t152 = true then (some (t151 == true)) else ((cidr_Meet.f t134 t135 a1_0 a1_1).bind fun t153 => (some (t151 == t153)))))) else (some false))) else (some false)) = some r := H
            have A76 := Aside0.mk A760;clear A760
            by_cases c77 : t149 = true
            ·subst c77
             have H1 : ((cidr_Within.f t134 t135 a1_0 a1_1).bind fun t150 => (if t150 = true then ((cidr_Meet.f a0_0 a0_1 a1_0 a1_1).bind fun t151 => ((cidr_Meet.f t131 t132 a1_0 a1_1).bind fun t152 => (if t152 = true then (some (t151 == true)) else ((cidr_Meet.f t134 t135 a1_0 a1_1).bind fun t153 => (some (t151 == t153)))))) else (some false))) = some r := by rw [if_pos rfl] at H; exact H
             clear H;have H := H1;clear H1;replace H := Option.bind_eq_some_iff.mp H;obtain ⟨t150, A780, H⟩ := H
             replace H : (if t150 = true then ((cidr_Meet.f a0_0 a0_1 a1_0 a1_1).bind fun t151 => ((cidr_Meet.f t131 t132 a1_0 a1_1).bind fun t152 => (if t152 = true then (some (t151 == true)) else ((cidr_Meet.f t134 t135 a1_0 a1_1).bind fun t153 => (some (t151 == t153)))))) else (some false)) = some r := H
             have A78 := Aside0.mk A780;clear A780
             by_cases c79 : t150 = true
             ·subst c79
              have H1 : ((cidr_Meet.f a0_0 a0_1 a1_0 a1_1).bind fun t151 => ((cidr_Meet.f t131 t132 a1_0 a1_1).bind fun t152 => (if t152 = true then (some (t151 == true)) else ((cidr_Meet.f t134 t135 a1_0 a1_1).bind fun t153 => (some (t151 == t153)))))) = some r := by rw [if_pos rfl] at H; exact H
              clear H;have H := H1;clear H1;replace H := Option.bind_eq_some_iff.mp H;obtain ⟨t151, A800, H⟩ := H
              replace H : ((cidr_Meet.f t131 t132 a1_0 a1_1).bind fun t152 => (if t152 = true then (some (t151 == true)) else ((cidr_Meet.f t134 t135 a1_0 a1_1).bind fun t153 => (some (t151 == t153))))) = some r := H
              have A80 := Aside0.mk A800;clear A800;replace H := Option.bind_eq_some_iff.mp H;obtain ⟨t152, A810, H⟩ := H
              replace H : (if t152 = true then (some (t151 == true)) else ((cidr_Meet.f t134 t135 a1_0 a1_1).bind fun t153 => (some (t151 == t153)))) = some r := H
              have A81 := Aside0.mk A810;clear A810
              by_cases c82 : t152 = true
              ·subst c82
               have H1 : (some (t151 == true)) = some r := by rw [if_pos rfl] at H; exact H
               clear H;have H := H1;clear H1;obtain rfl := Option.some.inj H
               try go_wp2
               replace BK126 := Aside0.mk (blk_drew BK126.out);replace BK127 := Aside0.mk (blk_drew BK127.out);replace BK136 := Aside0.mk (blk_drew BK136.out);replace BK137 := Aside0.mk (blk_drew BK137.out);replace HB := Aside0.mk (below_drew1 HB.out)
               refine start_ (n := 32) (S := fun w' => w'.cell? ⟨gb126, 0, none⟩ = some (.int .u32 a0_0) ∧ w'.cell? ⟨gb126, 1, none⟩ = some (.int .i64 a0_1) ∧ w'.cell? ⟨gb127, 0, none⟩ = some (.int .u32 a1_0) ∧ w'.cell? ⟨gb127, 1, none⟩ = some (.int .i64 a1_1) ∧ w'.cell? ⟨gb136, 0, none⟩ = some (.int .u32 t131) ∧ w'.cell? ⟨gb136, 1, none⟩ = some (.int .i64 t132) ∧ w'.cell? ⟨gb137, 0, none⟩ = some (.int .u32 t134) ∧ w'.cell? ⟨gb137, 1, none⟩ = some (.int .i64 t135)) (ds := []) #[F,F,F,F,F,F,F,F,F,F,F,F,F,F,F,F,F,F,F,F,F,F,F,F,F,F,F,F,F,F,F,F] (by kernel_rfl) rfl rfl ⟨(blk_cell BK126.out 0).trans rfl, (blk_cell BK126.out 1).trans rfl, (blk_cell BK127.out 0).trans rfl, (blk_cell BK127.out 1).trans rfl, (blk_cell BK136.out 0).trans rfl, (blk_cell BK136.out 1).trans rfl, (blk_cell BK137.out 0).trans rfl, (blk_cell BK137.out 1).trans rfl⟩ (fun hHeld => ?_); refine with_tabW crossbucklaw03_CidrHalves.tab8 crossbucklaw03_CidrHalves.bits8 (fun HT_ HW_ => ?_)
               generalize wc.drew = w83 at BK126 BK127 BK136 BK137 HB hHeld ⊢
               refine one_ (i := 0) (N := some 83) #[T,F,F,F,F,F,F,F,F,F,F,F,F,F,F,F,F,F,F,F,F,F,F,F,F,F,F,F,F,F,F,F] rfl rfl (one_of HT_.out (by kernel_rfl)) (by decide) (fun K hK => ?_)
               refine goes_ Try.func13 (by kernel_rfl) rfl #[] (by rfl) rfl rfl (by (try simp only [List.map_toArray, List.map_cons, List.map_nil]); first | done | rfl | (simp only [List.length_drop, List.length_take]; rfl)) ?_
               with_reducible refine (crossbucklaw03_awake.calls kj60  true _ A72.out).mono ?_;rintro e w84 ⟨rfl, hb⟩;refine ⟨_, rfl, ?_⟩;replace BK126 := Aside0.mk (bb BK126.out hb);replace BK127 := Aside0.mk (bb BK127.out hb);replace BK136 := Aside0.mk (bb BK136.out hb);replace BK137 := Aside0.mk (bb BK137.out hb)
               replace HB := Aside0.mk (below_step (by repeat (first | (with_reducible first | exact HB.out | apply below_alloc | apply pw_below_drewN | apply below_drew1 | refine below_set ?_ GE126.out | refine below_set ?_ GE127.out | refine below_set ?_ GE136.out | refine below_set ?_ GE137.out) | exact HB.out)) hb)
               (try clear hb);(try clear hb2);(try clear hk);(try clear hi)
               refine hK.out _ _ ⟨(blk_cell BK126.out 0).trans rfl, (blk_cell BK126.out 1).trans rfl, (blk_cell BK127.out 0).trans rfl, (blk_cell BK127.out 1).trans rfl, (blk_cell BK136.out 0).trans rfl, (blk_cell BK136.out 1).trans rfl, (blk_cell BK137.out 0).trans rfl, (blk_cell BK137.out 1).trans rfl⟩ (fun hHeld => ?_)
               clear hK K
               refine norm_ (a' := ?_) ?_ ?_;rotate_left;·show Act.put _ (some 83) _ = _;simp only [Act.put, setIfInBounds_toArray, set_cons_zero, set_cons_succ, i64_w, i32_w];rfl
               refine pure_ (i := 1) (N := some 84) (v := ?_) (a' := ?_) #[T,T,F,F,F,F,F,F,F,F,F,F,F,F,F,F,F,F,F,F,F,F,F,F,F,F,F,F,F,F,F,F] rfl rfl (any_of HT_.out (by kernel_rfl)) (fun _ _ _ h => h) (Or.inl ⟨by rfl, ?_⟩) ?_ ?_
               rotate_left;·intro w';go_simp;with_reducible rfl
               rotate_left;·simp only [Act.put, setIfInBounds_toArray, set_cons_zero, set_cons_succ, i64_w, i32_w];rfl
               refine take_ (i := 2) (N := some 85) (v := ?_) (a' := ?_) #[T,T,T,F,F,F,F,F,F,F,F,F,F,F,F,F,F,F,F,F,F,F,F,F,F,F,F,F,F,F,F,F] rfl rfl (take_ofW HT_.out HW_.out (by kernel_rfl)) (fun _ _ _ h => h) (Or.inl ⟨by rfl, ?_⟩) hHeld ?_ ?_
               rotate_left
               ·rintro w' ⟨s0, s1, s2, s3, s4, s5, s6, s7⟩
                go_simp;with_reducible rfl
               rotate_left;·simp only [Act.put, setIfInBounds_toArray, set_cons_zero, set_cons_succ, i64_w, i32_w];rfl
               refine take_ (i := 3) (N := some 86) (v := ?_) (a' := ?_) #[T,T,T,T,F,F,F,F,F,F,F,F,F,F,F,F,F,F,F,F,F,F,F,F,F,F,F,F,F,F,F,F] rfl rfl (take_ofW HT_.out HW_.out (by kernel_rfl)) (fun _ _ _ h => h) (Or.inl ⟨by rfl, ?_⟩) hHeld ?_ ?_
               rotate_left
               ·rintro w' ⟨s0, s1, s2, s3, s4, s5, s6, s7⟩
                go_simp;with_reducible rfl
               rotate_left;·simp only [Act.put, setIfInBounds_toArray, set_cons_zero, set_cons_succ, i64_w, i32_w];rfl
               refine one_ (i := 4) (N := some 87) #[T,T,T,T,T,F,F,F,F,F,F,F,F,F,F,F,F,F,F,F,F,F,F,F,F,F,F,F,F,F,F,F] rfl rfl (one_of HT_.out (by kernel_rfl)) (by decide) (fun K hK => ?_)
               refine goes_ Try.func26 (by kernel_rfl) rfl #[.agg #[.int .u32 a0_0, .int .i64 a0_1], .agg #[.int .u32 a1_0, .int .i64 a1_1]] (by rfl) rfl rfl (by (try simp only [List.map_toArray, List.map_cons, List.map_nil]); first | done | rfl | (simp only [List.length_drop, List.length_take]; rfl)) ?_
               with_reducible refine (cidr_Within.calls a0_0 a0_1 a1_0 a1_1 true _ A74.out).mono ?_;rintro e w85 ⟨rfl, hb⟩;refine ⟨_, rfl, ?_⟩;replace BK126 := Aside0.mk (bb BK126.out hb);replace BK127 := Aside0.mk (bb BK127.out hb);replace BK136 := Aside0.mk (bb BK136.out hb);replace BK137 := Aside0.mk (bb BK137.out hb)
               replace HB := Aside0.mk (below_step (by repeat (first | (with_reducible first | exact HB.out | apply below_alloc | apply pw_below_drewN | apply below_drew1 | refine below_set ?_ GE126.out | refine below_set ?_ GE127.out | refine below_set ?_ GE136.out | refine below_set ?_ GE137.out) | exact HB.out)) hb)
               (try clear hb);(try clear hb2);(try clear hk);(try clear hi)
               refine hK.out _ _ ⟨(blk_cell BK126.out 0).trans rfl, (blk_cell BK126.out 1).trans rfl, (blk_cell BK127.out 0).trans rfl, (blk_cell BK127.out 1).trans rfl, (blk_cell BK136.out 0).trans rfl, (blk_cell BK136.out 1).trans rfl, (blk_cell BK137.out 0).trans rfl, (blk_cell BK137.out 1).trans rfl⟩ (fun hHeld => ?_)
               clear hK K
               refine norm_ (a' := ?_) ?_ ?_;rotate_left;·show Act.put _ (some 87) _ = _;simp only [Act.put, setIfInBounds_toArray, set_cons_zero, set_cons_succ, i64_w, i32_w];rfl
               refine pure_ (i := 5) (N := some 88) (v := ?_) (a' := ?_) #[T,T,T,T,T,T,F,F,F,F,F,F,F,F,F,F,F,F,F,F,F,F,F,F,F,F,F,F,F,F,F,F] rfl rfl (any_of HT_.out (by kernel_rfl)) (fun _ _ _ h => h) (Or.inl ⟨by rfl, ?_⟩) ?_ ?_
               rotate_left;·intro w';go_simp;with_reducible rfl
               rotate_left;·simp only [Act.put, setIfInBounds_toArray, set_cons_zero, set_cons_succ, i64_w, i32_w];rfl
               refine pure_ (i := 6) (N := some 89) (v := ?_) (a' := ?_) #[T,T,T,T,T,T,T,F,F,F,F,F,F,F,F,F,F,F,F,F,F,F,F,F,F,F,F,F,F,F,F,F] rfl rfl (any_of HT_.out (by kernel_rfl)) (fun _ _ _ h => h) (Or.inl ⟨by rfl, ?_⟩) ?_ ?_
               rotate_left;·intro w';go_simp;with_reducible rfl
               rotate_left;·simp only [Act.put, setIfInBounds_toArray, set_cons_zero, set_cons_succ, i64_w, i32_w];rfl
               refine take_ (i := 7) (N := some 90) (v := ?_) (a' := ?_) #[T,T,T,T,T,T,T,T,F,F,F,F,F,F,F,F,F,F,F,F,F,F,F,F,F,F,F,F,F,F,F,F] rfl rfl (take_ofW HT_.out HW_.out (by kernel_rfl)) (fun _ _ _ h => h) (Or.inl ⟨by rfl, ?_⟩) hHeld ?_ ?_
               rotate_left
               ·rintro w' ⟨s0, s1, s2, s3, s4, s5, s6, s7⟩
                go_simp;with_reducible rfl
               rotate_left;·simp only [Act.put, setIfInBounds_toArray, set_cons_zero, set_cons_succ, i64_w, i32_w];rfl
               refine take_ (i := 8) (N := some 91) (v := ?_) (a' := ?_) #[T,T,T,T,T,T,T,T,T,F,F,F,F,F,F,F,F,F,F,F,F,F,F,F,F,F,F,F,F,F,F,F] rfl rfl (take_ofW HT_.out HW_.out (by kernel_rfl)) (fun _ _ _ h => h) (Or.inl ⟨by rfl, ?_⟩) hHeld ?_ ?_
               rotate_left
               ·rintro w' ⟨s0, s1, s2, s3, s4, s5, s6, s7⟩
                go_simp;with_reducible rfl
               rotate_left;·simp only [Act.put, setIfInBounds_toArray, set_cons_zero, set_cons_succ, i64_w, i32_w];rfl
               refine one_ (i := 9) (N := some 92) #[T,T,T,T,T,T,T,T,T,T,F,F,F,F,F,F,F,F,F,F,F,F,F,F,F,F,F,F,F,F,F,F] rfl rfl (one_of HT_.out (by kernel_rfl)) (by decide) (fun K hK => ?_)
               refine goes_ Try.func26 (by kernel_rfl) rfl #[.agg #[.int .u32 t131, .int .i64 t132], .agg #[.int .u32 a1_0, .int .i64 a1_1]] (by rfl) rfl rfl (by (try simp only [List.map_toArray, List.map_cons, List.map_nil]); first | done | rfl | (simp only [List.length_drop, List.length_take]; rfl)) ?_
               with_reducible refine (cidr_Within.calls t131 t132 a1_0 a1_1 true _ A76.out).mono ?_;rintro e w86 ⟨rfl, hb⟩;refine ⟨_, rfl, ?_⟩;replace BK126 := Aside0.mk (bb BK126.out hb);replace BK127 := Aside0.mk (bb BK127.out hb);replace BK136 := Aside0.mk (bb BK136.out hb);replace BK137 := Aside0.mk (bb BK137.out hb)
               replace HB := Aside0.mk (below_step (by repeat (first | (with_reducible first | exact HB.out | apply below_alloc | apply pw_below_drewN | apply below_drew1 | refine below_set ?_ GE126.out | refine below_set ?_ GE127.out | refine below_set ?_ GE136.out | refine below_set ?_ GE137.out) | exact HB.out)) hb)
               (try clear hb);(try clear hb2);(try clear hk);(try clear hi)
               refine hK.out _ _ ⟨(blk_cell BK126.out 0).trans rfl, (blk_cell BK126.out 1).trans rfl, (blk_cell BK127.out 0).trans rfl, (blk_cell BK127.out 1).trans rfl, (blk_cell BK136.out 0).trans rfl, (blk_cell BK136.out 1).trans rfl, (blk_cell BK137.out 0).trans rfl, (blk_cell BK137.out 1).trans rfl⟩ (fun hHeld => ?_)
               clear hK K
               refine norm_ (a' := ?_) ?_ ?_;rotate_left;·show Act.put _ (some 92) _ = _;simp only [Act.put, setIfInBounds_toArray, set_cons_zero, set_cons_succ, i64_w, i32_w];rfl
               refine pure_ (i := 10) (N := some 93) (v := ?_) (a' := ?_) #[T,T,T,T,T,T,T,T,T,T,T,F,F,F,F,F,F,F,F,F,F,F,F,F,F,F,F,F,F,F,F,F] rfl rfl (any_of HT_.out (by kernel_rfl)) (fun _ _ _ h => h) (Or.inl ⟨by rfl, ?_⟩) ?_ ?_
               rotate_left;·intro w';go_simp;with_reducible rfl
               rotate_left;·simp only [Act.put, setIfInBounds_toArray, set_cons_zero, set_cons_succ, i64_w, i32_w];rfl
               refine take_ (i := 11) (N := some 94) (v := ?_) (a' := ?_) #[T,T,T,T,T,T,T,T,T,T,T,T,F,F,F,F,F,F,F,F,F,F,F,F,F,F,F,F,F,F,F,F] rfl rfl (take_ofW HT_.out HW_.out (by kernel_rfl)) (fun _ _ _ h => h) (Or.inl ⟨by rfl, ?_⟩) hHeld ?_ ?_
               rotate_left
               ·rintro w' ⟨s0, s1, s2, s3, s4, s5, s6, s7⟩
                go_simp;with_reducible rfl
               rotate_left;·simp only [Act.put, setIfInBounds_toArray, set_cons_zero, set_cons_succ, i64_w, i32_w];rfl
               refine take_ (i := 12) (N := some 95) (v := ?_) (a' := ?_) #[T,T,T,T,T,T,T,T,T,T,T,T,T,F,F,F,F,F,F,F,F,F,F,F,F,F,F,F,F,F,F,F] rfl rfl (take_ofW HT_.out HW_.out (by kernel_rfl)) (fun _ _ _ h => h) (Or.inl ⟨by rfl, ?_⟩) hHeld ?_ ?_
               rotate_left
               ·rintro w' ⟨s0, s1, s2, s3, s4, s5, s6, s7⟩
                go_simp;with_reducible rfl
               rotate_left;·simp only [Act.put, setIfInBounds_toArray, set_cons_zero, set_cons_succ, i64_w, i32_w];rfl
               refine one_ (i := 13) (N := some 96) #[T,T,T,T,T,T,T,T,T,T,T,T,T,T,F,F,F,F,F,F,F,F,F,F,F,F,F,F,F,F,F,F] rfl rfl (one_of HT_.out (by kernel_rfl)) (by decide) (fun K hK => ?_)
               refine goes_ Try.func26 (by kernel_rfl) rfl #[.agg #[.int .u32 t134, .int .i64 t135], .agg #[.int .u32 a1_0, .int .i64 a1_1]] (by rfl) rfl rfl (by (try simp only [List.map_toArray, List.map_cons, List.map_nil]); first | done | rfl | (simp only [List.length_drop, List.length_take]; rfl)) ?_
               with_reducible refine (cidr_Within.calls t134 t135 a1_0 a1_1 true _ A78.out).mono ?_;rintro e w87 ⟨rfl, hb⟩;refine ⟨_, rfl, ?_⟩;replace BK126 := Aside0.mk (bb BK126.out hb);replace BK127 := Aside0.mk (bb BK127.out hb);replace BK136 := Aside0.mk (bb BK136.out hb);replace BK137 := Aside0.mk (bb BK137.out hb)
               replace HB := Aside0.mk (below_step (by repeat (first | (with_reducible first | exact HB.out | apply below_alloc | apply pw_below_drewN | apply below_drew1 | refine below_set ?_ GE126.out | refine below_set ?_ GE127.out | refine below_set ?_ GE136.out | refine below_set ?_ GE137.out) | exact HB.out)) hb)
               (try clear hb);(try clear hb2);(try clear hk);(try clear hi)
               refine hK.out _ _ ⟨(blk_cell BK126.out 0).trans rfl, (blk_cell BK126.out 1).trans rfl, (blk_cell BK127.out 0).trans rfl, (blk_cell BK127.out 1).trans rfl, (blk_cell BK136.out 0).trans rfl, (blk_cell BK136.out 1).trans rfl, (blk_cell BK137.out 0).trans rfl, (blk_cell BK137.out 1).trans rfl⟩ (fun hHeld => ?_)
               clear hK K
               refine norm_ (a' := ?_) ?_ ?_;rotate_left;·show Act.put _ (some 96) _ = _;simp only [Act.put, setIfInBounds_toArray, set_cons_zero, set_cons_succ, i64_w, i32_w];rfl
               refine pure_ (i := 14) (N := some 97) (v := ?_) (a' := ?_) #[T,T,T,T,T,T,T,T,T,T,T,T,T,T,T,F,F,F,F,F,F,F,F,F,F,F,F,F,F,F,F,F] rfl rfl (any_of HT_.out (by kernel_rfl)) (fun _ _ _ h => h) (Or.inl ⟨by rfl, ?_⟩) ?_ ?_
               rotate_left;·intro w';go_simp;with_reducible rfl
               rotate_left;·simp only [Act.put, setIfInBounds_toArray, set_cons_zero, set_cons_succ, i64_w, i32_w];rfl
               refine pure_ (i := 15) (N := some 98) (v := ?_) (a' := ?_) #[T,T,T,T,T,T,T,T,T,T,T,T,T,T,T,T,F,F,F,F,F,F,F,F,F,F,F,F,F,F,F,F] rfl rfl (any_of HT_.out (by kernel_rfl)) (fun _ _ _ h => h) (Or.inl ⟨by rfl, ?_⟩) ?_ ?_
               rotate_left;·intro w';go_simp;with_reducible rfl
               rotate_left;·simp only [Act.put, setIfInBounds_toArray, set_cons_zero, set_cons_succ, i64_w, i32_w];rfl
               refine pure_ (i := 16) (N := some 99) (v := ?_) (a' := ?_) #[T,T,T,T,T,T,T,T,T,T,T,T,T,T,T,T,T,F,F,F,F,F,F,F,F,F,F,F,F,F,F,F] rfl rfl (any_of HT_.out (by kernel_rfl)) (fun _ _ _ h => h) (Or.inl ⟨by rfl, ?_⟩) ?_ ?_
               rotate_left;·intro w';go_simp;with_reducible rfl
               rotate_left;·simp only [Act.put, setIfInBounds_toArray, set_cons_zero, set_cons_succ, i64_w, i32_w];rfl
               refine pure_ (i := 17) (N := some 100) (v := ?_) (a' := ?_) #[T,T,T,T,T,T,T,T,T,T,T,T,T,T,T,T,T,T,F,F,F,F,F,F,F,F,F,F,F,F,F,F] rfl rfl (any_of HT_.out (by kernel_rfl)) (fun _ _ _ h => h) (Or.inl ⟨by rfl, ?_⟩) ?_ ?_
               rotate_left;·intro w';go_simp;with_reducible rfl
               rotate_left;·simp only [Act.put, setIfInBounds_toArray, set_cons_zero, set_cons_succ, i64_w, i32_w];rfl
               refine take_ (i := 18) (N := some 101) (v := ?_) (a' := ?_) #[T,T,T,T,T,T,T,T,T,T,T,T,T,T,T,T,T,T,T,F,F,F,F,F,F,F,F,F,F,F,F,F] rfl rfl (take_ofW HT_.out HW_.out (by kernel_rfl)) (fun _ _ _ h => h) (Or.inl ⟨by rfl, ?_⟩) hHeld ?_ ?_
               rotate_left
               ·rintro w' ⟨s0, s1, s2, s3, s4, s5, s6, s7⟩
                go_simp;with_reducible rfl
               rotate_left;·simp only [Act.put, setIfInBounds_toArray, set_cons_zero, set_cons_succ, i64_w, i32_w];rfl
               refine take_ (i := 19) (N := some 102) (v := ?_) (a' := ?_) #[T,T,T,T,T,T,T,T,T,T,T,T,T,T,T,T,T,T,T,T,F,F,F,F,F,F,F,F,F,F,F,F] rfl rfl (take_ofW HT_.out HW_.out (by kernel_rfl)) (fun _ _ _ h => h) (Or.inl ⟨by rfl, ?_⟩) hHeld ?_ ?_
               rotate_left
               ·rintro w' ⟨s0, s1, s2, s3, s4, s5, s6, s7⟩
                go_simp;with_reducible rfl
               rotate_left;·simp only [Act.put, setIfInBounds_toArray, set_cons_zero, set_cons_succ, i64_w, i32_w];rfl
               refine take_ (i := 21) (N := some 104) (v := ?_) (a' := ?_) #[T,T,T,T,T,T,T,T,T,T,T,T,T,T,T,T,T,T,T,T,F,T,F,F,F,F,F,F,F,F,F,F] rfl rfl (take_ofW HT_.out HW_.out (by kernel_rfl)) (fun _ _ _ h => h) (Or.inl ⟨by rfl, ?_⟩) hHeld ?_ ?_
               rotate_left
               ·rintro w' ⟨s0, s1, s2, s3, s4, s5, s6, s7⟩
                go_simp;with_reducible rfl
               rotate_left;·simp only [Act.put, setIfInBounds_toArray, set_cons_zero, set_cons_succ, i64_w, i32_w];rfl
               refine take_ (i := 22) (N := some 105) (v := ?_) (a' := ?_) #[T,T,T,T,T,T,T,T,T,T,T,T,T,T,T,T,T,T,T,T,F,T,T,F,F,F,F,F,F,F,F,F] rfl rfl (take_ofW HT_.out HW_.out (by kernel_rfl)) (fun _ _ _ h => h) (Or.inl ⟨by rfl, ?_⟩) hHeld ?_ ?_
               rotate_left
               ·rintro w' ⟨s0, s1, s2, s3, s4, s5, s6, s7⟩
                go_simp;with_reducible rfl
               rotate_left;·simp only [Act.put, setIfInBounds_toArray, set_cons_zero, set_cons_succ, i64_w, i32_w];rfl
               refine one_ (i := 20) (N := some 103) #[T,T,T,T,T,T,T,T,T,T,T,T,T,T,T,T,T,T,T,T,T,T,T,F,F,F,F,F,F,F,F,F] rfl rfl (one_of HT_.out (by kernel_rfl)) (by decide) (fun K hK => ?_)
               refine goes_ Try.func25 (by kernel_rfl) rfl #[.agg #[.int .u32 a0_0, .int .i64 a0_1], .agg #[.int .u32 a1_0, .int .i64 a1_1]] (by rfl) rfl rfl (by (try simp only [List.map_toArray, List.map_cons, List.map_nil]); first | done | rfl | (simp only [List.length_drop, List.length_take]; rfl)) ?_
               with_reducible refine (cidr_Meet.calls a0_0 a0_1 a1_0 a1_1 t151 _ A80.out).mono ?_;rintro e w88 ⟨rfl, hb⟩;refine ⟨_, rfl, ?_⟩;replace BK126 := Aside0.mk (bb BK126.out hb);replace BK127 := Aside0.mk (bb BK127.out hb);replace BK136 := Aside0.mk (bb BK136.out hb);replace BK137 := Aside0.mk (bb BK137.out hb)
               replace HB := Aside0.mk (below_step (by repeat (first | (with_reducible first | exact HB.out | apply below_alloc | apply pw_below_drewN | apply below_drew1 | refine below_set ?_ GE126.out | refine below_set ?_ GE127.out | refine below_set ?_ GE136.out | refine below_set ?_ GE137.out) | exact HB.out)) hb)
               (try clear hb);(try clear hb2);(try clear hk);(try clear hi)
               refine hK.out _ _ ⟨(blk_cell BK126.out 0).trans rfl, (blk_cell BK126.out 1).trans rfl, (blk_cell BK127.out 0).trans rfl, (blk_cell BK127.out 1).trans rfl, (blk_cell BK136.out 0).trans rfl, (blk_cell BK136.out 1).trans rfl, (blk_cell BK137.out 0).trans rfl, (blk_cell BK137.out 1).trans rfl⟩ (fun hHeld => ?_)
               clear hK K
               refine norm_ (a' := ?_) ?_ ?_;rotate_left;·show Act.put _ (some 103) _ = _;simp only [Act.put, setIfInBounds_toArray, set_cons_zero, set_cons_succ, i64_w, i32_w];rfl
               refine one_ (i := 23) (N := some 106) #[T,T,T,T,T,T,T,T,T,T,T,T,T,T,T,T,T,T,T,T,T,T,T,T,F,F,F,F,F,F,F,F] rfl rfl (one_of HT_.out (by kernel_rfl)) (by decide) (fun K hK => ?_)
               refine goes_ Try.func25 (by kernel_rfl) rfl #[.agg #[.int .u32 t131, .int .i64 t132], .agg #[.int .u32 a1_0, .int .i64 a1_1]] (by rfl) rfl rfl (by (try simp only [List.map_toArray, List.map_cons, List.map_nil]); first | done | rfl | (simp only [List.length_drop, List.length_take]; rfl)) ?_
               with_reducible refine (cidr_Meet.calls t131 t132 a1_0 a1_1 true _ A81.out).mono ?_;rintro e w89 ⟨rfl, hb⟩;refine ⟨_, rfl, ?_⟩;replace BK126 := Aside0.mk (bb BK126.out hb);replace BK127 := Aside0.mk (bb BK127.out hb);replace BK136 := Aside0.mk (bb BK136.out hb);replace BK137 := Aside0.mk (bb BK137.out hb)
               replace HB := Aside0.mk (below_step (by repeat (first | (with_reducible first | exact HB.out | apply below_alloc | apply pw_below_drewN | apply below_drew1 | refine below_set ?_ GE126.out | refine below_set ?_ GE127.out | refine below_set ?_ GE136.out | refine below_set ?_ GE137.out) | exact HB.out)) hb)
               (try clear hb);(try clear hb2);(try clear hk);(try clear hi)
               refine hK.out _ _ ⟨(blk_cell BK126.out 0).trans rfl, (blk_cell BK126.out 1).trans rfl, (blk_cell BK127.out 0).trans rfl, (blk_cell BK127.out 1).trans rfl, (blk_cell BK136.out 0).trans rfl, (blk_cell BK136.out 1).trans rfl, (blk_cell BK137.out 0).trans rfl, (blk_cell BK137.out 1).trans rfl⟩ (fun hHeld => ?_)
               clear hK K
               refine norm_ (a' := ?_) ?_ ?_;rotate_left;·show Act.put _ (some 106) _ = _;simp only [Act.put, setIfInBounds_toArray, set_cons_zero, set_cons_succ, i64_w, i32_w];rfl
               refine pure_ (i := 24) (N := some 107) (v := ?_) (a' := ?_) #[T,T,T,T,T,T,T,T,T,T,T,T,T,T,T,T,T,T,T,T,T,T,T,T,T,F,F,F,F,F,F,F] rfl rfl (any_of HT_.out (by kernel_rfl)) (fun _ _ _ h => h) (Or.inl ⟨by rfl, ?_⟩) ?_ ?_
               rotate_left;·intro w';go_simp;with_reducible rfl
               rotate_left;·simp only [Act.put, setIfInBounds_toArray, set_cons_zero, set_cons_succ, i64_w, i32_w];rfl
               refine pure_ (i := 25) (N := some 108) (v := undef) (a' := ?_) #[T,T,T,T,T,T,T,T,T,T,T,T,T,T,T,T,T,T,T,T,T,T,T,T,T,T,F,F,F,F,F,F] rfl rfl (any_of HT_.out (by kernel_rfl)) (fun _ _ _ h => h) (Or.inr ⟨by rfl, rfl⟩) ?_ ?_
               rotate_left;·simp only [Act.put, setIfInBounds_toArray, set_cons_zero, set_cons_succ, i64_w, i32_w];rfl
               refine pure_ (i := 26) (N := some 109) (v := undef) (a' := ?_) #[T,T,T,T,T,T,T,T,T,T,T,T,T,T,T,T,T,T,T,T,T,T,T,T,T,T,T,F,F,F,F,F] rfl rfl (any_of HT_.out (by kernel_rfl)) (fun _ _ _ h => h) (Or.inr ⟨by rfl, rfl⟩) ?_ ?_
               rotate_left;·simp only [Act.put, setIfInBounds_toArray, set_cons_zero, set_cons_succ, i64_w, i32_w];rfl
               refine pure_ (i := 27) (N := some 110) (v := undef) (a' := ?_) #[T,T,T,T,T,T,T,T,T,T,T,T,T,T,T,T,T,T,T,T,T,T,T,T,T,T,T,T,F,F,F,F] rfl rfl (any_of HT_.out (by kernel_rfl)) (fun _ _ _ h => h) (Or.inr ⟨by rfl, rfl⟩) ?_ ?_
               rotate_left;·simp only [Act.put, setIfInBounds_toArray, set_cons_zero, set_cons_succ, i64_w, i32_w];rfl
               refine pure_ (i := 28) (N := some 111) (v := ?_) (a' := ?_) #[T,T,T,T,T,T,T,T,T,T,T,T,T,T,T,T,T,T,T,T,T,T,T,T,T,T,T,T,T,F,F,F] rfl rfl (any_of HT_.out (by kernel_rfl)) (fun _ _ _ h => h) (Or.inl ⟨by rfl, ?_⟩) ?_ ?_
               rotate_left;·intro w';go_simp;with_reducible rfl
               rotate_left;·simp only [Act.put, setIfInBounds_toArray, set_cons_zero, set_cons_succ, i64_w, i32_w];rfl
               refine pure_ (i := 29) (N := some 112) (v := ?_) (a' := ?_) #[T,T,T,T,T,T,T,T,T,T,T,T,T,T,T,T,T,T,T,T,T,T,T,T,T,T,T,T,T,T,F,F] rfl rfl (any_of HT_.out (by kernel_rfl)) (fun _ _ _ h => h) (Or.inl ⟨by rfl, ?_⟩) ?_ ?_
               rotate_left;·intro w';go_simp;with_reducible rfl
               rotate_left;·simp only [Act.put, setIfInBounds_toArray, set_cons_zero, set_cons_succ, i64_w, i32_w];rfl
               refine pure_ (i := 30) (N := some 113) (v := ?_) (a' := ?_) #[T,T,T,T,T,T,T,T,T,T,T,T,T,T,T,T,T,T,T,T,T,T,T,T,T,T,T,T,T,T,T,F] rfl rfl (any_of HT_.out (by kernel_rfl)) (fun _ _ _ h => h) (Or.inl ⟨by rfl, ?_⟩) ?_ ?_
               rotate_left;·intro w';go_simp;with_reducible rfl
               rotate_left;·simp only [Act.put, setIfInBounds_toArray, set_cons_zero, set_cons_succ, i64_w, i32_w];rfl
               refine pure_ (i := 31) (N := some 6) (v := ?_) (a' := ?_) #[T,T,T,T,T,T,T,T,T,T,T,T,T,T,T,T,T,T,T,T,T,T,T,T,T,T,T,T,T,T,T,T] rfl rfl (any_of HT_.out (by kernel_rfl)) (fun _ _ _ h => h) (Or.inl ⟨by rfl, ?_⟩) ?_ ?_
               rotate_left;·intro w';go_simp;with_reducible rfl
               rotate_left;·simp only [Act.put, setIfInBounds_toArray, set_cons_zero, set_cons_succ, i64_w, i32_w];rfl
               refine done_ (done_of HT_.out (by kernel_rfl)) ?_
               try go_wp2
               go_ret
               exact ⟨by first | rfl | (simp [errW_none, errW_some] <;> rfl) | (simp [*, errW_none, errW_some] <;> rfl), by repeat (first | (with_reducible first | exact HB.out | apply below_alloc | apply pw_below_drewN | apply below_drew1 | refine below_set ?_ GE126.out | refine below_set ?_ GE127.out | refine below_set ?_ GE136.out | refine below_set ?_ GE137.out) | exact HB.out)⟩
              ·replace c82 := Bool.eq_false_iff.mpr c82
               subst c82
               have H1 : ((cidr_Meet.f t134 t135 a1_0 a1_1).bind fun t153 => (some (t151 == t153))) = some r := by rw [if_neg (show ¬ (false = true) by decide)] at H; exact H
               clear H;have H := H1;clear H1;replace H := Option.bind_eq_some_iff.mp H;obtain ⟨t153, A900, H⟩ := H;replace H : (some (t151 == t153)) = some r := H;have A90 := Aside0.mk A900;clear A900;obtain rfl := Option.some.inj H
               try go_wp2
               replace BK126 := Aside0.mk (blk_drew BK126.out);replace BK127 := Aside0.mk (blk_drew BK127.out);replace BK136 := Aside0.mk (blk_drew BK136.out);replace BK137 := Aside0.mk (blk_drew BK137.out);replace HB := Aside0.mk (below_drew1 HB.out)
               refine start_ (n := 32) (S := fun w' => w'.cell? ⟨gb126, 0, none⟩ = some (.int .u32 a0_0) ∧ w'.cell? ⟨gb126, 1, none⟩ = some (.int .i64 a0_1) ∧ w'.cell? ⟨gb127, 0, none⟩ = some (.int .u32 a1_0) ∧ w'.cell? ⟨gb127, 1, none⟩ = some (.int .i64 a1_1) ∧ w'.cell? ⟨gb136, 0, none⟩ = some (.int .u32 t131) ∧ w'.cell? ⟨gb136, 1, none⟩ = some (.int .i64 t132) ∧ w'.cell? ⟨gb137, 0, none⟩ = some (.int .u32 t134) ∧ w'.cell? ⟨gb137, 1, none⟩ = some (.int .i64 t135)) (ds := []) #[F,F,F,F,F,F,F,F,F,F,F,F,F,F,F,F,F,F,F,F,F,F,F,F,F,F,F,F,F,F,F,F] (by kernel_rfl) rfl rfl ⟨(blk_cell BK126.out 0).trans rfl, (blk_cell BK126.out 1).trans rfl, (blk_cell BK127.out 0).trans rfl, (blk_cell BK127.out 1).trans rfl, (blk_cell BK136.out 0).trans rfl, (blk_cell BK136.out 1).trans rfl, (blk_cell BK137.out 0).trans rfl, (blk_cell BK137.out 1).trans rfl⟩ (fun hHeld => ?_); refine with_tabW crossbucklaw03_CidrHalves.tab8 crossbucklaw03_CidrHalves.bits8 (fun HT_ HW_ => ?_)
               generalize wc.drew = w91 at BK126 BK127 BK136 BK137 HB hHeld ⊢
               refine one_ (i := 0) (N := some 83) #[T,F,F,F,F,F,F,F,F,F,F,F,F,F,F,F,F,F,F,F,F,F,F,F,F,F,F,F,F,F,F,F] rfl rfl (one_of HT_.out (by kernel_rfl)) (by decide) (fun K hK => ?_)
               refine goes_ Try.func13 (by kernel_rfl) rfl #[] (by rfl) rfl rfl (by (try simp only [List.map_toArray, List.map_cons, List.map_nil]); first | done | rfl | (simp only [List.length_drop, List.length_take]; rfl)) ?_
               with_reducible refine (crossbucklaw03_awake.calls kj60  true _ A72.out).mono ?_;rintro e w92 ⟨rfl, hb⟩;refine ⟨_, rfl, ?_⟩;replace BK126 := Aside0.mk (bb BK126.out hb);replace BK127 := Aside0.mk (bb BK127.out hb);replace BK136 := Aside0.mk (bb BK136.out hb);replace BK137 := Aside0.mk (bb BK137.out hb)
               replace HB := Aside0.mk (below_step (by repeat (first | (with_reducible first | exact HB.out | apply below_alloc | apply pw_below_drewN | apply below_drew1 | refine below_set ?_ GE126.out | refine below_set ?_ GE127.out | refine below_set ?_ GE136.out | refine below_set ?_ GE137.out) | exact HB.out)) hb)
               (try clear hb);(try clear hb2);(try clear hk);(try clear hi)
               refine hK.out _ _ ⟨(blk_cell BK126.out 0).trans rfl, (blk_cell BK126.out 1).trans rfl, (blk_cell BK127.out 0).trans rfl, (blk_cell BK127.out 1).trans rfl, (blk_cell BK136.out 0).trans rfl, (blk_cell BK136.out 1).trans rfl, (blk_cell BK137.out 0).trans rfl, (blk_cell BK137.out 1).trans rfl⟩ (fun hHeld => ?_)
               clear hK K
               refine norm_ (a' := ?_) ?_ ?_;rotate_left;·show Act.put _ (some 83) _ = _;simp only [Act.put, setIfInBounds_toArray, set_cons_zero, set_cons_succ, i64_w, i32_w];rfl
               refine pure_ (i := 1) (N := some 84) (v := ?_) (a' := ?_) #[T,T,F,F,F,F,F,F,F,F,F,F,F,F,F,F,F,F,F,F,F,F,F,F,F,F,F,F,F,F,F,F] rfl rfl (any_of HT_.out (by kernel_rfl)) (fun _ _ _ h => h) (Or.inl ⟨by rfl, ?_⟩) ?_ ?_
               rotate_left;·intro w';go_simp;with_reducible rfl
               rotate_left;·simp only [Act.put, setIfInBounds_toArray, set_cons_zero, set_cons_succ, i64_w, i32_w];rfl
               refine take_ (i := 2) (N := some 85) (v := ?_) (a' := ?_) #[T,T,T,F,F,F,F,F,F,F,F,F,F,F,F,F,F,F,F,F,F,F,F,F,F,F,F,F,F,F,F,F] rfl rfl (take_ofW HT_.out HW_.out (by kernel_rfl)) (fun _ _ _ h => h) (Or.inl ⟨by rfl, ?_⟩) hHeld ?_ ?_
               rotate_left
               ·rintro w' ⟨s0, s1, s2, s3, s4, s5, s6, s7⟩
                go_simp;with_reducible rfl
               rotate_left;·simp only [Act.put, setIfInBounds_toArray, set_cons_zero, set_cons_succ, i64_w, i32_w];rfl
               refine take_ (i := 3) (N := some 86) (v := ?_) (a' := ?_) #[T,T,T,T,F,F,F,F,F,F,F,F,F,F,F,F,F,F,F,F,F,F,F,F,F,F,F,F,F,F,F,F] rfl rfl (take_ofW HT_.out HW_.out (by kernel_rfl)) (fun _ _ _ h => h) (Or.inl ⟨by rfl, ?_⟩) hHeld ?_ ?_
               rotate_left
               ·rintro w' ⟨s0, s1, s2, s3, s4, s5, s6, s7⟩
                go_simp;with_reducible rfl
               rotate_left;·simp only [Act.put, setIfInBounds_toArray, set_cons_zero, set_cons_succ, i64_w, i32_w];rfl
               refine one_ (i := 4) (N := some 87) #[T,T,T,T,T,F,F,F,F,F,F,F,F,F,F,F,F,F,F,F,F,F,F,F,F,F,F,F,F,F,F,F] rfl rfl (one_of HT_.out (by kernel_rfl)) (by decide) (fun K hK => ?_)
               refine goes_ Try.func26 (by kernel_rfl) rfl #[.agg #[.int .u32 a0_0, .int .i64 a0_1], .agg #[.int .u32 a1_0, .int .i64 a1_1]] (by rfl) rfl rfl (by (try simp only [List.map_toArray, List.map_cons, List.map_nil]); first | done | rfl | (simp only [List.length_drop, List.length_take]; rfl)) ?_
               with_reducible refine (cidr_Within.calls a0_0 a0_1 a1_0 a1_1 true _ A74.out).mono ?_;rintro e w93 ⟨rfl, hb⟩;refine ⟨_, rfl, ?_⟩;replace BK126 := Aside0.mk (bb BK126.out hb);replace BK127 := Aside0.mk (bb BK127.out hb);replace BK136 := Aside0.mk (bb BK136.out hb);replace BK137 := Aside0.mk (bb BK137.out hb)
               replace HB := Aside0.mk (below_step (by repeat (first | (with_reducible first | exact HB.out | apply below_alloc | apply pw_below_drewN | apply below_drew1 | refine below_set ?_ GE126.out | refine below_set ?_ GE127.out | refine below_set ?_ GE136.out | refine below_set ?_ GE137.out) | exact HB.out)) hb)
               (try clear hb);(try clear hb2);(try clear hk);(try clear hi)
               refine hK.out _ _ ⟨(blk_cell BK126.out 0).trans rfl, (blk_cell BK126.out 1).trans rfl, (blk_cell BK127.out 0).trans rfl, (blk_cell BK127.out 1).trans rfl, (blk_cell BK136.out 0).trans rfl, (blk_cell BK136.out 1).trans rfl, (blk_cell BK137.out 0).trans rfl, (blk_cell BK137.out 1).trans rfl⟩ (fun hHeld => ?_)
               clear hK K
               refine norm_ (a' := ?_) ?_ ?_;rotate_left;·show Act.put _ (some 87) _ = _;simp only [Act.put, setIfInBounds_toArray, set_cons_zero, set_cons_succ, i64_w, i32_w];rfl
               refine pure_ (i := 5) (N := some 88) (v := ?_) (a' := ?_) #[T,T,T,T,T,T,F,F,F,F,F,F,F,F,F,F,F,F,F,F,F,F,F,F,F,F,F,F,F,F,F,F] rfl rfl (any_of HT_.out (by kernel_rfl)) (fun _ _ _ h => h) (Or.inl ⟨by rfl, ?_⟩) ?_ ?_
               rotate_left;·intro w';go_simp;with_reducible rfl
               rotate_left;·simp only [Act.put, setIfInBounds_toArray, set_cons_zero, set_cons_succ, i64_w, i32_w];rfl
               refine pure_ (i := 6) (N := some 89) (v := ?_) (a' := ?_) #[T,T,T,T,T,T,T,F,F,F,F,F,F,F,F,F,F,F,F,F,F,F,F,F,F,F,F,F,F,F,F,F] rfl rfl (any_of HT_.out (by kernel_rfl)) (fun _ _ _ h => h) (Or.inl ⟨by rfl, ?_⟩) ?_ ?_
               rotate_left;·intro w';go_simp;with_reducible rfl
               rotate_left;·simp only [Act.put, setIfInBounds_toArray, set_cons_zero, set_cons_succ, i64_w, i32_w];rfl
               refine take_ (i := 7) (N := some 90) (v := ?_) (a' := ?_) #[T,T,T,T,T,T,T,T,F,F,F,F,F,F,F,F,F,F,F,F,F,F,F,F,F,F,F,F,F,F,F,F] rfl rfl (take_ofW HT_.out HW_.out (by kernel_rfl)) (fun _ _ _ h => h) (Or.inl ⟨by rfl, ?_⟩) hHeld ?_ ?_
               rotate_left
               ·rintro w' ⟨s0, s1, s2, s3, s4, s5, s6, s7⟩
                go_simp;with_reducible rfl
               rotate_left;·simp only [Act.put, setIfInBounds_toArray, set_cons_zero, set_cons_succ, i64_w, i32_w];rfl
               refine take_ (i := 8) (N := some 91) (v := ?_) (a' := ?_) #[T,T,T,T,T,T,T,T,T,F,F,F,F,F,F,F,F,F,F,F,F,F,F,F,F,F,F,F,F,F,F,F] rfl rfl (take_ofW HT_.out HW_.out (by kernel_rfl)) (fun _ _ _ h => h) (Or.inl ⟨by rfl, ?_⟩) hHeld ?_ ?_
               rotate_left
               ·rintro w' ⟨s0, s1, s2, s3, s4, s5, s6, s7⟩
                go_simp;with_reducible rfl
               rotate_left;·simp only [Act.put, setIfInBounds_toArray, set_cons_zero, set_cons_succ, i64_w, i32_w];rfl
               refine one_ (i := 9) (N := some 92) #[T,T,T,T,T,T,T,T,T,T,F,F,F,F,F,F,F,F,F,F,F,F,F,F,F,F,F,F,F,F,F,F] rfl rfl (one_of HT_.out (by kernel_rfl)) (by decide) (fun K hK => ?_)
               refine goes_ Try.func26 (by kernel_rfl) rfl #[.agg #[.int .u32 t131, .int .i64 t132], .agg #[.int .u32 a1_0, .int .i64 a1_1]] (by rfl) rfl rfl (by (try simp only [List.map_toArray, List.map_cons, List.map_nil]); first | done | rfl | (simp only [List.length_drop, List.length_take]; rfl)) ?_
               with_reducible refine (cidr_Within.calls t131 t132 a1_0 a1_1 true _ A76.out).mono ?_;rintro e w94 ⟨rfl, hb⟩;refine ⟨_, rfl, ?_⟩;replace BK126 := Aside0.mk (bb BK126.out hb);replace BK127 := Aside0.mk (bb BK127.out hb);replace BK136 := Aside0.mk (bb BK136.out hb);replace BK137 := Aside0.mk (bb BK137.out hb)
               replace HB := Aside0.mk (below_step (by repeat (first | (with_reducible first | exact HB.out | apply below_alloc | apply pw_below_drewN | apply below_drew1 | refine below_set ?_ GE126.out | refine below_set ?_ GE127.out | refine below_set ?_ GE136.out | refine below_set ?_ GE137.out) | exact HB.out)) hb)
               (try clear hb);(try clear hb2);(try clear hk);(try clear hi)
               refine hK.out _ _ ⟨(blk_cell BK126.out 0).trans rfl, (blk_cell BK126.out 1).trans rfl, (blk_cell BK127.out 0).trans rfl, (blk_cell BK127.out 1).trans rfl, (blk_cell BK136.out 0).trans rfl, (blk_cell BK136.out 1).trans rfl, (blk_cell BK137.out 0).trans rfl, (blk_cell BK137.out 1).trans rfl⟩ (fun hHeld => ?_)
               clear hK K
               refine norm_ (a' := ?_) ?_ ?_;rotate_left;·show Act.put _ (some 92) _ = _;simp only [Act.put, setIfInBounds_toArray, set_cons_zero, set_cons_succ, i64_w, i32_w];rfl
               refine pure_ (i := 10) (N := some 93) (v := ?_) (a' := ?_) #[T,T,T,T,T,T,T,T,T,T,T,F,F,F,F,F,F,F,F,F,F,F,F,F,F,F,F,F,F,F,F,F] rfl rfl (any_of HT_.out (by kernel_rfl)) (fun _ _ _ h => h) (Or.inl ⟨by rfl, ?_⟩) ?_ ?_
               rotate_left;·intro w';go_simp;with_reducible rfl
               rotate_left;·simp only [Act.put, setIfInBounds_toArray, set_cons_zero, set_cons_succ, i64_w, i32_w];rfl
               refine take_ (i := 11) (N := some 94) (v := ?_) (a' := ?_) #[T,T,T,T,T,T,T,T,T,T,T,T,F,F,F,F,F,F,F,F,F,F,F,F,F,F,F,F,F,F,F,F] rfl rfl (take_ofW HT_.out HW_.out (by kernel_rfl)) (fun _ _ _ h => h) (Or.inl ⟨by rfl, ?_⟩) hHeld ?_ ?_
               rotate_left
               ·rintro w' ⟨s0, s1, s2, s3, s4, s5, s6, s7⟩
                go_simp;with_reducible rfl
               rotate_left;·simp only [Act.put, setIfInBounds_toArray, set_cons_zero, set_cons_succ, i64_w, i32_w];rfl
               refine take_ (i := 12) (N := some 95) (v := ?_) (a' := ?_) #[T,T,T,T,T,T,T,T,T,T,T,T,T,F,F,F,F,F,F,F,F,F,F,F,F,F,F,F,F,F,F,F] rfl rfl (take_ofW HT_.out HW_.out (by kernel_rfl)) (fun _ _ _ h => h) (Or.inl ⟨by rfl, ?_⟩) hHeld ?_ ?_
               rotate_left
               ·rintro w' ⟨s0, s1, s2, s3, s4, s5, s6, s7⟩
                go_simp;with_reducible rfl
               rotate_left;·simp only [Act.put, setIfInBounds_toArray, set_cons_zero, set_cons_succ, i64_w, i32_w];rfl
               refine one_ (i := 13) (N := some 96) #[T,T,T,T,T,T,T,T,T,T,T,T,T,T,F,F,F,F,F,F,F,F,F,F,F,F,F,F,F,F,F,F] rfl rfl (one_of HT_.out (by kernel_rfl)) (by decide) (fun K hK => ?_)
               refine goes_ Try.func26 (by kernel_rfl) rfl #[.agg #[.int .u32 t134, .int .i64 t135], .agg #[.int .u32 a1_0, .int .i64 a1_1]] (by rfl) rfl rfl (by (try simp only [List.map_toArray, List.map_cons, List.map_nil]); first | done | rfl | (simp only [List.length_drop, List.length_take]; rfl)) ?_
               with_reducible refine (cidr_Within.calls t134 t135 a1_0 a1_1 true _ A78.out).mono ?_;rintro e w95 ⟨rfl, hb⟩;refine ⟨_, rfl, ?_⟩;replace BK126 := Aside0.mk (bb BK126.out hb);replace BK127 := Aside0.mk (bb BK127.out hb);replace BK136 := Aside0.mk (bb BK136.out hb);replace BK137 := Aside0.mk (bb BK137.out hb)
               replace HB := Aside0.mk (below_step (by repeat (first | (with_reducible first | exact HB.out | apply below_alloc | apply pw_below_drewN | apply below_drew1 | refine below_set ?_ GE126.out | refine below_set ?_ GE127.out | refine below_set ?_ GE136.out | refine below_set ?_ GE137.out) | exact HB.out)) hb)
               (try clear hb);(try clear hb2);(try clear hk);(try clear hi)
               refine hK.out _ _ ⟨(blk_cell BK126.out 0).trans rfl, (blk_cell BK126.out 1).trans rfl, (blk_cell BK127.out 0).trans rfl, (blk_cell BK127.out 1).trans rfl, (blk_cell BK136.out 0).trans rfl, (blk_cell BK136.out 1).trans rfl, (blk_cell BK137.out 0).trans rfl, (blk_cell BK137.out 1).trans rfl⟩ (fun hHeld => ?_)
               clear hK K
               refine norm_ (a' := ?_) ?_ ?_;rotate_left;·show Act.put _ (some 96) _ = _;simp only [Act.put, setIfInBounds_toArray, set_cons_zero, set_cons_succ, i64_w, i32_w];rfl
               refine pure_ (i := 14) (N := some 97) (v := ?_) (a' := ?_) #[T,T,T,T,T,T,T,T,T,T,T,T,T,T,T,F,F,F,F,F,F,F,F,F,F,F,F,F,F,F,F,F] rfl rfl (any_of HT_.out (by kernel_rfl)) (fun _ _ _ h => h) (Or.inl ⟨by rfl, ?_⟩) ?_ ?_
               rotate_left;·intro w';go_simp;with_reducible rfl
               rotate_left;·simp only [Act.put, setIfInBounds_toArray, set_cons_zero, set_cons_succ, i64_w, i32_w];rfl
               refine pure_ (i := 15) (N := some 98) (v := ?_) (a' := ?_) #[T,T,T,T,T,T,T,T,T,T,T,T,T,T,T,T,F,F,F,F,F,F,F,F,F,F,F,F,F,F,F,F] rfl rfl (any_of HT_.out (by kernel_rfl)) (fun _ _ _ h => h) (Or.inl ⟨by rfl, ?_⟩) ?_ ?_
               rotate_left;·intro w';go_simp;with_reducible rfl
               rotate_left;·simp only [Act.put, setIfInBounds_toArray, set_cons_zero, set_cons_succ, i64_w, i32_w];rfl
               refine pure_ (i := 16) (N := some 99) (v := ?_) (a' := ?_) #[T,T,T,T,T,T,T,T,T,T,T,T,T,T,T,T,T,F,F,F,F,F,F,F,F,F,F,F,F,F,F,F] rfl rfl (any_of HT_.out (by kernel_rfl)) (fun _ _ _ h => h) (Or.inl ⟨by rfl, ?_⟩) ?_ ?_
               rotate_left;·intro w';go_simp;with_reducible rfl
               rotate_left;·simp only [Act.put, setIfInBounds_toArray, set_cons_zero, set_cons_succ, i64_w, i32_w];rfl
               refine pure_ (i := 17) (N := some 100) (v := ?_) (a' := ?_) #[T,T,T,T,T,T,T,T,T,T,T,T,T,T,T,T,T,T,F,F,F,F,F,F,F,F,F,F,F,F,F,F] rfl rfl (any_of HT_.out (by kernel_rfl)) (fun _ _ _ h => h) (Or.inl ⟨by rfl, ?_⟩) ?_ ?_
               rotate_left;·intro w';go_simp;with_reducible rfl
               rotate_left;·simp only [Act.put, setIfInBounds_toArray, set_cons_zero, set_cons_succ, i64_w, i32_w];rfl
               refine take_ (i := 18) (N := some 101) (v := ?_) (a' := ?_) #[T,T,T,T,T,T,T,T,T,T,T,T,T,T,T,T,T,T,T,F,F,F,F,F,F,F,F,F,F,F,F,F] rfl rfl (take_ofW HT_.out HW_.out (by kernel_rfl)) (fun _ _ _ h => h) (Or.inl ⟨by rfl, ?_⟩) hHeld ?_ ?_
               rotate_left
               ·rintro w' ⟨s0, s1, s2, s3, s4, s5, s6, s7⟩
                go_simp;with_reducible rfl
               rotate_left;·simp only [Act.put, setIfInBounds_toArray, set_cons_zero, set_cons_succ, i64_w, i32_w];rfl
               refine take_ (i := 19) (N := some 102) (v := ?_) (a' := ?_) #[T,T,T,T,T,T,T,T,T,T,T,T,T,T,T,T,T,T,T,T,F,F,F,F,F,F,F,F,F,F,F,F] rfl rfl (take_ofW HT_.out HW_.out (by kernel_rfl)) (fun _ _ _ h => h) (Or.inl ⟨by rfl, ?_⟩) hHeld ?_ ?_
               rotate_left
               ·rintro w' ⟨s0, s1, s2, s3, s4, s5, s6, s7⟩
                go_simp;with_reducible rfl
               rotate_left;·simp only [Act.put, setIfInBounds_toArray, set_cons_zero, set_cons_succ, i64_w, i32_w];rfl
               refine take_ (i := 21) (N := some 104) (v := ?_) (a' := ?_) #[T,T,T,T,T,T,T,T,T,T,T,T,T,T,T,T,T,T,T,T,F,T,F,F,F,F,F,F,F,F,F,F] rfl rfl (take_ofW HT_.out HW_.out (by kernel_rfl)) (fun _ _ _ h => h) (Or.inl ⟨by rfl, ?_⟩) hHeld ?_ ?_
               rotate_left
               ·rintro w' ⟨s0, s1, s2, s3, s4, s5, s6, s7⟩
                go_simp;with_reducible rfl
               rotate_left;·simp only [Act.put, setIfInBounds_toArray, set_cons_zero, set_cons_succ, i64_w, i32_w];rfl
               refine take_ (i := 22) (N := some 105) (v := ?_) (a' := ?_) #[T,T,T,T,T,T,T,T,T,T,T,T,T,T,T,T,T,T,T,T,F,T,T,F,F,F,F,F,F,F,F,F] rfl rfl (take_ofW HT_.out HW_.out (by kernel_rfl)) (fun _ _ _ h => h) (Or.inl ⟨by rfl, ?_⟩) hHeld ?_ ?_
               rotate_left
               ·rintro w' ⟨s0, s1, s2, s3, s4, s5, s6, s7⟩
                go_simp;with_reducible rfl
               rotate_left;·simp only [Act.put, setIfInBounds_toArray, set_cons_zero, set_cons_succ, i64_w, i32_w];rfl
               refine one_ (i := 20) (N := some 103) #[T,T,T,T,T,T,T,T,T,T,T,T,T,T,T,T,T,T,T,T,T,T,T,F,F,F,F,F,F,F,F,F] rfl rfl (one_of HT_.out (by kernel_rfl)) (by decide) (fun K hK => ?_)
               refine goes_ Try.func25 (by kernel_rfl) rfl #[.agg #[.int .u32 a0_0, .int .i64 a0_1], .agg #[.int .u32 a1_0, .int .i64 a1_1]] (by rfl) rfl rfl (by (try simp only [List.map_toArray, List.map_cons, List.map_nil]); first | done | rfl | (simp only [List.length_drop, List.length_take]; rfl)) ?_
               with_reducible refine (cidr_Meet.calls a0_0 a0_1 a1_0 a1_1 t151 _ A80.out).mono ?_;rintro e w96 ⟨rfl, hb⟩;refine ⟨_, rfl, ?_⟩;replace BK126 := Aside0.mk (bb BK126.out hb);replace BK127 := Aside0.mk (bb BK127.out hb);replace BK136 := Aside0.mk (bb BK136.out hb);replace BK137 := Aside0.mk (bb BK137.out hb)
               replace HB := Aside0.mk (below_step (by repeat (first | (with_reducible first | exact HB.out | apply below_alloc | apply pw_below_drewN | apply below_drew1 | refine below_set ?_ GE126.out | refine below_set ?_ GE127.out | refine below_set ?_ GE136.out | refine below_set ?_ GE137.out) | exact HB.out)) hb)
               (try clear hb);(try clear hb2);(try clear hk);(try clear hi)
               refine hK.out _ _ ⟨(blk_cell BK126.out 0).trans rfl, (blk_cell BK126.out 1).trans rfl, (blk_cell BK127.out 0).trans rfl, (blk_cell BK127.out 1).trans rfl, (blk_cell BK136.out 0).trans rfl, (blk_cell BK136.out 1).trans rfl, (blk_cell BK137.out 0).trans rfl, (blk_cell BK137.out 1).trans rfl⟩ (fun hHeld => ?_)
               clear hK K
               refine norm_ (a' := ?_) ?_ ?_;rotate_left;·show Act.put _ (some 103) _ = _;simp only [Act.put, setIfInBounds_toArray, set_cons_zero, set_cons_succ, i64_w, i32_w];rfl
               refine one_ (i := 23) (N := some 106) #[T,T,T,T,T,T,T,T,T,T,T,T,T,T,T,T,T,T,T,T,T,T,T,T,F,F,F,F,F,F,F,F] rfl rfl (one_of HT_.out (by kernel_rfl)) (by decide) (fun K hK => ?_)
               refine goes_ Try.func25 (by kernel_rfl) rfl #[.agg #[.int .u32 t131, .int .i64 t132], .agg #[.int .u32 a1_0, .int .i64 a1_1]] (by rfl) rfl rfl (by (try simp only [List.map_toArray, List.map_cons, List.map_nil]); first | done | rfl | (simp only [List.length_drop, List.length_take]; rfl)) ?_
               with_reducible refine (cidr_Meet.calls t131 t132 a1_0 a1_1 false _ A81.out).mono ?_;rintro e w97 ⟨rfl, hb⟩;refine ⟨_, rfl, ?_⟩;replace BK126 := Aside0.mk (bb BK126.out hb);replace BK127 := Aside0.mk (bb BK127.out hb);replace BK136 := Aside0.mk (bb BK136.out hb);replace BK137 := Aside0.mk (bb BK137.out hb)
               replace HB := Aside0.mk (below_step (by repeat (first | (with_reducible first | exact HB.out | apply below_alloc | apply pw_below_drewN | apply below_drew1 | refine below_set ?_ GE126.out | refine below_set ?_ GE127.out | refine below_set ?_ GE136.out | refine below_set ?_ GE137.out) | exact HB.out)) hb)
               (try clear hb);(try clear hb2);(try clear hk);(try clear hi)
               refine hK.out _ _ ⟨(blk_cell BK126.out 0).trans rfl, (blk_cell BK126.out 1).trans rfl, (blk_cell BK127.out 0).trans rfl, (blk_cell BK127.out 1).trans rfl, (blk_cell BK136.out 0).trans rfl, (blk_cell BK136.out 1).trans rfl, (blk_cell BK137.out 0).trans rfl, (blk_cell BK137.out 1).trans rfl⟩ (fun hHeld => ?_)
               clear hK K
               refine norm_ (a' := ?_) ?_ ?_;rotate_left;·show Act.put _ (some 106) _ = _;simp only [Act.put, setIfInBounds_toArray, set_cons_zero, set_cons_succ, i64_w, i32_w];rfl
               refine pure_ (i := 24) (N := some 107) (v := ?_) (a' := ?_) #[T,T,T,T,T,T,T,T,T,T,T,T,T,T,T,T,T,T,T,T,T,T,T,T,T,F,F,F,F,F,F,F] rfl rfl (any_of HT_.out (by kernel_rfl)) (fun _ _ _ h => h) (Or.inl ⟨by rfl, ?_⟩) ?_ ?_
               rotate_left;·intro w';go_simp;with_reducible rfl
               rotate_left;·simp only [Act.put, setIfInBounds_toArray, set_cons_zero, set_cons_succ, i64_w, i32_w];rfl
               refine take_ (i := 25) (N := some 108) (v := ?_) (a' := ?_) #[T,T,T,T,T,T,T,T,T,T,T,T,T,T,T,T,T,T,T,T,T,T,T,T,T,T,F,F,F,F,F,F] rfl rfl (take_ofW HT_.out HW_.out (by kernel_rfl)) (fun _ _ _ h => h) (Or.inl ⟨by rfl, ?_⟩) hHeld ?_ ?_
               rotate_left
               ·rintro w' ⟨s0, s1, s2, s3, s4, s5, s6, s7⟩
                go_simp;with_reducible rfl
               rotate_left;·simp only [Act.put, setIfInBounds_toArray, set_cons_zero, set_cons_succ, i64_w, i32_w];rfl
               refine take_ (i := 26) (N := some 109) (v := ?_) (a' := ?_) #[T,T,T,T,T,T,T,T,T,T,T,T,T,T,T,T,T,T,T,T,T,T,T,T,T,T,T,F,F,F,F,F] rfl rfl (take_ofW HT_.out HW_.out (by kernel_rfl)) (fun _ _ _ h => h) (Or.inl ⟨by rfl, ?_⟩) hHeld ?_ ?_
               rotate_left
               ·rintro w' ⟨s0, s1, s2, s3, s4, s5, s6, s7⟩
                go_simp;with_reducible rfl
               rotate_left;·simp only [Act.put, setIfInBounds_toArray, set_cons_zero, set_cons_succ, i64_w, i32_w];rfl
               refine one_ (i := 27) (N := some 110) #[T,T,T,T,T,T,T,T,T,T,T,T,T,T,T,T,T,T,T,T,T,T,T,T,T,T,T,T,F,F,F,F] rfl rfl (one_of HT_.out (by kernel_rfl)) (by decide) (fun K hK => ?_)
               refine goes_ Try.func25 (by kernel_rfl) rfl #[.agg #[.int .u32 t134, .int .i64 t135], .agg #[.int .u32 a1_0, .int .i64 a1_1]] (by rfl) rfl rfl (by (try simp only [List.map_toArray, List.map_cons, List.map_nil]); first | done | rfl | (simp only [List.length_drop, List.length_take]; rfl)) ?_
               with_reducible refine (cidr_Meet.calls t134 t135 a1_0 a1_1 t153 _ A90.out).mono ?_;rintro e w98 ⟨rfl, hb⟩;refine ⟨_, rfl, ?_⟩;replace BK126 := Aside0.mk (bb BK126.out hb);replace BK127 := Aside0.mk (bb BK127.out hb);replace BK136 := Aside0.mk (bb BK136.out hb);replace BK137 := Aside0.mk (bb BK137.out hb)
               replace HB := Aside0.mk (below_step (by repeat (first | (with_reducible first | exact HB.out | apply below_alloc | apply pw_below_drewN | apply below_drew1 | refine below_set ?_ GE126.out | refine below_set ?_ GE127.out | refine below_set ?_ GE136.out | refine below_set ?_ GE137.out) | exact HB.out)) hb)
               (try clear hb);(try clear hb2);(try clear hk);(try clear hi)
               refine hK.out _ _ ⟨(blk_cell BK126.out 0).trans rfl, (blk_cell BK126.out 1).trans rfl, (blk_cell BK127.out 0).trans rfl, (blk_cell BK127.out 1).trans rfl, (blk_cell BK136.out 0).trans rfl, (blk_cell BK136.out 1).trans rfl, (blk_cell BK137.out 0).trans rfl, (blk_cell BK137.out 1).trans rfl⟩ (fun hHeld => ?_)
               clear hK K
               refine norm_ (a' := ?_) ?_ ?_;rotate_left;·show Act.put _ (some 110) _ = _;simp only [Act.put, setIfInBounds_toArray, set_cons_zero, set_cons_succ, i64_w, i32_w];rfl
               refine pure_ (i := 28) (N := some 111) (v := ?_) (a' := ?_) #[T,T,T,T,T,T,T,T,T,T,T,T,T,T,T,T,T,T,T,T,T,T,T,T,T,T,T,T,T,F,F,F] rfl rfl (any_of HT_.out (by kernel_rfl)) (fun _ _ _ h => h) (Or.inl ⟨by rfl, ?_⟩) ?_ ?_
               rotate_left;·intro w';go_simp;with_reducible rfl
               rotate_left;·simp only [Act.put, setIfInBounds_toArray, set_cons_zero, set_cons_succ, i64_w, i32_w];rfl
               refine pure_ (i := 29) (N := some 112) (v := ?_) (a' := ?_) #[T,T,T,T,T,T,T,T,T,T,T,T,T,T,T,T,T,T,T,T,T,T,T,T,T,T,T,T,T,T,F,F] rfl rfl (any_of HT_.out (by kernel_rfl)) (fun _ _ _ h => h) (Or.inl ⟨by rfl, ?_⟩) ?_ ?_
               rotate_left;·intro w';go_simp;with_reducible rfl
               rotate_left;·simp only [Act.put, setIfInBounds_toArray, set_cons_zero, set_cons_succ, i64_w, i32_w];rfl
               refine pure_ (i := 30) (N := some 113) (v := ?_) (a' := ?_) #[T,T,T,T,T,T,T,T,T,T,T,T,T,T,T,T,T,T,T,T,T,T,T,T,T,T,T,T,T,T,T,F] rfl rfl (any_of HT_.out (by kernel_rfl)) (fun _ _ _ h => h) (Or.inl ⟨by rfl, ?_⟩) ?_ ?_
               rotate_left;·intro w';go_simp;with_reducible rfl
               rotate_left;·simp only [Act.put, setIfInBounds_toArray, set_cons_zero, set_cons_succ, i64_w, i32_w];rfl
               refine pure_ (i := 31) (N := some 6) (v := ?_) (a' := ?_) #[T,T,T,T,T,T,T,T,T,T,T,T,T,T,T,T,T,T,T,T,T,T,T,T,T,T,T,T,T,T,T,T] rfl rfl (any_of HT_.out (by kernel_rfl)) (fun _ _ _ h => h) (Or.inl ⟨by rfl, ?_⟩) ?_ ?_
               rotate_left;·intro w';go_simp;with_reducible rfl
               rotate_left;·simp only [Act.put, setIfInBounds_toArray, set_cons_zero, set_cons_succ, i64_w, i32_w];rfl
               refine done_ (done_of HT_.out (by kernel_rfl)) ?_
               try go_wp2
               go_ret
               exact ⟨by first | rfl | (simp [errW_none, errW_some] <;> rfl) | (simp [*, errW_none, errW_some] <;> rfl), by repeat (first | (with_reducible first | exact HB.out | apply below_alloc | apply pw_below_drewN | apply below_drew1 | refine below_set ?_ GE126.out | refine below_set ?_ GE127.out | refine below_set ?_ GE136.out | refine below_set ?_ GE137.out) | exact HB.out)⟩
             ·replace c79 := Bool.eq_false_iff.mpr c79
              subst c79
              have H1 : (some false) = some r := by rw [if_neg (show ¬ (false = true) by decide)] at H; exact H
              clear H;have H := H1;clear H1
              exact absurd ((Option.some.inj H).trans hT.out) (by decide)
            ·replace c77 := Bool.eq_false_iff.mpr c77
             subst c77
             have H1 : (some false) = some r := by rw [if_neg (show ¬ (false = true) by decide)] at H; exact H
             clear H;have H := H1;clear H1
             exact absurd ((Option.some.inj H).trans hT.out) (by decide)
           ·replace c75 := Bool.eq_false_iff.mpr c75
            subst c75
            have H1 : ((cidr_Meet.f a0_0 a0_1 a1_0 a1_1).bind fun t154 => ((cidr_Meet.f t131 t132 a1_0 a1_1).bind fun t155 => (if t155 = true then (some (t154 == true)) else ((cidr_Meet.f t134 t135 a1_0 a1_1).bind fun t156 => (some (t154 == t156)))))) = some r := by rw [if_neg (show ¬ (false = true) by decide)] at H; exact H
            clear H;have H := H1;clear H1;replace H := Option.bind_eq_some_iff.mp H;obtain ⟨t154, A990, H⟩ := H
            replace H : ((cidr_Meet.f t131 t132 a1_0 a1_1).bind fun t155 => (if t155 = true then (some (t154 == true)) else ((cidr_Meet.f t134 t135 a1_0 a1_1).bind fun t156 => (some (t154 == t156))))) = some r := H
            have A99 := Aside0.mk A990;clear A990;replace H := Option.bind_eq_some_iff.mp H;obtain ⟨t155, A1000, H⟩ := H
            replace H : (if t155 = true then (some (t154 == true)) else ((cidr_Meet.f t134 t135 a1_0 a1_1).bind fun t156 => (some (t154 == t156)))) = some r := H
            have A100 := Aside0.mk A1000;clear A1000
            by_cases c101 : t155 = true
            ·subst c101
             have H1 : (some (t154 == true)) = some r := by rw [if_pos rfl] at H; exact H
             clear H;have H := H1;clear H1;obtain rfl := Option.some.inj H
             try go_wp2
             replace BK126 := Aside0.mk (blk_drew BK126.out);replace BK127 := Aside0.mk (blk_drew BK127.out);replace BK136 := Aside0.mk (blk_drew BK136.out);replace BK137 := Aside0.mk (blk_drew BK137.out);replace HB := Aside0.mk (below_drew1 HB.out)
             refine start_ (n := 32) (S := fun w' => w'.cell? ⟨gb126, 0, none⟩ = some (.int .u32 a0_0) ∧ w'.cell? ⟨gb126, 1, none⟩ = some (.int .i64 a0_1) ∧ w'.cell? ⟨gb127, 0, none⟩ = some (.int .u32 a1_0) ∧ w'.cell? ⟨gb127, 1, none⟩ = some (.int .i64 a1_1) ∧ w'.cell? ⟨gb136, 0, none⟩ = some (.int .u32 t131) ∧ w'.cell? ⟨gb136, 1, none⟩ = some (.int .i64 t132)) (ds := []) #[F,F,F,F,F,F,F,F,F,F,F,F,F,F,F,F,F,F,F,F,F,F,F,F,F,F,F,F,F,F,F,F] (by kernel_rfl) rfl rfl ⟨(blk_cell BK126.out 0).trans rfl, (blk_cell BK126.out 1).trans rfl, (blk_cell BK127.out 0).trans rfl, (blk_cell BK127.out 1).trans rfl, (blk_cell BK136.out 0).trans rfl, (blk_cell BK136.out 1).trans rfl⟩ (fun hHeld => ?_); refine with_tabW crossbucklaw03_CidrHalves.tab8 crossbucklaw03_CidrHalves.bits8 (fun HT_ HW_ => ?_)
             generalize wc.drew = w102 at BK126 BK127 BK136 BK137 HB hHeld ⊢
             refine one_ (i := 0) (N := some 83) #[T,F,F,F,F,F,F,F,F,F,F,F,F,F,F,F,F,F,F,F,F,F,F,F,F,F,F,F,F,F,F,F] rfl rfl (one_of HT_.out (by kernel_rfl)) (by decide) (fun K hK => ?_)
             refine goes_ Try.func13 (by kernel_rfl) rfl #[] (by rfl) rfl rfl (by (try simp only [List.map_toArray, List.map_cons, List.map_nil]); first | done | rfl | (simp only [List.length_drop, List.length_take]; rfl)) ?_
             with_reducible refine (crossbucklaw03_awake.calls kj60  true _ A72.out).mono ?_;rintro e w103 ⟨rfl, hb⟩;refine ⟨_, rfl, ?_⟩;replace BK126 := Aside0.mk (bb BK126.out hb);replace BK127 := Aside0.mk (bb BK127.out hb);replace BK136 := Aside0.mk (bb BK136.out hb);replace BK137 := Aside0.mk (bb BK137.out hb)
             replace HB := Aside0.mk (below_step (by repeat (first | (with_reducible first | exact HB.out | apply below_alloc | apply pw_below_drewN | apply below_drew1 | refine below_set ?_ GE126.out | refine below_set ?_ GE127.out | refine below_set ?_ GE136.out | refine below_set ?_ GE137.out) | exact HB.out)) hb)
             (try clear hb);(try clear hb2);(try clear hk);(try clear hi)
             refine hK.out _ _ ⟨(blk_cell BK126.out 0).trans rfl, (blk_cell BK126.out 1).trans rfl, (blk_cell BK127.out 0).trans rfl, (blk_cell BK127.out 1).trans rfl, (blk_cell BK136.out 0).trans rfl, (blk_cell BK136.out 1).trans rfl⟩ (fun hHeld => ?_)
             clear hK K
             refine norm_ (a' := ?_) ?_ ?_;rotate_left;·show Act.put _ (some 83) _ = _;simp only [Act.put, setIfInBounds_toArray, set_cons_zero, set_cons_succ, i64_w, i32_w];rfl
             refine pure_ (i := 1) (N := some 84) (v := ?_) (a' := ?_) #[T,T,F,F,F,F,F,F,F,F,F,F,F,F,F,F,F,F,F,F,F,F,F,F,F,F,F,F,F,F,F,F] rfl rfl (any_of HT_.out (by kernel_rfl)) (fun _ _ _ h => h) (Or.inl ⟨by rfl, ?_⟩) ?_ ?_
             rotate_left;·intro w';go_simp;with_reducible rfl
             rotate_left;·simp only [Act.put, setIfInBounds_toArray, set_cons_zero, set_cons_succ, i64_w, i32_w];rfl
             refine take_ (i := 2) (N := some 85) (v := ?_) (a' := ?_) #[T,T,T,F,F,F,F,F,F,F,F,F,F,F,F,F,F,F,F,F,F,F,F,F,F,F,F,F,F,F,F,F] rfl rfl (take_ofW HT_.out HW_.out (by kernel_rfl)) (fun _ _ _ h => h) (Or.inl ⟨by rfl, ?_⟩) hHeld ?_ ?_
             rotate_left
             ·rintro w' ⟨s0, s1, s2, s3, s4, s5⟩
              go_simp;with_reducible rfl
             rotate_left;·simp only [Act.put, setIfInBounds_toArray, set_cons_zero, set_cons_succ, i64_w, i32_w];rfl
             refine take_ (i := 3) (N := some 86) (v := ?_) (a' := ?_) #[T,T,T,T,F,F,F,F,F,F,F,F,F,F,F,F,F,F,F,F,F,F,F,F,F,F,F,F,F,F,F,F] rfl rfl (take_ofW HT_.out HW_.out (by kernel_rfl)) (fun _ _ _ h => h) (Or.inl ⟨by rfl, ?_⟩) hHeld ?_ ?_
             rotate_left
             ·rintro w' ⟨s0, s1, s2, s3, s4, s5⟩
              go_simp;with_reducible rfl
             rotate_left;·simp only [Act.put, setIfInBounds_toArray, set_cons_zero, set_cons_succ, i64_w, i32_w];rfl
             refine one_ (i := 4) (N := some 87) #[T,T,T,T,T,F,F,F,F,F,F,F,F,F,F,F,F,F,F,F,F,F,F,F,F,F,F,F,F,F,F,F] rfl rfl (one_of HT_.out (by kernel_rfl)) (by decide) (fun K hK => ?_)
             refine goes_ Try.func26 (by kernel_rfl) rfl #[.agg #[.int .u32 a0_0, .int .i64 a0_1], .agg #[.int .u32 a1_0, .int .i64 a1_1]] (by rfl) rfl rfl (by (try simp only [List.map_toArray, List.map_cons, List.map_nil]); first | done | rfl | (simp only [List.length_drop, List.length_take]; rfl)) ?_
             with_reducible refine (cidr_Within.calls a0_0 a0_1 a1_0 a1_1 false _ A74.out).mono ?_;rintro e w104 ⟨rfl, hb⟩;refine ⟨_, rfl, ?_⟩;replace BK126 := Aside0.mk (bb BK126.out hb);replace BK127 := Aside0.mk (bb BK127.out hb);replace BK136 := Aside0.mk (bb BK136.out hb);replace BK137 := Aside0.mk (bb BK137.out hb)
             replace HB := Aside0.mk (below_step (by repeat (first | (with_reducible first | exact HB.out | apply below_alloc | apply pw_below_drewN | apply below_drew1 | refine below_set ?_ GE126.out | refine below_set ?_ GE127.out | refine below_set ?_ GE136.out | refine below_set ?_ GE137.out) | exact HB.out)) hb)
             (try clear hb);(try clear hb2);(try clear hk);(try clear hi)
             refine hK.out _ _ ⟨(blk_cell BK126.out 0).trans rfl, (blk_cell BK126.out 1).trans rfl, (blk_cell BK127.out 0).trans rfl, (blk_cell BK127.out 1).trans rfl, (blk_cell BK136.out 0).trans rfl, (blk_cell BK136.out 1).trans rfl⟩ (fun hHeld => ?_)
             clear hK K
             refine norm_ (a' := ?_) ?_ ?_;rotate_left;·show Act.put _ (some 87) _ = _;simp only [Act.put, setIfInBounds_toArray, set_cons_zero, set_cons_succ, i64_w, i32_w];rfl
             refine pure_ (i := 5) (N := some 88) (v := ?_) (a' := ?_) #[T,T,T,T,T,T,F,F,F,F,F,F,F,F,F,F,F,F,F,F,F,F,F,F,F,F,F,F,F,F,F,F] rfl rfl (any_of HT_.out (by kernel_rfl)) (fun _ _ _ h => h) (Or.inl ⟨by rfl, ?_⟩) ?_ ?_
             rotate_left;·intro w';go_simp;with_reducible rfl
             rotate_left;·simp only [Act.put, setIfInBounds_toArray, set_cons_zero, set_cons_succ, i64_w, i32_w];rfl
             refine pure_ (i := 6) (N := some 89) (v := ?_) (a' := ?_) #[T,T,T,T,T,T,T,F,F,F,F,F,F,F,F,F,F,F,F,F,F,F,F,F,F,F,F,F,F,F,F,F] rfl rfl (any_of HT_.out (by kernel_rfl)) (fun _ _ _ h => h) (Or.inl ⟨by rfl, ?_⟩) ?_ ?_
             rotate_left;·intro w';go_simp;with_reducible rfl
             rotate_left;·simp only [Act.put, setIfInBounds_toArray, set_cons_zero, set_cons_succ, i64_w, i32_w];rfl
             refine pure_ (i := 7) (N := some 90) (v := undef) (a' := ?_) #[T,T,T,T,T,T,T,T,F,F,F,F,F,F,F,F,F,F,F,F,F,F,F,F,F,F,F,F,F,F,F,F] rfl rfl (any_of HT_.out (by kernel_rfl)) (fun _ _ _ h => h) (Or.inr ⟨by rfl, rfl⟩) ?_ ?_
             rotate_left;·simp only [Act.put, setIfInBounds_toArray, set_cons_zero, set_cons_succ, i64_w, i32_w];rfl
             refine pure_ (i := 8) (N := some 91) (v := undef) (a' := ?_) #[T,T,T,T,T,T,T,T,T,F,F,F,F,F,F,F,F,F,F,F,F,F,F,F,F,F,F,F,F,F,F,F] rfl rfl (any_of HT_.out (by kernel_rfl)) (fun _ _ _ h => h) (Or.inr ⟨by rfl, rfl⟩) ?_ ?_
             rotate_left;·simp only [Act.put, setIfInBounds_toArray, set_cons_zero, set_cons_succ, i64_w, i32_w];rfl
             refine pure_ (i := 9) (N := some 92) (v := undef) (a' := ?_) #[T,T,T,T,T,T,T,T,T,T,F,F,F,F,F,F,F,F,F,F,F,F,F,F,F,F,F,F,F,F,F,F] rfl rfl (any_of HT_.out (by kernel_rfl)) (fun _ _ _ h => h) (Or.inr ⟨by rfl, rfl⟩) ?_ ?_
             rotate_left;·simp only [Act.put, setIfInBounds_toArray, set_cons_zero, set_cons_succ, i64_w, i32_w];rfl
             refine pure_ (i := 10) (N := some 93) (v := undef) (a' := ?_) #[T,T,T,T,T,T,T,T,T,T,T,F,F,F,F,F,F,F,F,F,F,F,F,F,F,F,F,F,F,F,F,F] rfl rfl (any_of HT_.out (by kernel_rfl)) (fun _ _ _ h => h) (Or.inr ⟨by rfl, rfl⟩) ?_ ?_
             rotate_left;·simp only [Act.put, setIfInBounds_toArray, set_cons_zero, set_cons_succ, i64_w, i32_w];rfl
             refine pure_ (i := 11) (N := some 94) (v := undef) (a' := ?_) #[T,T,T,T,T,T,T,T,T,T,T,T,F,F,F,F,F,F,F,F,F,F,F,F,F,F,F,F,F,F,F,F] rfl rfl (any_of HT_.out (by kernel_rfl)) (fun _ _ _ h => h) (Or.inr ⟨by rfl, rfl⟩) ?_ ?_
             rotate_left;·simp only [Act.put, setIfInBounds_toArray, set_cons_zero, set_cons_succ, i64_w, i32_w];rfl
             refine pure_ (i := 12) (N := some 95) (v := undef) (a' := ?_) #[T,T,T,T,T,T,T,T,T,T,T,T,T,F,F,F,F,F,F,F,F,F,F,F,F,F,F,F,F,F,F,F] rfl rfl (any_of HT_.out (by kernel_rfl)) (fun _ _ _ h => h) (Or.inr ⟨by rfl, rfl⟩) ?_ ?_
             rotate_left;·simp only [Act.put, setIfInBounds_toArray, set_cons_zero, set_cons_succ, i64_w, i32_w];rfl
             refine pure_ (i := 13) (N := some 96) (v := undef) (a' := ?_) #[T,T,T,T,T,T,T,T,T,T,T,T,T,T,F,F,F,F,F,F,F,F,F,F,F,F,F,F,F,F,F,F] rfl rfl (any_of HT_.out (by kernel_rfl)) (fun _ _ _ h => h) (Or.inr ⟨by rfl, rfl⟩) ?_ ?_
             rotate_left;·simp only [Act.put, setIfInBounds_toArray, set_cons_zero, set_cons_succ, i64_w, i32_w];rfl
             refine pure_ (i := 14) (N := some 97) (v := undef) (a' := ?_) #[T,T,T,T,T,T,T,T,T,T,T,T,T,T,T,F,F,F,F,F,F,F,F,F,F,F,F,F,F,F,F,F] rfl rfl (any_of HT_.out (by kernel_rfl)) (fun _ _ _ h => h) (Or.inr ⟨by rfl, rfl⟩) ?_ ?_
             rotate_left;·simp only [Act.put, setIfInBounds_toArray, set_cons_zero, set_cons_succ, i64_w, i32_w];rfl
             refine pure_ (i := 15) (N := some 98) (v := ?_) (a' := ?_) #[T,T,T,T,T,T,T,T,T,T,T,T,T,T,T,T,F,F,F,F,F,F,F,F,F,F,F,F,F,F,F,F] rfl rfl (any_of HT_.out (by kernel_rfl)) (fun _ _ _ h => h) (Or.inl ⟨by rfl, ?_⟩) ?_ ?_
             rotate_left;·intro w';go_simp;with_reducible rfl
             rotate_left;·simp only [Act.put, setIfInBounds_toArray, set_cons_zero, set_cons_succ, i64_w, i32_w];rfl
             refine pure_ (i := 16) (N := some 99) (v := ?_) (a' := ?_) #[T,T,T,T,T,T,T,T,T,T,T,T,T,T,T,T,T,F,F,F,F,F,F,F,F,F,F,F,F,F,F,F] rfl rfl (any_of HT_.out (by kernel_rfl)) (fun _ _ _ h => h) (Or.inl ⟨by rfl, ?_⟩) ?_ ?_
             rotate_left;·intro w';go_simp;with_reducible rfl
             rotate_left;·simp only [Act.put, setIfInBounds_toArray, set_cons_zero, set_cons_succ, i64_w, i32_w];rfl
             refine pure_ (i := 17) (N := some 100) (v := ?_) (a' := ?_) #[T,T,T,T,T,T,T,T,T,T,T,T,T,T,T,T,T,T,F,F,F,F,F,F,F,F,F,F,F,F,F,F] rfl rfl (any_of HT_.out (by kernel_rfl)) (fun _ _ _ h => h) (Or.inl ⟨by rfl, ?_⟩) ?_ ?_
             rotate_left;·intro w';go_simp;with_reducible rfl
             rotate_left;·simp only [Act.put, setIfInBounds_toArray, set_cons_zero, set_cons_succ, i64_w, i32_w];rfl
             refine take_ (i := 18) (N := some 101) (v := ?_) (a' := ?_) #[T,T,T,T,T,T,T,T,T,T,T,T,T,T,T,T,T,T,T,F,F,F,F,F,F,F,F,F,F,F,F,F] rfl rfl (take_ofW HT_.out HW_.out (by kernel_rfl)) (fun _ _ _ h => h) (Or.inl ⟨by rfl, ?_⟩) hHeld ?_ ?_
             rotate_left
             ·rintro w' ⟨s0, s1, s2, s3, s4, s5⟩
              go_simp;with_reducible rfl
             rotate_left;·simp only [Act.put, setIfInBounds_toArray, set_cons_zero, set_cons_succ, i64_w, i32_w];rfl
             refine take_ (i := 19) (N := some 102) (v := ?_) (a' := ?_) #[T,T,T,T,T,T,T,T,T,T,T,T,T,T,T,T,T,T,T,T,F,F,F,F,F,F,F,F,F,F,F,F] rfl rfl (take_ofW HT_.out HW_.out (by kernel_rfl)) (fun _ _ _ h => h) (Or.inl ⟨by rfl, ?_⟩) hHeld ?_ ?_
             rotate_left
             ·rintro w' ⟨s0, s1, s2, s3, s4, s5⟩
              go_simp;with_reducible rfl
             rotate_left;·simp only [Act.put, setIfInBounds_toArray, set_cons_zero, set_cons_succ, i64_w, i32_w];rfl
             refine take_ (i := 21) (N := some 104) (v := ?_) (a' := ?_) #[T,T,T,T,T,T,T,T,T,T,T,T,T,T,T,T,T,T,T,T,F,T,F,F,F,F,F,F,F,F,F,F] rfl rfl (take_ofW HT_.out HW_.out (by kernel_rfl)) (fun _ _ _ h => h) (Or.inl ⟨by rfl, ?_⟩) hHeld ?_ ?_
             rotate_left
             ·rintro w' ⟨s0, s1, s2, s3, s4, s5⟩
              go_simp;with_reducible rfl
             rotate_left;·simp only [Act.put, setIfInBounds_toArray, set_cons_zero, set_cons_succ, i64_w, i32_w];rfl
             refine take_ (i := 22) (N := some 105) (v := ?_) (a' := ?_) #[T,T,T,T,T,T,T,T,T,T,T,T,T,T,T,T,T,T,T,T,F,T,T,F,F,F,F,F,F,F,F,F] rfl rfl (take_ofW HT_.out HW_.out (by kernel_rfl)) (fun _ _ _ h => h) (Or.inl ⟨by rfl, ?_⟩) hHeld ?_ ?_
             rotate_left
             ·rintro w' ⟨s0, s1, s2, s3, s4, s5⟩
              go_simp;with_reducible rfl
             rotate_left;·simp only [Act.put, setIfInBounds_toArray, set_cons_zero, set_cons_succ, i64_w, i32_w];rfl
             refine one_ (i := 20) (N := some 103) #[T,T,T,T,T,T,T,T,T,T,T,T,T,T,T,T,T,T,T,T,T,T,T,F,F,F,F,F,F,F,F,F] rfl rfl (one_of HT_.out (by kernel_rfl)) (by decide) (fun K hK => ?_)
             refine goes_ Try.func25 (by kernel_rfl) rfl #[.agg #[.int .u32 a0_0, .int .i64 a0_1], .agg #[.int .u32 a1_0, .int .i64 a1_1]] (by rfl) rfl rfl (by (try simp only [List.map_toArray, List.map_cons, List.map_nil]); first | done | rfl | (simp only [List.length_drop, List.length_take]; rfl)) ?_
             with_reducible refine (cidr_Meet.calls a0_0 a0_1 a1_0 a1_1 t154 _ A99.out).mono ?_;rintro e w105 ⟨rfl, hb⟩;refine ⟨_, rfl, ?_⟩;replace BK126 := Aside0.mk (bb BK126.out hb);replace BK127 := Aside0.mk (bb BK127.out hb);replace BK136 := Aside0.mk (bb BK136.out hb);replace BK137 := Aside0.mk (bb BK137.out hb)
             replace HB := Aside0.mk (below_step (by repeat (first | (with_reducible first | exact HB.out | apply below_alloc | apply pw_below_drewN | apply below_drew1 | refine below_set ?_ GE126.out | refine below_set ?_ GE127.out | refine below_set ?_ GE136.out | refine below_set ?_ GE137.out) | exact HB.out)) hb)
             (try clear hb);(try clear hb2);(try clear hk);(try clear hi)
             refine hK.out _ _ ⟨(blk_cell BK126.out 0).trans rfl, (blk_cell BK126.out 1).trans rfl, (blk_cell BK127.out 0).trans rfl, (blk_cell BK127.out 1).trans rfl, (blk_cell BK136.out 0).trans rfl, (blk_cell BK136.out 1).trans rfl⟩ (fun hHeld => ?_)
             clear hK K
             refine norm_ (a' := ?_) ?_ ?_;rotate_left;·show Act.put _ (some 103) _ = _;simp only [Act.put, setIfInBounds_toArray, set_cons_zero, set_cons_succ, i64_w, i32_w];rfl
             refine one_ (i := 23) (N := some 106) #[T,T,T,T,T,T,T,T,T,T,T,T,T,T,T,T,T,T,T,T,T,T,T,T,F,F,F,F,F,F,F,F] rfl rfl (one_of HT_.out (by kernel_rfl)) (by decide) (fun K hK => ?_)
             refine goes_ Try.func25 (by kernel_rfl) rfl #[.agg #[.int .u32 t131, .int .i64 t132], .agg #[.int .u32 a1_0, .int .i64 a1_1]] (by rfl) rfl rfl (by (try simp only [List.map_toArray, List.map_cons, List.map_nil]); first | done | rfl | (simp only [List.length_drop, List.length_take]; rfl)) ?_
             with_reducible refine (cidr_Meet.calls t131 t132 a1_0 a1_1 true _ A100.out).mono ?_;rintro e w106 ⟨rfl, hb⟩;refine ⟨_, rfl, ?_⟩;replace BK126 := Aside0.mk (bb BK126.out hb);replace BK127 := Aside0.mk (bb BK127.out hb);replace BK136 := Aside0.mk (bb BK136.out hb);replace BK137 := Aside0.mk (bb BK137.out hb)
             replace HB := Aside0.mk (below_step (by repeat (first | (with_reducible first | exact HB.out | apply below_alloc | apply pw_below_drewN | apply below_drew1 | refine below_set ?_ GE126.out | refine below_set ?_ GE127.out | refine below_set ?_ GE136.out | refine below_set ?_ GE137.out) | exact HB.out)) hb)
             (try clear hb);(try clear hb2);(try clear hk);(try clear hi)
             refine hK.out _ _ ⟨(blk_cell BK126.out 0).trans rfl, (blk_cell BK126.out 1).trans rfl, (blk_cell BK127.out 0).trans rfl, (blk_cell BK127.out 1).trans rfl, (blk_cell BK136.out 0).trans rfl, (blk_cell BK136.out 1).trans rfl⟩ (fun hHeld => ?_)
             clear hK K
             refine norm_ (a' := ?_) ?_ ?_;rotate_left;·show Act.put _ (some 106) _ = _;simp only [Act.put, setIfInBounds_toArray, set_cons_zero, set_cons_succ, i64_w, i32_w];rfl
             refine pure_ (i := 24) (N := some 107) (v := ?_) (a' := ?_) #[T,T,T,T,T,T,T,T,T,T,T,T,T,T,T,T,T,T,T,T,T,T,T,T,T,F,F,F,F,F,F,F] rfl rfl (any_of HT_.out (by kernel_rfl)) (fun _ _ _ h => h) (Or.inl ⟨by rfl, ?_⟩) ?_ ?_
             rotate_left;·intro w';go_simp;with_reducible rfl
             rotate_left;·simp only [Act.put, setIfInBounds_toArray, set_cons_zero, set_cons_succ, i64_w, i32_w];rfl
             refine pure_ (i := 25) (N := some 108) (v := undef) (a' := ?_) #[T,T,T,T,T,T,T,T,T,T,T,T,T,T,T,T,T,T,T,T,T,T,T,T,T,T,F,F,F,F,F,F] rfl rfl (any_of HT_.out (by kernel_rfl)) (fun _ _ _ h => h) (Or.inr ⟨by rfl, rfl⟩) ?_ ?_
             rotate_left;·simp only [Act.put, setIfInBounds_toArray, set_cons_zero, set_cons_succ, i64_w, i32_w];rfl
             refine pure_ (i := 26) (N := some 109) (v := undef) (a' := ?_) #[T,T,T,T,T,T,T,T,T,T,T,T,T,T,T,T,T,T,T,T,T,T,T,T,T,T,T,F,F,F,F,F] rfl rfl (any_of HT_.out (by kernel_rfl)) (fun _ _ _ h => h) (Or.inr ⟨by rfl, rfl⟩) ?_ ?_
             rotate_left;·simp only [Act.put, setIfInBounds_toArray, set_cons_zero, set_cons_succ, i64_w, i32_w];rfl
             refine pure_ (i := 27) (N := some 110) (v := undef) (a' := ?_) #[T,T,T,T,T,T,T,T,T,T,T,T,T,T,T,T,T,T,T,T,T,T,T,T,T,T,T,T,F,F,F,F] rfl rfl (any_of HT_.out (by kernel_rfl)) (fun _ _ _ h => h) (Or.inr ⟨by rfl, rfl⟩) ?_ ?_
             rotate_left;·simp only [Act.put, setIfInBounds_toArray, set_cons_zero, set_cons_succ, i64_w, i32_w];rfl
             refine pure_ (i := 28) (N := some 111) (v := ?_) (a' := ?_) #[T,T,T,T,T,T,T,T,T,T,T,T,T,T,T,T,T,T,T,T,T,T,T,T,T,T,T,T,T,F,F,F] rfl rfl (any_of HT_.out (by kernel_rfl)) (fun _ _ _ h => h) (Or.inl ⟨by rfl, ?_⟩) ?_ ?_
             rotate_left;·intro w';go_simp;with_reducible rfl
             rotate_left;·simp only [Act.put, setIfInBounds_toArray, set_cons_zero, set_cons_succ, i64_w, i32_w];rfl
             refine pure_ (i := 29) (N := some 112) (v := ?_) (a' := ?_) #[T,T,T,T,T,T,T,T,T,T,T,T,T,T,T,T,T,T,T,T,T,T,T,T,T,T,T,T,T,T,F,F] rfl rfl (any_of HT_.out (by kernel_rfl)) (fun _ _ _ h => h) (Or.inl ⟨by rfl, ?_⟩) ?_ ?_
             rotate_left;·intro w';go_simp;with_reducible rfl
             rotate_left;·simp only [Act.put, setIfInBounds_toArray, set_cons_zero, set_cons_succ, i64_w, i32_w];rfl
             refine pure_ (i := 30) (N := some 113) (v := ?_) (a' := ?_) #[T,T,T,T,T,T,T,T,T,T,T,T,T,T,T,T,T,T,T,T,T,T,T,T,T,T,T,T,T,T,T,F] rfl rfl (any_of HT_.out (by kernel_rfl)) (fun _ _ _ h => h) (Or.inl ⟨by rfl, ?_⟩) ?_ ?_
             rotate_left;·intro w';go_simp;with_reducible rfl
             rotate_left;·simp only [Act.put, setIfInBounds_toArray, set_cons_zero, set_cons_succ, i64_w, i32_w];rfl
             refine pure_ (i := 31) (N := some 6) (v := ?_) (a' := ?_) #[T,T,T,T,T,T,T,T,T,T,T,T,T,T,T,T,T,T,T,T,T,T,T,T,T,T,T,T,T,T,T,T] rfl rfl (any_of HT_.out (by kernel_rfl)) (fun _ _ _ h => h) (Or.inl ⟨by rfl, ?_⟩) ?_ ?_
             rotate_left;·intro w';go_simp;with_reducible rfl
             rotate_left;·simp only [Act.put, setIfInBounds_toArray, set_cons_zero, set_cons_succ, i64_w, i32_w];rfl
             refine done_ (done_of HT_.out (by kernel_rfl)) ?_
             try go_wp2
             go_ret
             exact ⟨by first | rfl | (simp [errW_none, errW_some] <;> rfl) | (simp [*, errW_none, errW_some] <;> rfl), by repeat (first | (with_reducible first | exact HB.out | apply below_alloc | apply pw_below_drewN | apply below_drew1 | refine below_set ?_ GE126.out | refine below_set ?_ GE127.out | refine below_set ?_ GE136.out | refine below_set ?_ GE137.out) | exact HB.out)⟩
            ·replace c101 := Bool.eq_false_iff.mpr c101
             subst c101
             have H1 : ((cidr_Meet.f t134 t135 a1_0 a1_1).bind fun t156 => (some (t154 == t156))) = some r := by rw [if_neg (show ¬ (false = true) by decide)] at H; exact H
             clear H;have H := H1;clear H1;replace H := Option.bind_eq_some_iff.mp H;obtain ⟨t156, A1070, H⟩ := H;replace H : (some (t154 == t156)) = some r := H;have A107 := Aside0.mk A1070;clear A1070;obtain rfl := Option.some.inj H
             try go_wp2
             replace BK126 := Aside0.mk (blk_drew BK126.out);replace BK127 := Aside0.mk (blk_drew BK127.out);replace BK136 := Aside0.mk (blk_drew BK136.out);replace BK137 := Aside0.mk (blk_drew BK137.out);replace HB := Aside0.mk (below_drew1 HB.out)
             refine start_ (n := 32) (S := fun w' => w'.cell? ⟨gb126, 0, none⟩ = some (.int .u32 a0_0) ∧ w'.cell? ⟨gb126, 1, none⟩ = some (.int .i64 a0_1) ∧ w'.cell? ⟨gb127, 0, none⟩ = some (.int .u32 a1_0) ∧ w'.cell? ⟨gb127, 1, none⟩ = some (.int .i64 a1_1) ∧ w'.cell? ⟨gb136, 0, none⟩ = some (.int .u32 t131) ∧ w'.cell? ⟨gb136, 1, none⟩ = some (.int .i64 t132) ∧ w'.cell? ⟨gb137, 0, none⟩ = some (.int .u32 t134) ∧ w'.cell? ⟨gb137, 1, none⟩ = some (.int .i64 t135)) (ds := []) #[F,F,F,F,F,F,F,F,F,F,F,F,F,F,F,F,F,F,F,F,F,F,F,F,F,F,F,F,F,F,F,F] (by kernel_rfl) rfl rfl ⟨(blk_cell BK126.out 0).trans rfl, (blk_cell BK126.out 1).trans rfl, (blk_cell BK127.out 0).trans rfl, (blk_cell BK127.out 1).trans rfl, (blk_cell BK136.out 0).trans rfl, (blk_cell BK136.out 1).trans rfl, (blk_cell BK137.out 0).trans rfl, (blk_cell BK137.out 1).trans rfl⟩ (fun hHeld => ?_); refine with_tabW crossbucklaw03_CidrHalves.tab8 crossbucklaw03_CidrHalves.bits8 (fun HT_ HW_ => ?_)
             generalize wc.drew = w108 at BK126 BK127 BK136 BK137 HB hHeld ⊢
             refine one_ (i := 0) (N := some 83) #[T,F,F,F,F,F,F,F,F,F,F,F,F,F,F,F,F,F,F,F,F,F,F,F,F,F,F,F,F,F,F,F] rfl rfl (one_of HT_.out (by kernel_rfl)) (by decide) (fun K hK => ?_)
             refine goes_ Try.func13 (by kernel_rfl) rfl #[] (by rfl) rfl rfl (by (try simp only [List.map_toArray, List.map_cons, List.map_nil]); first | done | rfl | (simp only [List.length_drop, List.length_take]; rfl)) ?_
             with_reducible refine (crossbucklaw03_awake.calls kj60  true _ A72.out).mono ?_;rintro e w109 ⟨rfl, hb⟩;refine ⟨_, rfl, ?_⟩;replace BK126 := Aside0.mk (bb BK126.out hb);replace BK127 := Aside0.mk (bb BK127.out hb);replace BK136 := Aside0.mk (bb BK136.out hb);replace BK137 := Aside0.mk (bb BK137.out hb)
             replace HB := Aside0.mk (below_step (by repeat (first | (with_reducible first | exact HB.out | apply below_alloc | apply pw_below_drewN | apply below_drew1 | refine below_set ?_ GE126.out | refine below_set ?_ GE127.out | refine below_set ?_ GE136.out | refine below_set ?_ GE137.out) | exact HB.out)) hb)
             (try clear hb);(try clear hb2);(try clear hk);(try clear hi)
             refine hK.out _ _ ⟨(blk_cell BK126.out 0).trans rfl, (blk_cell BK126.out 1).trans rfl, (blk_cell BK127.out 0).trans rfl, (blk_cell BK127.out 1).trans rfl, (blk_cell BK136.out 0).trans rfl, (blk_cell BK136.out 1).trans rfl, (blk_cell BK137.out 0).trans rfl, (blk_cell BK137.out 1).trans rfl⟩ (fun hHeld => ?_)
             clear hK K
             refine norm_ (a' := ?_) ?_ ?_;rotate_left;·show Act.put _ (some 83) _ = _;simp only [Act.put, setIfInBounds_toArray, set_cons_zero, set_cons_succ, i64_w, i32_w];rfl
             refine pure_ (i := 1) (N := some 84) (v := ?_) (a' := ?_) #[T,T,F,F,F,F,F,F,F,F,F,F,F,F,F,F,F,F,F,F,F,F,F,F,F,F,F,F,F,F,F,F] rfl rfl (any_of HT_.out (by kernel_rfl)) (fun _ _ _ h => h) (Or.inl ⟨by rfl, ?_⟩) ?_ ?_
             rotate_left;·intro w';go_simp;with_reducible rfl
             rotate_left;·simp only [Act.put, setIfInBounds_toArray, set_cons_zero, set_cons_succ, i64_w, i32_w];rfl
             refine take_ (i := 2) (N := some 85) (v := ?_) (a' := ?_) #[T,T,T,F,F,F,F,F,F,F,F,F,F,F,F,F,F,F,F,F,F,F,F,F,F,F,F,F,F,F,F,F] rfl rfl (take_ofW HT_.out HW_.out (by kernel_rfl)) (fun _ _ _ h => h) (Or.inl ⟨by rfl, ?_⟩) hHeld ?_ ?_
             rotate_left
             ·rintro w' ⟨s0, s1, s2, s3, s4, s5, s6, s7⟩
              go_simp;with_reducible rfl
             rotate_left;·simp only [Act.put, setIfInBounds_toArray, set_cons_zero, set_cons_succ, i64_w, i32_w];rfl
             refine take_ (i := 3) (N := some 86) (v := ?_) (a' := ?_) #[T,T,T,T,F,F,F,F,F,F,F,F,F,F,F,F,F,F,F,F,F,F,F,F,F,F,F,F,F,F,F,F] rfl rfl (take_ofW HT_.out HW_.out (by kernel_rfl)) (fun _ _ _ h => h) (Or.inl ⟨by rfl, ?_⟩) hHeld ?_ ?_
             rotate_left
             ·rintro w' ⟨s0, s1, s2, s3, s4, s5, s6, s7⟩
              go_simp;with_reducible rfl
             rotate_left;·simp only [Act.put, setIfInBounds_toArray, set_cons_zero, set_cons_succ, i64_w, i32_w];rfl
             refine one_ (i := 4) (N := some 87) #[T,T,T,T,T,F,F,F,F,F,F,F,F,F,F,F,F,F,F,F,F,F,F,F,F,F,F,F,F,F,F,F] rfl rfl (one_of HT_.out (by kernel_rfl)) (by decide) (fun K hK => ?_)
             refine goes_ Try.func26 (by kernel_rfl) rfl #[.agg #[.int .u32 a0_0, .int .i64 a0_1], .agg #[.int .u32 a1_0, .int .i64 a1_1]] (by rfl) rfl rfl (by (try simp only [List.map_toArray, List.map_cons, List.map_nil]); first | done | rfl | (simp only [List.length_drop, List.length_take]; rfl)) ?_
             with_reducible refine (cidr_Within.calls a0_0 a0_1 a1_0 a1_1 false _ A74.out).mono ?_;rintro e w110 ⟨rfl, hb⟩;refine ⟨_, rfl, ?_⟩;replace BK126 := Aside0.mk (bb BK126.out hb);replace BK127 := Aside0.mk (bb BK127.out hb);replace BK136 := Aside0.mk (bb BK136.out hb);replace BK137 := Aside0.mk (bb BK137.out hb)
             replace HB := Aside0.mk (below_step (by repeat (first | (with_reducible first | exact HB.out | apply below_alloc | apply pw_below_drewN | apply below_drew1 | refine below_set ?_ GE126.out | refine below_set ?_ GE127.out | refine below_set ?_ GE136.out | refine below_set ?_ GE137.out) | exact HB.out)) hb)
             (try clear hb);(try clear hb2);(try clear hk);(try clear hi)
             refine hK.out _ _ ⟨(blk_cell BK126.out 0).trans rfl, (blk_cell BK126.out 1).trans rfl, (blk_cell BK127.out 0).trans rfl, (blk_cell BK127.out 1).trans rfl, (blk_cell BK136.out 0).trans rfl, (blk_cell BK136.out 1).trans rfl, (blk_cell BK137.out 0).trans rfl, (blk_cell BK137.out 1).trans rfl⟩ (fun hHeld => ?_)
             clear hK K
             refine norm_ (a' := ?_) ?_ ?_;rotate_left;·show Act.put _ (some 87) _ = _;simp only [Act.put, setIfInBounds_toArray, set_cons_zero, set_cons_succ, i64_w, i32_w];rfl
             refine pure_ (i := 5) (N := some 88) (v := ?_) (a' := ?_) #[T,T,T,T,T,T,F,F,F,F,F,F,F,F,F,F,F,F,F,F,F,F,F,F,F,F,F,F,F,F,F,F] rfl rfl (any_of HT_.out (by kernel_rfl)) (fun _ _ _ h => h) (Or.inl ⟨by rfl, ?_⟩) ?_ ?_
             rotate_left;·intro w';go_simp;with_reducible rfl
             rotate_left;·simp only [Act.put, setIfInBounds_toArray, set_cons_zero, set_cons_succ, i64_w, i32_w];rfl
             refine pure_ (i := 6) (N := some 89) (v := ?_) (a' := ?_) #[T,T,T,T,T,T,T,F,F,F,F,F,F,F,F,F,F,F,F,F,F,F,F,F,F,F,F,F,F,F,F,F] rfl rfl (any_of HT_.out (by kernel_rfl)) (fun _ _ _ h => h) (Or.inl ⟨by rfl, ?_⟩) ?_ ?_
             rotate_left;·intro w';go_simp;with_reducible rfl
             rotate_left;·simp only [Act.put, setIfInBounds_toArray, set_cons_zero, set_cons_succ, i64_w, i32_w];rfl
             refine pure_ (i := 7) (N := some 90) (v := undef) (a' := ?_) #[T,T,T,T,T,T,T,T,F,F,F,F,F,F,F,F,F,F,F,F,F,F,F,F,F,F,F,F,F,F,F,F] rfl rfl (any_of HT_.out (by kernel_rfl)) (fun _ _ _ h => h) (Or.inr ⟨by rfl, rfl⟩) ?_ ?_
             rotate_left;·simp only [Act.put, setIfInBounds_toArray, set_cons_zero, set_cons_succ, i64_w, i32_w];rfl
             refine pure_ (i := 8) (N := some 91) (v := undef) (a' := ?_) #[T,T,T,T,T,T,T,T,T,F,F,F,F,F,F,F,F,F,F,F,F,F,F,F,F,F,F,F,F,F,F,F] rfl rfl (any_of HT_.out (by kernel_rfl)) (fun _ _ _ h => h) (Or.inr ⟨by rfl, rfl⟩) ?_ ?_
             rotate_left;·simp only [Act.put, setIfInBounds_toArray, set_cons_zero, set_cons_succ, i64_w, i32_w];rfl
             refine pure_ (i := 9) (N := some 92) (v := undef) (a' := ?_) #[T,T,T,T,T,T,T,T,T,T,F,F,F,F,F,F,F,F,F,F,F,F,F,F,F,F,F,F,F,F,F,F] rfl rfl (any_of HT_.out (by kernel_rfl)) (fun _ _ _ h => h) (Or.inr ⟨by rfl, rfl⟩) ?_ ?_
             rotate_left;·simp only [Act.put, setIfInBounds_toArray, set_cons_zero, set_cons_succ, i64_w, i32_w];rfl
             refine pure_ (i := 10) (N := some 93) (v := undef) (a' := ?_) #[T,T,T,T,T,T,T,T,T,T,T,F,F,F,F,F,F,F,F,F,F,F,F,F,F,F,F,F,F,F,F,F] rfl rfl (any_of HT_.out (by kernel_rfl)) (fun _ _ _ h => h) (Or.inr ⟨by rfl, rfl⟩) ?_ ?_
             rotate_left;·simp only [Act.put, setIfInBounds_toArray, set_cons_zero, set_cons_succ, i64_w, i32_w];rfl
             refine pure_ (i := 11) (N := some 94) (v := undef) (a' := ?_) #[T,T,T,T,T,T,T,T,T,T,T,T,F,F,F,F,F,F,F,F,F,F,F,F,F,F,F,F,F,F,F,F] rfl rfl (any_of HT_.out (by kernel_rfl)) (fun _ _ _ h => h) (Or.inr ⟨by rfl, rfl⟩) ?_ ?_
             rotate_left;·simp only [Act.put, setIfInBounds_toArray, set_cons_zero, set_cons_succ, i64_w, i32_w];rfl
             refine pure_ (i := 12) (N := some 95) (v := undef) (a' := ?_) #[T,T,T,T,T,T,T,T,T,T,T,T,T,F,F,F,F,F,F,F,F,F,F,F,F,F,F,F,F,F,F,F] rfl rfl (any_of HT_.out (by kernel_rfl)) (fun _ _ _ h => h) (Or.inr ⟨by rfl, rfl⟩) ?_ ?_
             rotate_left;·simp only [Act.put, setIfInBounds_toArray, set_cons_zero, set_cons_succ, i64_w, i32_w];rfl
             refine pure_ (i := 13) (N := some 96) (v := undef) (a' := ?_) #[T,T,T,T,T,T,T,T,T,T,T,T,T,T,F,F,F,F,F,F,F,F,F,F,F,F,F,F,F,F,F,F] rfl rfl (any_of HT_.out (by kernel_rfl)) (fun _ _ _ h => h) (Or.inr ⟨by rfl, rfl⟩) ?_ ?_
             rotate_left;·simp only [Act.put, setIfInBounds_toArray, set_cons_zero, set_cons_succ, i64_w, i32_w];rfl
             refine pure_ (i := 14) (N := some 97) (v := undef) (a' := ?_) #[T,T,T,T,T,T,T,T,T,T,T,T,T,T,T,F,F,F,F,F,F,F,F,F,F,F,F,F,F,F,F,F] rfl rfl (any_of HT_.out (by kernel_rfl)) (fun _ _ _ h => h) (Or.inr ⟨by rfl, rfl⟩) ?_ ?_
             rotate_left;·simp only [Act.put, setIfInBounds_toArray, set_cons_zero, set_cons_succ, i64_w, i32_w];rfl
             refine pure_ (i := 15) (N := some 98) (v := ?_) (a' := ?_) #[T,T,T,T,T,T,T,T,T,T,T,T,T,T,T,T,F,F,F,F,F,F,F,F,F,F,F,F,F,F,F,F] rfl rfl (any_of HT_.out (by kernel_rfl)) (fun _ _ _ h => h) (Or.inl ⟨by rfl, ?_⟩) ?_ ?_
             rotate_left;·intro w';go_simp;with_reducible rfl
             rotate_left;·simp only [Act.put, setIfInBounds_toArray, set_cons_zero, set_cons_succ, i64_w, i32_w];rfl
             refine pure_ (i := 16) (N := some 99) (v := ?_) (a' := ?_) #[T,T,T,T,T,T,T,T,T,T,T,T,T,T,T,T,T,F,F,F,F,F,F,F,F,F,F,F,F,F,F,F] rfl rfl (any_of HT_.out (by kernel_rfl)) (fun _ _ _ h => h) (Or.inl ⟨by rfl, ?_⟩) ?_ ?_
             rotate_left;·intro w';go_simp;with_reducible rfl
             rotate_left;·simp only [Act.put, setIfInBounds_toArray, set_cons_zero, set_cons_succ, i64_w, i32_w];rfl
             refine pure_ (i := 17) (N := some 100) (v := ?_) (a' := ?_) #[T,T,T,T,T,T,T,T,T,T,T,T,T,T,T,T,T,T,F,F,F,F,F,F,F,F,F,F,F,F,F,F] rfl rfl (any_of HT_.out (by kernel_rfl)) (fun _ _ _ h => h) (Or.inl ⟨by rfl, ?_⟩) ?_ ?_
             rotate_left;·intro w';go_simp;with_reducible rfl
             rotate_left;·simp only [Act.put, setIfInBounds_toArray, set_cons_zero, set_cons_succ, i64_w, i32_w];rfl
             refine take_ (i := 18) (N := some 101) (v := ?_) (a' := ?_) #[T,T,T,T,T,T,T,T,T,T,T,T,T,T,T,T,T,T,T,F,F,F,F,F,F,F,F,F,F,F,F,F] rfl rfl (take_ofW HT_.out HW_.out (by kernel_rfl)) (fun _ _ _ h => h) (Or.inl ⟨by rfl, ?_⟩) hHeld ?_ ?_
             rotate_left
             ·rintro w' ⟨s0, s1, s2, s3, s4, s5, s6, s7⟩
              go_simp;with_reducible rfl
             rotate_left;·simp only [Act.put, setIfInBounds_toArray, set_cons_zero, set_cons_succ, i64_w, i32_w];rfl
             refine take_ (i := 19) (N := some 102) (v := ?_) (a' := ?_) #[T,T,T,T,T,T,T,T,T,T,T,T,T,T,T,T,T,T,T,T,F,F,F,F,F,F,F,F,F,F,F,F] rfl rfl (take_ofW HT_.out HW_.out (by kernel_rfl)) (fun _ _ _ h => h) (Or.inl ⟨by rfl, ?_⟩) hHeld ?_ ?_
             rotate_left
             ·rintro w' ⟨s0, s1, s2, s3, s4, s5, s6, s7⟩
              go_simp;with_reducible rfl
             rotate_left;·simp only [Act.put, setIfInBounds_toArray, set_cons_zero, set_cons_succ, i64_w, i32_w];rfl
             refine take_ (i := 21) (N := some 104) (v := ?_) (a' := ?_) #[T,T,T,T,T,T,T,T,T,T,T,T,T,T,T,T,T,T,T,T,F,T,F,F,F,F,F,F,F,F,F,F] rfl rfl (take_ofW HT_.out HW_.out (by kernel_rfl)) (fun _ _ _ h => h) (Or.inl ⟨by rfl, ?_⟩) hHeld ?_ ?_
             rotate_left
             ·rintro w' ⟨s0, s1, s2, s3, s4, s5, s6, s7⟩
              go_simp;with_reducible rfl
             rotate_left;·simp only [Act.put, setIfInBounds_toArray, set_cons_zero, set_cons_succ, i64_w, i32_w];rfl
             refine take_ (i := 22) (N := some 105) (v := ?_) (a' := ?_) #[T,T,T,T,T,T,T,T,T,T,T,T,T,T,T,T,T,T,T,T,F,T,T,F,F,F,F,F,F,F,F,F] rfl rfl (take_ofW HT_.out HW_.out (by kernel_rfl)) (fun _ _ _ h => h) (Or.inl ⟨by rfl, ?_⟩) hHeld ?_ ?_
             rotate_left
             ·rintro w' ⟨s0, s1, s2, s3, s4, s5, s6, s7⟩
              go_simp;with_reducible rfl
             rotate_left;·simp only [Act.put, setIfInBounds_toArray, set_cons_zero, set_cons_succ, i64_w, i32_w];rfl
             refine one_ (i := 20) (N := some 103) #[T,T,T,T,T,T,T,T,T,T,T,T,T,T,T,T,T,T,T,T,T,T,T,F,F,F,F,F,F,F,F,F] rfl rfl (one_of HT_.out (by kernel_rfl)) (by decide) (fun K hK => ?_)
             refine goes_ Try.func25 (by kernel_rfl) rfl #[.agg #[.int .u32 a0_0, .int .i64 a0_1], .agg #[.int .u32 a1_0, .int .i64 a1_1]] (by rfl) rfl rfl (by (try simp only [List.map_toArray, List.map_cons, List.map_nil]); first | done | rfl | (simp only [List.length_drop, List.length_take]; rfl)) ?_
             with_reducible refine (cidr_Meet.calls a0_0 a0_1 a1_0 a1_1 t154 _ A99.out).mono ?_;rintro e w111 ⟨rfl, hb⟩;refine ⟨_, rfl, ?_⟩;replace BK126 := Aside0.mk (bb BK126.out hb);replace BK127 := Aside0.mk (bb BK127.out hb);replace BK136 := Aside0.mk (bb BK136.out hb);replace BK137 := Aside0.mk (bb BK137.out hb)
             replace HB := Aside0.mk (below_step (by repeat (first | (with_reducible first | exact HB.out | apply below_alloc | apply pw_below_drewN | apply below_drew1 | refine below_set ?_ GE126.out | refine below_set ?_ GE127.out | refine below_set ?_ GE136.out | refine below_set ?_ GE137.out) | exact HB.out)) hb)
             (try clear hb);(try clear hb2);(try clear hk);(try clear hi)
             refine hK.out _ _ ⟨(blk_cell BK126.out 0).trans rfl, (blk_cell BK126.out 1).trans rfl, (blk_cell BK127.out 0).trans rfl, (blk_cell BK127.out 1).trans rfl, (blk_cell BK136.out 0).trans rfl, (blk_cell BK136.out 1).trans rfl, (blk_cell BK137.out 0).trans rfl, (blk_cell BK137.out 1).trans rfl⟩ (fun hHeld => ?_)
             clear hK K
             refine norm_ (a' := ?_) ?_ ?_;rotate_left;·show Act.put _ (some 103) _ = _;simp only [Act.put, setIfInBounds_toArray, set_cons_zero, set_cons_succ, i64_w, i32_w];rfl
             refine one_ (i := 23) (N := some 106) #[T,T,T,T,T,T,T,T,T,T,T,T,T,T,T,T,T,T,T,T,T,T,T,T,F,F,F,F,F,F,F,F] rfl rfl (one_of HT_.out (by kernel_rfl)) (by decide) (fun K hK => ?_)
             refine goes_ Try.func25 (by kernel_rfl) rfl #[.agg #[.int .u32 t131, .int .i64 t132], .agg #[.int .u32 a1_0, .int .i64 a1_1]] (by rfl) rfl rfl (by (try simp only [List.map_toArray, List.map_cons, List.map_nil]); first | done | rfl | (simp only [List.length_drop, List.length_take]; rfl)) ?_
             with_reducible refine (cidr_Meet.calls t131 t132 a1_0 a1_1 false _ A100.out).mono ?_;rintro e w112 ⟨rfl, hb⟩;refine ⟨_, rfl, ?_⟩;replace BK126 := Aside0.mk (bb BK126.out hb);replace BK127 := Aside0.mk (bb BK127.out hb);replace BK136 := Aside0.mk (bb BK136.out hb);replace BK137 := Aside0.mk (bb BK137.out hb)
             replace HB := Aside0.mk (below_step (by repeat (first | (with_reducible first | exact HB.out | apply below_alloc | apply pw_below_drewN | apply below_drew1 | refine below_set ?_ GE126.out | refine below_set ?_ GE127.out | refine below_set ?_ GE136.out | refine below_set ?_ GE137.out) | exact HB.out)) hb)
             (try clear hb);(try clear hb2);(try clear hk);(try clear hi)
             refine hK.out _ _ ⟨(blk_cell BK126.out 0).trans rfl, (blk_cell BK126.out 1).trans rfl, (blk_cell BK127.out 0).trans rfl, (blk_cell BK127.out 1).trans rfl, (blk_cell BK136.out 0).trans rfl, (blk_cell BK136.out 1).trans rfl, (blk_cell BK137.out 0).trans rfl, (blk_cell BK137.out 1).trans rfl⟩ (fun hHeld => ?_)
             clear hK K
             refine norm_ (a' := ?_) ?_ ?_;rotate_left;·show Act.put _ (some 106) _ = _;simp only [Act.put, setIfInBounds_toArray, set_cons_zero, set_cons_succ, i64_w, i32_w];rfl
             refine pure_ (i := 24) (N := some 107) (v := ?_) (a' := ?_) #[T,T,T,T,T,T,T,T,T,T,T,T,T,T,T,T,T,T,T,T,T,T,T,T,T,F,F,F,F,F,F,F] rfl rfl (any_of HT_.out (by kernel_rfl)) (fun _ _ _ h => h) (Or.inl ⟨by rfl, ?_⟩) ?_ ?_
             rotate_left;·intro w';go_simp;with_reducible rfl
             rotate_left;·simp only [Act.put, setIfInBounds_toArray, set_cons_zero, set_cons_succ, i64_w, i32_w];rfl
             refine take_ (i := 25) (N := some 108) (v := ?_) (a' := ?_) #[T,T,T,T,T,T,T,T,T,T,T,T,T,T,T,T,T,T,T,T,T,T,T,T,T,T,F,F,F,F,F,F] rfl rfl (take_ofW HT_.out HW_.out (by kernel_rfl)) (fun _ _ _ h => h) (Or.inl ⟨by rfl, ?_⟩) hHeld ?_ ?_
             rotate_left
             ·rintro w' ⟨s0, s1, s2, s3, s4, s5, s6, s7⟩
              go_simp;with_reducible rfl
             rotate_left;·simp only [Act.put, setIfInBounds_toArray, set_cons_zero, set_cons_succ, i64_w, i32_w];rfl
             refine take_ (i := 26) (N := some 109) (v := ?_) (a' := ?_) #[T,T,T,T,T,T,T,T,T,T,T,T,T,T,T,T,T,T,T,T,T,T,T,T,T,T,T,F,F,F,F,F] rfl rfl (take_ofW HT_.out HW_.out (by kernel_rfl)) (fun _ _ _ h => h) (Or.inl ⟨by rfl, ?_⟩) hHeld ?_ ?_
             rotate_left
             ·rintro w' ⟨s0, s1, s2, s3, s4, s5, s6, s7⟩
              go_simp;with_reducible rfl
             rotate_left;·simp only [Act.put, setIfInBounds_toArray, set_cons_zero, set_cons_succ, i64_w, i32_w];rfl
             refine one_ (i := 27) (N := some 110) #[T,T,T,T,T,T,T,T,T,T,T,T,T,T,T,T,T,T,T,T,T,T,T,T,T,T,T,T,F,F,F,F] rfl rfl (one_of HT_.out (by kernel_rfl)) (by decide) (fun K hK => ?_)
             refine goes_ Try.func25 (by kernel_rfl) rfl #[.agg #[.int .u32 t134, .int .i64 t135], .agg #[.int .u32 a1_0, .int .i64 a1_1]] (by rfl) rfl rfl (by (try simp only [List.map_toArray, List.map_cons, List.map_nil]); first | done | rfl | (simp only [List.length_drop, List.length_take]; rfl)) ?_
             with_reducible refine (cidr_Meet.calls t134 t135 a1_0 a1_1 t156 _ A107.out).mono ?_;rintro e w113 ⟨rfl, hb⟩;refine ⟨_, rfl, ?_⟩;replace BK126 := Aside0.mk (bb BK126.out hb);replace BK127 := Aside0.mk (bb BK127.out hb);replace BK136 := Aside0.mk (bb BK136.out hb);replace BK137 := Aside0.mk (bb BK137.out hb)
             replace HB := Aside0.mk (below_step (by repeat (first | (with_reducible first | exact HB.out | apply below_alloc | apply pw_below_drewN | apply below_drew1 | refine below_set ?_ GE126.out | refine below_set ?_ GE127.out | refine below_set ?_ GE136.out | refine below_set ?_ GE137.out) | exact HB.out)) hb)
             (try clear hb);(try clear hb2);(try clear hk);(try clear hi)
             refine hK.out _ _ ⟨(blk_cell BK126.out 0).trans rfl, (blk_cell BK126.out 1).trans rfl, (blk_cell BK127.out 0).trans rfl, (blk_cell BK127.out 1).trans rfl, (blk_cell BK136.out 0).trans rfl, (blk_cell BK136.out 1).trans rfl, (blk_cell BK137.out 0).trans rfl, (blk_cell BK137.out 1).trans rfl⟩ (fun hHeld => ?_)
             clear hK K
             refine norm_ (a' := ?_) ?_ ?_;rotate_left;·show Act.put _ (some 110) _ = _;simp only [Act.put, setIfInBounds_toArray, set_cons_zero, set_cons_succ, i64_w, i32_w];rfl
             refine pure_ (i := 28) (N := some 111) (v := ?_) (a' := ?_) #[T,T,T,T,T,T,T,T,T,T,T,T,T,T,T,T,T,T,T,T,T,T,T,T,T,T,T,T,T,F,F,F] rfl rfl (any_of HT_.out (by kernel_rfl)) (fun _ _ _ h => h) (Or.inl ⟨by rfl, ?_⟩) ?_ ?_
             rotate_left;·intro w';go_simp;with_reducible rfl
             rotate_left;·simp only [Act.put, setIfInBounds_toArray, set_cons_zero, set_cons_succ, i64_w, i32_w];rfl
             refine pure_ (i := 29) (N := some 112) (v := ?_) (a' := ?_) #[T,T,T,T,T,T,T,T,T,T,T,T,T,T,T,T,T,T,T,T,T,T,T,T,T,T,T,T,T,T,F,F] rfl rfl (any_of HT_.out (by kernel_rfl)) (fun _ _ _ h => h) (Or.inl ⟨by rfl, ?_⟩) ?_ ?_
             rotate_left;·intro w';go_simp;with_reducible rfl
             rotate_left;·simp only [Act.put, setIfInBounds_toArray, set_cons_zero, set_cons_succ, i64_w, i32_w];rfl
             refine pure_ (i := 30) (N := some 113) (v := ?_) (a' := ?_) #[T,T,T,T,T,T,T,T,T,T,T,T,T,T,T,T,T,T,T,T,T,T,T,T,T,T,T,T,T,T,T,F] rfl rfl (any_of HT_.out (by kernel_rfl)) (fun _ _ _ h => h) (Or.inl ⟨by rfl, ?_⟩) ?_ ?_
             rotate_left;·intro w';go_simp;with_reducible rfl
             rotate_left;·simp only [Act.put, setIfInBounds_toArray, set_cons_zero, set_cons_succ, i64_w, i32_w];rfl
             refine pure_ (i := 31) (N := some 6) (v := ?_) (a' := ?_) #[T,T,T,T,T,T,T,T,T,T,T,T,T,T,T,T,T,T,T,T,T,T,T,T,T,T,T,T,T,T,T,T] rfl rfl (any_of HT_.out (by kernel_rfl)) (fun _ _ _ h => h) (Or.inl ⟨by rfl, ?_⟩) ?_ ?_
             rotate_left;·intro w';go_simp;with_reducible rfl
             rotate_left;·simp only [Act.put, setIfInBounds_toArray, set_cons_zero, set_cons_succ, i64_w, i32_w];rfl
             refine done_ (done_of HT_.out (by kernel_rfl)) ?_
             try go_wp2
             go_ret
             exact ⟨by first | rfl | (simp [errW_none, errW_some] <;> rfl) | (simp [*, errW_none, errW_some] <;> rfl), by repeat (first | (with_reducible first | exact HB.out | apply below_alloc | apply pw_below_drewN | apply below_drew1 | refine below_set ?_ GE126.out | refine below_set ?_ GE127.out | refine below_set ?_ GE136.out | refine below_set ?_ GE137.out) | exact HB.out)⟩
          ·replace c73 := Bool.eq_false_iff.mpr c73
           subst c73
           have H1 : (some false) = some r := by rw [if_neg (show ¬ (false = true) by decide)] at H; exact H
           clear H;have H := H1;clear H1
           exact absurd ((Option.some.inj H).trans hT.out) (by decide)

end Go.Proofs.Ytbnjbjjbfbbdcaa.PCH
