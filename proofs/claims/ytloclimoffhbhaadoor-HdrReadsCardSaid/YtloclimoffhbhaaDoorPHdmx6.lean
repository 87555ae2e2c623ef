-- Written by wip/myprint.py and wip/merge.py (this session's own programs); Lean checks it.
import Derived.Test.YtloclimoffhbhaaDoorPHdmx0
import Derived.Test.YtloclimoffhbhaaDoorPHdmx1
import Derived.Test.YtloclimoffhbhaaDoorPHdmx3
import Derived.Test.YtloclimoffhbhaaDoorPHdmx4
import Derived.Test.YtloclimoffhbhaaDoorPHdmx5
namespace Go.Proofs.YtloclimoffhbhaaDoor.PHdm
open Go.RowKit Go.Proofs.YtloclimoffhbhaaDoorW.PrintWords Go.Proofs.YtloclimoffhbhaaDoorW.PrintLast Go.Proofs.YtloclimoffhbhaaDoorW.PrintMore
attribute [local go_sem] max2_int min2_int max_two min_two max_three min_three max_four min_four   -- for this text's walks alone
set_option linter.unusedVariables false
set_option linter.unusedSimpArgs false

attribute [local go_sem high] eqA67
/-! ### crossbucklaw02_HdrReads: function 13 -/
mutual
def crossbucklaw02_HdrReads.j0 : Nat → ByteArray → Int → Bool → Option (Bool)
  | 0, _, _, _ => none
  | k + 1, x0, x1, x44 => if x44 = true then (some false) else ((hdr_ParseAddr.f k x0).bind fun bt250 => ((crossbuckref02_ParseAddr.f k x0).bind fun bt252 => (if bt250.2 = bt252.2 then (crossbucklaw02_HdrReads.j1 k x0 x1 (bt250.1 != bt252.1)) else (crossbucklaw02_HdrReads.j1 k x0 x1 true))))
def crossbucklaw02_HdrReads.j1 : Nat → ByteArray → Int → Bool → Option (Bool)
  | 0, _, _, _ => none
  | k + 1, x0, x1, x62 => if x62 = true then (some false) else ((hdr_Number.f x0 (wrap64 (x1))).bind fun bt254 => ((crossbuckref02_Number.f k x0 (wrap64 (x1))).bind fun bt256 => ((crossbucklaw02_awake.f k).bind fun t258 => (if t258 = true then (if bt254.2 = bt256.2 then (some (bt254.1 == bt256.1)) else (some false)) else (some false)))))
end
def crossbucklaw02_HdrReads.f (k : Nat) (a0 : ByteArray) (a1 : Int) : Option (Bool) := if (a0.size : Int) > 300 then ((crossbucklaw02_awake.f k).bind fun t234 => (some t234)) else ((hdr_Parse.f k a0).bind fun bt235 => ((crossbuckref02_Parse.f k a0).bind fun bt242 => (if bt235.2.2.2.2.2 = bt242.2.2.2.2.2 then (if (!(bt235.1 == bt242.1) || (!(bt235.2.1 == bt242.2.1) || (!(bt235.2.2.1 == bt242.2.2.1) || (!(bt235.2.2.2.1 == bt242.2.2.2.1) || (!(bt235.2.2.2.2.1 == bt242.2.2.2.2.1)))))) = true then (crossbucklaw02_HdrReads.j0 k a0 a1 true) else (if bt242.2.2.2.2.2 = 0 then ((hdr_Print.f k bt235.1 bt235.2.1 bt235.2.2.1 bt235.2.2.2.1 bt235.2.2.2.2.1).bind fun t249 => (crossbucklaw02_HdrReads.j0 k a0 a1 (t249.toList != a0.toList))) else (crossbucklaw02_HdrReads.j0 k a0 a1 false))) else (crossbucklaw02_HdrReads.j0 k a0 a1 true))))
theorem crossbucklaw02_HdrReads.mono_l : ∀ k, (∀ y0 y1 y2, LeO (crossbucklaw02_HdrReads.j0 k y0 y1 y2) (crossbucklaw02_HdrReads.j0 (k + 1) y0 y1 y2)) ∧ (∀ y0 y1 y2, LeO (crossbucklaw02_HdrReads.j1 k y0 y1 y2) (crossbucklaw02_HdrReads.j1 (k + 1) y0 y1 y2))
  | 0 => ⟨fun _ _ _ r h => by simp [crossbucklaw02_HdrReads.j0] at h, fun _ _ _ r h => by simp [crossbucklaw02_HdrReads.j1] at h⟩
  | k + 1 => by
    obtain ⟨ih0, ih1⟩ := crossbucklaw02_HdrReads.mono_l k
    refine ⟨?_, ?_⟩
    · intro y0 y1 y2
      unfold crossbucklaw02_HdrReads.j0
      repeat' first
      | (with_reducible exact ih0 _ _ _)
      | (with_reducible exact ih1 _ _ _)
      | (with_reducible exact crossbucklaw02_awake.mono _)
      | (with_reducible exact crossbuckref02_Number.mono _ _ _)
      | (with_reducible exact crossbuckref02_Parse.mono _ _)
      | (with_reducible exact crossbuckref02_ParseAddr.mono _ _)
      | (with_reducible exact hdr_Parse.mono _ _)
      | (with_reducible exact hdr_ParseAddr.mono _ _)
      | (with_reducible exact hdr_Print.mono _ _ _ _ _ _)
      | (with_reducible exact LeO.refl _)
      | (with_reducible exact LeO.none _)
      | (with_reducible refine LeO.ite ?_ ?_)
      | (with_reducible refine LeO.bind ?_ (fun _ => ?_))
      | exact ih0 _ _ _
      | exact ih1 _ _ _
      | exact crossbucklaw02_awake.mono _
      | exact crossbuckref02_Number.mono _ _ _
      | exact crossbuckref02_Parse.mono _ _
      | exact crossbuckref02_ParseAddr.mono _ _
      | exact hdr_Parse.mono _ _
      | exact hdr_ParseAddr.mono _ _
      | exact hdr_Print.mono _ _ _ _ _ _
      | exact LeO.none _
      | refine LeO.ite ?_ ?_
      | refine LeO.bind ?_ (fun _ => ?_)
    · intro y0 y1 y2
      unfold crossbucklaw02_HdrReads.j1
      repeat' first
      | (with_reducible exact ih0 _ _ _)
      | (with_reducible exact ih1 _ _ _)
      | (with_reducible exact crossbucklaw02_awake.mono _)
      | (with_reducible exact crossbuckref02_Number.mono _ _ _)
      | (with_reducible exact crossbuckref02_Parse.mono _ _)
      | (with_reducible exact crossbuckref02_ParseAddr.mono _ _)
      | (with_reducible exact hdr_Parse.mono _ _)
      | (with_reducible exact hdr_ParseAddr.mono _ _)
      | (with_reducible exact hdr_Print.mono _ _ _ _ _ _)
      | (with_reducible exact LeO.refl _)
      | (with_reducible exact LeO.none _)
      | (with_reducible refine LeO.ite ?_ ?_)
      | (with_reducible refine LeO.bind ?_ (fun _ => ?_))
      | exact ih0 _ _ _
      | exact ih1 _ _ _
      | exact crossbucklaw02_awake.mono _
      | exact crossbuckref02_Number.mono _ _ _
      | exact crossbuckref02_Parse.mono _ _
      | exact crossbuckref02_ParseAddr.mono _ _
      | exact hdr_Parse.mono _ _
      | exact hdr_ParseAddr.mono _ _
      | exact hdr_Print.mono _ _ _ _ _ _
      | exact LeO.none _
      | refine LeO.ite ?_ ?_
      | refine LeO.bind ?_ (fun _ => ?_)
theorem crossbucklaw02_HdrReads.mono : ∀ a0 a1 k, LeO (crossbucklaw02_HdrReads.f k a0 a1) (crossbucklaw02_HdrReads.f (k + 1) a0 a1) := by
  intro a0 a1 k
  obtain ⟨ih0, ih1⟩ := crossbucklaw02_HdrReads.mono_l k
  unfold crossbucklaw02_HdrReads.f
  repeat' first
      | (with_reducible exact ih0 _ _ _)
      | (with_reducible exact ih1 _ _ _)
      | (with_reducible exact crossbucklaw02_awake.mono _)
      | (with_reducible exact crossbuckref02_Number.mono _ _ _)
      | (with_reducible exact crossbuckref02_Parse.mono _ _)
      | (with_reducible exact crossbuckref02_ParseAddr.mono _ _)
      | (with_reducible exact hdr_Parse.mono _ _)
      | (with_reducible exact hdr_ParseAddr.mono _ _)
      | (with_reducible exact hdr_Print.mono _ _ _ _ _ _)
      | (with_reducible exact LeO.refl _)
      | (with_reducible exact LeO.none _)
      | (with_reducible refine LeO.ite ?_ ?_)
      | (with_reducible refine LeO.bind ?_ (fun _ => ?_))
      | exact ih0 _ _ _
      | exact ih1 _ _ _
      | exact crossbucklaw02_awake.mono _
      | exact crossbuckref02_Number.mono _ _ _
      | exact crossbuckref02_Parse.mono _ _
      | exact crossbuckref02_ParseAddr.mono _ _
      | exact hdr_Parse.mono _ _
      | exact hdr_ParseAddr.mono _ _
      | exact hdr_Print.mono _ _ _ _ _ _
      | exact LeO.none _
      | refine LeO.ite ?_ ?_
      | refine LeO.bind ?_ (fun _ => ?_)
set_option maxHeartbeats 8000000 in
set_option maxRecDepth 100000 in
theorem crossbucklaw02_HdrReads.calls (k : Nat) (a0 : ByteArray) (a1 : Int) (r : Bool) (w : World) (hG : Hand.Good true true w) (h : crossbucklaw02_HdrReads.f k a0 a1 = some r) (hT : Aside0 (r = true)) :
    Calls Tryd.prog 13 #[.string a0, .int .u16 a1] w fun e w' => e = .returned (.bool r) ∧ Below w.heap.size w w' := by
  have hu67 := Tryd.underlying67
  have HB := Aside0.mk (Below.refl w.heap.size w)
  have hGG := Aside0.mk hG
  clear hG
  have H : (if (a0.size : Int) > 300 then ((crossbucklaw02_awake.f k).bind fun t234 => (some t234)) else ((hdr_Parse.f k a0).bind fun bt235 => ((crossbuckref02_Parse.f k a0).bind fun bt242 => (if bt235.2.2.2.2.2 = bt242.2.2.2.2.2 then (if (!(bt235.1 == bt242.1) || (!(bt235.2.1 == bt242.2.1) || (!(bt235.2.2.1 == bt242.2.2.1) || (!(bt235.2.2.2.1 == bt242.2.2.2.1) || (!(bt235.2.2.2.2.1 == bt242.2.2.2.2.1)))))) = true then (crossbucklaw02_HdrReads.j0 k a0 a1 true) else (if bt242.2.2.2.2.2 = 0 then ((hdr_Print.f k bt235.1 bt235.2.1 bt235.2.2.1 bt235.2.2.2.1 bt235.2.2.2.2.1).bind fun t249 => (crossbucklaw02_HdrReads.j0 k a0 a1 (t249.toList != a0.toList))) else (crossbucklaw02_HdrReads.j0 k a0 a1 false))) else (crossbucklaw02_HdrReads.j0 k a0 a1 true))))) = some r := h
  clear h
  by_cases c3 : (a0.size : Int) > 300
  · rw [if_pos c3] at H
    have c3b0 : decide (300 < (a0.size : Int)) = true := decide_eq_true c3
    have c3b1 : decide (300 < a0.size) = true := decide_eq_true (by omega)
    clear c3
    replace H := Option.bind_eq_some_iff.mp H
    obtain ⟨t234, A40, H⟩ := H
    replace H : (some t234) = some r := H
    have A4 := Aside0.mk A40
    clear A40
    obtain rfl := Option.some.inj H
    go_enter Tryd.func13, Tryd.ntmps13
    go_wp2_with (first | ((with_reducible refine gate_callee (f := 31) rfl ?_); refine goesL_ (some 16) rfl rfl Tryd.func31 (by kernel_rfl) rfl #[] rfl (by (try simp only [List.map_toArray, List.map_cons, List.map_nil]); first | done | rfl | (simp only [List.length_drop, List.length_take]; rfl)) ?_; (with_reducible refine (crossbucklaw02_awake.calls k  t234 _ (Hand.Good.below false true hGG.out (by repeat (first | (with_reducible first | exact HB.out | apply below_alloc | apply pw_below_drewN | apply below_drew1) | exact HB.out)) rfl rfl) A4.out).mono ?_); rintro e w5 ⟨rfl, hb⟩; refine ⟨_, rfl, ?_⟩; have n0_ := Aside0.mk (below_step (by repeat (first | (with_reducible first | exact HB.out | apply below_alloc | apply pw_below_drewN | apply below_drew1) | exact HB.out)) hb); clear HB; have HB := n0_; clear n0_; (try clear hb); (try clear hb2); (try clear hk); (try clear hi)))
    go_ret
    exact ⟨by first | rfl | (simp [errW_none, errW_some] <;> rfl) | (simp [*, errW_none, errW_some] <;> rfl), by repeat (first | (with_reducible first | exact HB.out | apply below_alloc | apply pw_below_drewN | apply below_drew1) | exact HB.out)⟩
  · rw [if_neg c3] at H
    have c3b0 : decide (300 < (a0.size : Int)) = false := decide_eq_false c3
    have c3b1 : decide (300 < a0.size) = false := decide_eq_false (by omega)
    clear c3
    replace H := Option.bind_eq_some_iff.mp H
    obtain ⟨⟨t235, t236, t237, t238, t239, t240⟩, A60, H⟩ := H
    replace H : ((crossbuckref02_Parse.f k a0).bind fun bt242 => (if t240 = bt242.2.2.2.2.2 then (if (!(t235 == bt242.1) || (!(t236 == bt242.2.1) || (!(t237 == bt242.2.2.1) || (!(t238 == bt242.2.2.2.1) || (!(t239 == bt242.2.2.2.2.1)))))) = true then (crossbucklaw02_HdrReads.j0 k a0 a1 true) else (if bt242.2.2.2.2.2 = 0 then ((hdr_Print.f k t235 t236 t237 t238 t239).bind fun t249 => (crossbucklaw02_HdrReads.j0 k a0 a1 (t249.toList != a0.toList))) else (crossbucklaw02_HdrReads.j0 k a0 a1 false))) else (crossbucklaw02_HdrReads.j0 k a0 a1 true))) = some r := H
    have A6 := Aside0.mk A60
    clear A60
    replace H := Option.bind_eq_some_iff.mp H
    obtain ⟨⟨t242, t243, t244, t245, t246, t247⟩, A70, H⟩ := H
    replace H : (if t240 = t247 then (if (!(t235 == t242) || (!(t236 == t243) || (!(t237 == t244) || (!(t238 == t245) || (!(t239 == t246)))))) = true then (crossbucklaw02_HdrReads.j0 k a0 a1 true) else (if t247 = 0 then ((hdr_Print.f k t235 t236 t237 t238 t239).bind fun t249 => (crossbucklaw02_HdrReads.j0 k a0 a1 (t249.toList != a0.toList))) else (crossbucklaw02_HdrReads.j0 k a0 a1 false))) else (crossbucklaw02_HdrReads.j0 k a0 a1 true)) = some r := H
    have A7 := Aside0.mk A70
    clear A70
    have HC8 := Aside0.mk H
    clear H
    go_enter Tryd.func13, Tryd.ntmps13
    go_upto_region 5 with (first | ((with_reducible refine gate_callee (f := 51) rfl ?_); refine goesL_ (some 19) rfl rfl Tryd.func51 (by kernel_rfl) rfl #[.string a0] rfl (by (try simp only [List.map_toArray, List.map_cons, List.map_nil]); first | done | rfl | (simp only [List.length_drop, List.length_take]; rfl)) ?_; (with_reducible refine (hdr_Parse.calls k a0 t235 t236 t237 t238 t239 t240 _ (Hand.Good.below true false hGG.out (by repeat (first | (with_reducible first | exact HB.out | apply below_alloc | apply pw_below_drewN | apply below_drew1) | exact HB.out)) rfl rfl) A6.out).mono ?_); rintro e w9 ⟨rfl, hb⟩; refine ⟨_, rfl, ?_⟩; have n0_ := Aside0.mk (below_step (by repeat (first | (with_reducible first | exact HB.out | apply below_alloc | apply pw_below_drewN | apply below_drew1) | exact HB.out)) hb); clear HB; have HB := n0_; clear n0_; (try clear hb); (try clear hb2); (try clear hk); (try clear hi)) | ((with_reducible refine gate_dst (N := 5) rfl ?_); refine box_event ?hg (N := 5) ?hd (cs := #[.int .u32 0, .int .u32 0, .int .u8 0, .int .u16 0, .int .u16 0]) (t := 67) ?hr ?_; (case hd => rfl); (case hg => rfl); (case hr => first | (go_simp; done) | (go_simp; rfl)); intro gb241 hg w10 hbox hb; have n0_ := Aside0.mk (below_step (by repeat (first | (with_reducible first | exact HB.out | apply below_alloc | apply pw_below_drewN | apply below_drew1) | exact HB.out)) hb); have n1_ := Aside0.mk (hbox); have n2_ := Aside0.mk ((by rw [hg]; exact (below_size (by repeat (first | (with_reducible first | exact HB.out | apply below_alloc | apply pw_below_drewN | apply below_drew1) | exact HB.out))) : w.heap.size ≤ gb241)); have n3_ := Aside0.mk ((by rw [hg]; exact (below_size (by repeat (first | (with_reducible first | exact HB.out | apply below_alloc | apply pw_below_drewN | apply below_drew1) | exact HB.out))) : w.heap.size ≤ gb241)); clear HB; have HB := n0_; have BK241 := n1_; have GW241 := n2_; have GE241 := n3_; clear n0_ n1_ n2_ n3_; clear hb hbox hg; have hcz11_0 : w10.cell? ⟨gb241, 0, none⟩ = some (.int .u32 0) := (blk_cell BK241.out 0).trans rfl; have hcz11_1 : w10.cell? ⟨gb241, 1, none⟩ = some (.int .u32 0) := (blk_cell BK241.out 1).trans rfl; have hcz11_2 : w10.cell? ⟨gb241, 2, none⟩ = some (.int .u8 0) := (blk_cell BK241.out 2).trans rfl; have hcz11_3 : w10.cell? ⟨gb241, 3, none⟩ = some (.int .u16 0) := (blk_cell BK241.out 3).trans rfl; have hcz11_4 : w10.cell? ⟨gb241, 4, none⟩ = some (.int .u16 0) := (blk_cell BK241.out 4).trans rfl; have hfz11_0 := blk_frozen BK241.out 0; have hfz11_1 := blk_frozen BK241.out 1; have hfz11_2 := blk_frozen BK241.out 2; have hfz11_3 := blk_frozen BK241.out 3; have hfz11_4 := blk_frozen BK241.out 4) | ((with_reducible refine gate_callee (f := 56) rfl ?_); refine goesL_ (some 24) rfl rfl Tryd.func56 (by kernel_rfl) rfl #[.string a0] rfl (by (try simp only [List.map_toArray, List.map_cons, List.map_nil]); first | done | rfl | (simp only [List.length_drop, List.length_take]; rfl)) ?_; (with_reducible refine (crossbuckref02_Parse.calls k a0 t242 t243 t244 t245 t246 t247 _ A7.out).mono ?_); rintro e w12 ⟨rfl, hb⟩; refine ⟨_, rfl, ?_⟩; have n0_ := Aside0.mk (blk_below (g := gb241) (o := .cells #[.int .u32 t235, .int .u32 t236, .int .u8 t237, .int .u16 t238, .int .u16 t239] 67 (0, 0)) (by (with_reducible repeat (first | refine blk_drewN ?_ _ | refine blk_drew ?_ | refine blk_alloc ?_ _)); refine blk_put (cs := #[.int .u32 t235, .int .u32 t236, .int .u8 t237, .int .u16 t238, .int .u16 0]) ?_ 4 _ rfl; (with_reducible repeat (first | refine blk_drewN ?_ _ | refine blk_drew ?_ | refine blk_alloc ?_ _)); refine blk_put (cs := #[.int .u32 t235, .int .u32 t236, .int .u8 t237, .int .u16 0, .int .u16 0]) ?_ 3 _ rfl; (with_reducible repeat (first | refine blk_drewN ?_ _ | refine blk_drew ?_ | refine blk_alloc ?_ _)); refine blk_put (cs := #[.int .u32 t235, .int .u32 t236, .int .u8 0, .int .u16 0, .int .u16 0]) ?_ 2 _ rfl; (with_reducible repeat (first | refine blk_drewN ?_ _ | refine blk_drew ?_ | refine blk_alloc ?_ _)); refine blk_put (cs := #[.int .u32 t235, .int .u32 0, .int .u8 0, .int .u16 0, .int .u16 0]) ?_ 1 _ rfl; (with_reducible repeat (first | refine blk_drewN ?_ _ | refine blk_drew ?_ | refine blk_alloc ?_ _)); refine blk_put (cs := #[.int .u32 0, .int .u32 0, .int .u8 0, .int .u16 0, .int .u16 0]) ?_ 0 _ rfl; (with_reducible repeat (first | refine blk_drewN ?_ _ | refine blk_drew ?_ | refine blk_alloc ?_ _)); exact BK241.out) hb); have n1_ := Aside0.mk (below_step (by repeat (first | (with_reducible first | exact HB.out | apply below_alloc | apply pw_below_drewN | apply below_drew1 | refine below_set ?_ GE241.out) | exact HB.out)) hb); clear BK241; clear HB; have BK241 := n0_; have HB := n1_; clear n0_ n1_; (try clear hb); (try clear hb2); (try clear hk); (try clear hi)) | ((with_reducible refine gate_dst (N := 7) rfl ?_); refine box_event ?hg (N := 7) ?hd (cs := #[.int .u32 0, .int .u32 0, .int .u8 0, .int .u16 0, .int .u16 0]) (t := 67) ?hr ?_; (case hd => rfl); (case hg => rfl); (case hr => first | (go_simp; done) | (go_simp; rfl)); intro gb248 hg w13 hbox hb; have n0_ := Aside0.mk (blk_below (g := gb241) (o := .cells #[.int .u32 t235, .int .u32 t236, .int .u8 t237, .int .u16 t238, .int .u16 t239] 67 (0, 0)) (by (with_reducible repeat (first | refine blk_drewN ?_ _ | refine blk_drew ?_ | refine blk_alloc ?_ _)); exact BK241.out) hb); have n1_ := Aside0.mk (below_step (by repeat (first | (with_reducible first | exact HB.out | apply below_alloc | apply pw_below_drewN | apply below_drew1 | refine below_set ?_ GE241.out) | exact HB.out)) hb); have n2_ := Aside0.mk (hbox); have n3_ := Aside0.mk ((by rw [hg]; exact (below_size (by repeat (first | (with_reducible first | exact HB.out | apply below_alloc | apply pw_below_drewN | apply below_drew1 | refine below_set ?_ GE241.out) | exact HB.out))) : w.heap.size ≤ gb248)); have n4_ := Aside0.mk ((by rw [hg]; exact (below_size (by repeat (first | (with_reducible first | exact HB.out | apply below_alloc | apply pw_below_drewN | apply below_drew1 | refine below_set ?_ GE241.out) | exact HB.out))) : w.heap.size ≤ gb248)); have n5_ := Aside0.mk ((by rw [hg]; exact Nat.ne_of_lt (blk_lt (g := gb241) (o := .cells #[.int .u32 t235, .int .u32 t236, .int .u8 t237, .int .u16 t238, .int .u16 t239] 67 (0, 0)) (by (with_reducible repeat (first | refine blk_drewN ?_ _ | refine blk_drew ?_ | refine blk_alloc ?_ _)); exact BK241.out)) : gb241 ≠ gb248)); have n6_ := Aside0.mk ((by rw [hg]; exact Nat.ne_of_gt (blk_lt (g := gb241) (o := .cells #[.int .u32 t235, .int .u32 t236, .int .u8 t237, .int .u16 t238, .int .u16 t239] 67 (0, 0)) (by (with_reducible repeat (first | refine blk_drewN ?_ _ | refine blk_drew ?_ | refine blk_alloc ?_ _)); exact BK241.out)) : gb248 ≠ gb241)); clear BK241; clear HB; have BK241 := n0_; have HB := n1_; have BK248 := n2_; have GW248 := n3_; have GE248 := n4_; have NB241_248 := n5_; have NB248_241 := n6_; clear n0_ n1_ n2_ n3_ n4_ n5_ n6_; clear hb hbox hg; have hnb14 := NB248_241.out; have hnc14 := NB241_248.out; have hcz15_0 : w13.cell? ⟨gb248, 0, none⟩ = some (.int .u32 0) := (blk_cell BK248.out 0).trans rfl; have hcz15_1 : w13.cell? ⟨gb248, 1, none⟩ = some (.int .u32 0) := (blk_cell BK248.out 1).trans rfl; have hcz15_2 : w13.cell? ⟨gb248, 2, none⟩ = some (.int .u8 0) := (blk_cell BK248.out 2).trans rfl; have hcz15_3 : w13.cell? ⟨gb248, 3, none⟩ = some (.int .u16 0) := (blk_cell BK248.out 3).trans rfl; have hcz15_4 : w13.cell? ⟨gb248, 4, none⟩ = some (.int .u16 0) := (blk_cell BK248.out 4).trans rfl; have hfz15_0 := blk_frozen BK248.out 0; have hfz15_1 := blk_frozen BK248.out 1; have hfz15_2 := blk_frozen BK248.out 2; have hfz15_3 := blk_frozen BK248.out 3; have hfz15_4 := blk_frozen BK248.out 4))
    (try simp only [Act.put, List.setIfInBounds_toArray, List.set_cons_zero, List.set_cons_succ])
    go_cut [44] (fun v44 wc => ∃ (kq : Nat) (x44_7 : Bool), v44 = .bool x44_7 ∧ Aside0 (crossbucklaw02_HdrReads.j0 kq a0 a1 x44_7 = some r) ∧ Aside0 (kq ≤ k) ∧ Aside0 (wc.heap[gb241]? = some (.cells #[.int .u32 t235, .int .u32 t236, .int .u8 t237, .int .u16 t238, .int .u16 t239] 67 (0, 0))) ∧ Aside0 (wc.heap[gb248]? = some (.cells #[.int .u32 t242, .int .u32 t243, .int .u8 t244, .int .u16 t245, .int .u16 t246] 67 (0, 0))) ∧ Aside0 (Below w.heap.size w wc))
    case first =>
      have H := HC8.out
      clear HC8
      by_cases c16 : t240 = t247
      · rw [if_pos c16] at H
        have c16b0 : (t240 == t247) = true := beq_iff_eq.mpr c16
        have c16b1 : (t240 != t247) = false := bne_eq_false_iff_eq.mpr c16
        clear c16
        (first | rw [c16b0] | (simp only [i64_w, i32_w]; rw [c16b0]) | skip)
        by_cases c17 : (!(t235 == t242) || (!(t236 == t243) || (!(t237 == t244) || (!(t238 == t245) || (!(t239 == t246)))))) = true
        · rw [if_pos c17] at H
          have c17b0 : (!(t235 == t242) || (!(t236 == t243) || (!(t237 == t244) || (!(t238 == t245) || (!(t239 == t246)))))) = true := c17
          clear c17
          exfalso
          unfold crossbucklaw02_HdrReads.j0 at H
          split at H
          · exact absurd H (by simp)
          · rw [if_pos rfl] at H
            exact absurd ((Option.some.inj H).trans hT.out) (by decide)
        · rw [if_neg c17] at H
          have c17b0 : (!(t235 == t242) || (!(t236 == t243) || (!(t237 == t244) || (!(t238 == t245) || (!(t239 == t246)))))) = false := by simpa using c17
          clear c17
          by_cases c18 : t247 = 0
          · rw [if_pos c18] at H
            have c18b0 : (t247 == 0) = true := beq_iff_eq.mpr c18
            have c18b1 : (t247 != 0) = false := bne_eq_false_iff_eq.mpr c18
            clear c18
            replace H := Option.bind_eq_some_iff.mp H
            obtain ⟨t249, A190, H⟩ := H
            replace H : (crossbucklaw02_HdrReads.j0 k a0 a1 (t249.toList != a0.toList)) = some r := H
            have A19 := Aside0.mk A190
            clear A190
            have H' := Aside0.mk H
            clear H
            have hnb20 := NB241_248.out
            have hnc20 := NB248_241.out
            have hcz21_0 : w13.cell? ⟨gb241, 0, none⟩ = some (.int .u32 t235) := (blk_cell BK241.out 0).trans rfl
            have hcz21_1 : w13.cell? ⟨gb241, 1, none⟩ = some (.int .u32 t236) := (blk_cell BK241.out 1).trans rfl
            have hcz21_2 : w13.cell? ⟨gb241, 2, none⟩ = some (.int .u8 t237) := (blk_cell BK241.out 2).trans rfl
            have hcz21_3 : w13.cell? ⟨gb241, 3, none⟩ = some (.int .u16 t238) := (blk_cell BK241.out 3).trans rfl
            have hcz21_4 : w13.cell? ⟨gb241, 4, none⟩ = some (.int .u16 t239) := (blk_cell BK241.out 4).trans rfl
            have hfz21_0 := blk_frozen BK241.out 0
            have hfz21_1 := blk_frozen BK241.out 1
            have hfz21_2 := blk_frozen BK241.out 2
            have hfz21_3 := blk_frozen BK241.out 3
            have hfz21_4 := blk_frozen BK241.out 4
            have hcz22_0 : w13.cell? ⟨gb248, 0, none⟩ = some (.int .u32 0) := (blk_cell BK248.out 0).trans rfl
            have hcz22_1 : w13.cell? ⟨gb248, 1, none⟩ = some (.int .u32 0) := (blk_cell BK248.out 1).trans rfl
            have hcz22_2 : w13.cell? ⟨gb248, 2, none⟩ = some (.int .u8 0) := (blk_cell BK248.out 2).trans rfl
            have hcz22_3 : w13.cell? ⟨gb248, 3, none⟩ = some (.int .u16 0) := (blk_cell BK248.out 3).trans rfl
            have hcz22_4 : w13.cell? ⟨gb248, 4, none⟩ = some (.int .u16 0) := (blk_cell BK248.out 4).trans rfl
            have hfz22_0 := blk_frozen BK248.out 0
            have hfz22_1 := blk_frozen BK248.out 1
            have hfz22_2 := blk_frozen BK248.out 2
            have hfz22_3 := blk_frozen BK248.out 3
            have hfz22_4 := blk_frozen BK248.out 4
            go_wp2_with (first | (go_at_call 50; (with_reducible refine (hdr_Print.calls k t235 t236 t237 t238 t239 t249 _ (Hand.Good.below false true hGG.out (by repeat (first | (with_reducible first | exact HB.out | apply below_alloc | apply pw_below_drewN | apply below_drew1 | refine below_set ?_ GE241.out | refine below_set ?_ GE248.out) | exact HB.out)) rfl rfl) A19.out).mono ?_); rintro e w23 ⟨rfl, hb⟩; have n0_ := Aside0.mk (blk_below (g := gb241) (o := .cells #[.int .u32 t235, .int .u32 t236, .int .u8 t237, .int .u16 t238, .int .u16 t239] 67 (0, 0)) (by (with_reducible repeat (first | refine blk_drewN ?_ _ | refine blk_drew ?_ | refine blk_alloc ?_ _)); refine blk_far ?_ NB241_248.out _; (with_reducible repeat (first | refine blk_drewN ?_ _ | refine blk_drew ?_ | refine blk_alloc ?_ _)); refine blk_far ?_ NB241_248.out _; (with_reducible repeat (first | refine blk_drewN ?_ _ | refine blk_drew ?_ | refine blk_alloc ?_ _)); refine blk_far ?_ NB241_248.out _; (with_reducible repeat (first | refine blk_drewN ?_ _ | refine blk_drew ?_ | refine blk_alloc ?_ _)); refine blk_far ?_ NB241_248.out _; (with_reducible repeat (first | refine blk_drewN ?_ _ | refine blk_drew ?_ | refine blk_alloc ?_ _)); refine blk_far ?_ NB241_248.out _; (with_reducible repeat (first | refine blk_drewN ?_ _ | refine blk_drew ?_ | refine blk_alloc ?_ _)); exact BK241.out) hb); have n1_ := Aside0.mk (blk_below (g := gb248) (o := .cells #[.int .u32 t242, .int .u32 t243, .int .u8 t244, .int .u16 t245, .int .u16 t246] 67 (0, 0)) (by (with_reducible repeat (first | refine blk_drewN ?_ _ | refine blk_drew ?_ | refine blk_alloc ?_ _)); refine blk_put (cs := #[.int .u32 t242, .int .u32 t243, .int .u8 t244, .int .u16 t245, .int .u16 0]) ?_ 4 _ rfl; (with_reducible repeat (first | refine blk_drewN ?_ _ | refine blk_drew ?_ | refine blk_alloc ?_ _)); refine blk_put (cs := #[.int .u32 t242, .int .u32 t243, .int .u8 t244, .int .u16 0, .int .u16 0]) ?_ 3 _ rfl; (with_reducible repeat (first | refine blk_drewN ?_ _ | refine blk_drew ?_ | refine blk_alloc ?_ _)); refine blk_put (cs := #[.int .u32 t242, .int .u32 t243, .int .u8 0, .int .u16 0, .int .u16 0]) ?_ 2 _ rfl; (with_reducible repeat (first | refine blk_drewN ?_ _ | refine blk_drew ?_ | refine blk_alloc ?_ _)); refine blk_put (cs := #[.int .u32 t242, .int .u32 0, .int .u8 0, .int .u16 0, .int .u16 0]) ?_ 1 _ rfl; (with_reducible repeat (first | refine blk_drewN ?_ _ | refine blk_drew ?_ | refine blk_alloc ?_ _)); refine blk_put (cs := #[.int .u32 0, .int .u32 0, .int .u8 0, .int .u16 0, .int .u16 0]) ?_ 0 _ rfl; (with_reducible repeat (first | refine blk_drewN ?_ _ | refine blk_drew ?_ | refine blk_alloc ?_ _)); exact BK248.out) hb); have n2_ := Aside0.mk (below_step (by repeat (first | (with_reducible first | exact HB.out | apply below_alloc | apply pw_below_drewN | apply below_drew1 | refine below_set ?_ GE241.out | refine below_set ?_ GE248.out) | exact HB.out)) hb); clear BK241; clear BK248; clear HB; have BK241 := n0_; have BK248 := n1_; have HB := n2_; clear n0_ n1_ n2_; (try clear hb); (try clear hb2); (try clear hk); (try clear hi)))
            go_meet
            case rel => exact ⟨_, ((t249.toList != a0.toList)), (by first | rfl | (simp; done) | (simp [*]; done)), H', ⟨by first | omega | exact Nat.le_refl _⟩, ⟨by (with_reducible repeat (first | refine blk_drewN ?_ _ | refine blk_drew ?_ | refine blk_alloc ?_ _)); exact BK241.out⟩, ⟨by (with_reducible repeat (first | refine blk_drewN ?_ _ | refine blk_drew ?_ | refine blk_alloc ?_ _)); exact BK248.out⟩, ⟨by repeat (first | (with_reducible first | exact HB.out | apply below_alloc | apply pw_below_drewN | apply below_drew1 | refine below_set ?_ GE241.out | refine below_set ?_ GE248.out) | exact HB.out)⟩⟩
          · rw [if_neg c18] at H
            have c18b0 : (t247 == 0) = false := beq_eq_false_iff_ne.mpr c18
            have c18b1 : (t247 != 0) = true := bne_iff_ne.mpr c18
            have H' := Aside0.mk H
            clear H
            have hnb24 := NB241_248.out
            have hnc24 := NB248_241.out
            have hcz25_0 : w13.cell? ⟨gb241, 0, none⟩ = some (.int .u32 t235) := (blk_cell BK241.out 0).trans rfl
            have hcz25_1 : w13.cell? ⟨gb241, 1, none⟩ = some (.int .u32 t236) := (blk_cell BK241.out 1).trans rfl
            have hcz25_2 : w13.cell? ⟨gb241, 2, none⟩ = some (.int .u8 t237) := (blk_cell BK241.out 2).trans rfl
            have hcz25_3 : w13.cell? ⟨gb241, 3, none⟩ = some (.int .u16 t238) := (blk_cell BK241.out 3).trans rfl
            have hcz25_4 : w13.cell? ⟨gb241, 4, none⟩ = some (.int .u16 t239) := (blk_cell BK241.out 4).trans rfl
            have hfz25_0 := blk_frozen BK241.out 0
            have hfz25_1 := blk_frozen BK241.out 1
            have hfz25_2 := blk_frozen BK241.out 2
            have hfz25_3 := blk_frozen BK241.out 3
            have hfz25_4 := blk_frozen BK241.out 4
            have hcz26_0 : w13.cell? ⟨gb248, 0, none⟩ = some (.int .u32 0) := (blk_cell BK248.out 0).trans rfl
            have hcz26_1 : w13.cell? ⟨gb248, 1, none⟩ = some (.int .u32 0) := (blk_cell BK248.out 1).trans rfl
            have hcz26_2 : w13.cell? ⟨gb248, 2, none⟩ = some (.int .u8 0) := (blk_cell BK248.out 2).trans rfl
            have hcz26_3 : w13.cell? ⟨gb248, 3, none⟩ = some (.int .u16 0) := (blk_cell BK248.out 3).trans rfl
            have hcz26_4 : w13.cell? ⟨gb248, 4, none⟩ = some (.int .u16 0) := (blk_cell BK248.out 4).trans rfl
            have hfz26_0 := blk_frozen BK248.out 0
            have hfz26_1 := blk_frozen BK248.out 1
            have hfz26_2 := blk_frozen BK248.out 2
            have hfz26_3 := blk_frozen BK248.out 3
            have hfz26_4 := blk_frozen BK248.out 4
            go_wp2
            go_meet
            case rel => exact ⟨_, (false), (by first | rfl | (simp; done) | (simp [*]; done)), H', ⟨by first | omega | exact Nat.le_refl _⟩, ⟨by (with_reducible repeat (first | refine blk_drewN ?_ _ | refine blk_drew ?_ | refine blk_alloc ?_ _)); refine blk_far ?_ NB241_248.out _; (with_reducible repeat (first | refine blk_drewN ?_ _ | refine blk_drew ?_ | refine blk_alloc ?_ _)); refine blk_far ?_ NB241_248.out _; (with_reducible repeat (first | refine blk_drewN ?_ _ | refine blk_drew ?_ | refine blk_alloc ?_ _)); refine blk_far ?_ NB241_248.out _; (with_reducible repeat (first | refine blk_drewN ?_ _ | refine blk_drew ?_ | refine blk_alloc ?_ _)); refine blk_far ?_ NB241_248.out _; (with_reducible repeat (first | refine blk_drewN ?_ _ | refine blk_drew ?_ | refine blk_alloc ?_ _)); refine blk_far ?_ NB241_248.out _; (with_reducible repeat (first | refine blk_drewN ?_ _ | refine blk_drew ?_ | refine blk_alloc ?_ _)); exact BK241.out⟩, ⟨by (with_reducible repeat (first | refine blk_drewN ?_ _ | refine blk_drew ?_ | refine blk_alloc ?_ _)); refine blk_put (cs := #[.int .u32 t242, .int .u32 t243, .int .u8 t244, .int .u16 t245, .int .u16 0]) ?_ 4 _ rfl; (with_reducible repeat (first | refine blk_drewN ?_ _ | refine blk_drew ?_ | refine blk_alloc ?_ _)); refine blk_put (cs := #[.int .u32 t242, .int .u32 t243, .int .u8 t244, .int .u16 0, .int .u16 0]) ?_ 3 _ rfl; (with_reducible repeat (first | refine blk_drewN ?_ _ | refine blk_drew ?_ | refine blk_alloc ?_ _)); refine blk_put (cs := #[.int .u32 t242, .int .u32 t243, .int .u8 0, .int .u16 0, .int .u16 0]) ?_ 2 _ rfl; (with_reducible repeat (first | refine blk_drewN ?_ _ | refine blk_drew ?_ | refine blk_alloc ?_ _)); refine blk_put (cs := #[.int .u32 t242, .int .u32 0, .int .u8 0, .int .u16 0, .int .u16 0]) ?_ 1 _ rfl; (with_reducible repeat (first | refine blk_drewN ?_ _ | refine blk_drew ?_ | refine blk_alloc ?_ _)); refine blk_put (cs := #[.int .u32 0, .int .u32 0, .int .u8 0, .int .u16 0, .int .u16 0]) ?_ 0 _ rfl; (with_reducible repeat (first | refine blk_drewN ?_ _ | refine blk_drew ?_ | refine blk_alloc ?_ _)); exact BK248.out⟩, ⟨by repeat (first | (with_reducible first | exact HB.out | apply below_alloc | apply pw_below_drewN | apply below_drew1 | refine below_set ?_ GE241.out | refine below_set ?_ GE248.out) | exact HB.out)⟩⟩
      · rw [if_neg c16] at H
        have c16b0 : (t240 == t247) = false := beq_eq_false_iff_ne.mpr c16
        have c16b1 : (t240 != t247) = true := bne_iff_ne.mpr c16
        (first | rw [c16b0] | (simp only [i64_w, i32_w]; rw [c16b0]) | skip)
        exfalso
        unfold crossbucklaw02_HdrReads.j0 at H
        split at H
        · exact absurd H (by simp)
        · rw [if_pos rfl] at H
          exact absurd ((Option.some.inj H).trans hT.out) (by decide)
    case rest =>
      clear HC8
      try clear c1
      try clear c2
      try clear p2
      try clear c3
      try clear c3b0
      try clear c3b1
      try clear c5
      try clear c13
      try clear c14
      try clear c16
      try clear c16b0
      try clear c16b1
      try clear c17
      try clear c17b0
      try clear c18
      try clear c18b0
      try clear c18b1
      try clear c20
      try clear c24
      try clear hcz11_0
      try clear hcz11_1
      try clear hcz11_2
      try clear hcz11_3
      try clear hcz11_4
      try clear hcz15_0
      try clear hcz15_1
      try clear hcz15_2
      try clear hcz15_3
      try clear hcz15_4
      try clear hcz21_0
      try clear hcz21_1
      try clear hcz21_2
      try clear hcz21_3
      try clear hcz21_4
      try clear hcz22_0
      try clear hcz22_1
      try clear hcz22_2
      try clear hcz22_3
      try clear hcz22_4
      try clear hcz25_0
      try clear hcz25_1
      try clear hcz25_2
      try clear hcz25_3
      try clear hcz25_4
      try clear hcz26_0
      try clear hcz26_1
      try clear hcz26_2
      try clear hcz26_3
      try clear hcz26_4
      try clear hfz11_0
      try clear hfz11_1
      try clear hfz11_2
      try clear hfz11_3
      try clear hfz11_4
      try clear hfz15_0
      try clear hfz15_1
      try clear hfz15_2
      try clear hfz15_3
      try clear hfz15_4
      try clear hfz21_0
      try clear hfz21_1
      try clear hfz21_2
      try clear hfz21_3
      try clear hfz21_4
      try clear hfz22_0
      try clear hfz22_1
      try clear hfz22_2
      try clear hfz22_3
      try clear hfz22_4
      try clear hfz25_0
      try clear hfz25_1
      try clear hfz25_2
      try clear hfz25_3
      try clear hfz25_4
      try clear hfz26_0
      try clear hfz26_1
      try clear hfz26_2
      try clear hfz26_3
      try clear hfz26_4
      obtain ⟨kq, x44_7, rfl, HA, HJ7, BK241, BK248, HB⟩ := hcut
      cases kq with
      | zero => exact absurd HA.out (by simp [crossbucklaw02_HdrReads.j0])
      | succ kj7 =>
        have H := HA.out
        clear HA
        simp only [crossbucklaw02_HdrReads.j0] at H
        by_cases c27 : x44_7 = true
        · subst c27
          have H1 : (some false) = some r := by rw [if_pos rfl] at H; exact H
          clear H
          have H := H1
          clear H1
          exact absurd ((Option.some.inj H).trans hT.out) (by decide)
        · replace c27 := Bool.eq_false_iff.mpr c27
          subst c27
          have H1 : ((hdr_ParseAddr.f kj7 a0).bind fun bt250 => ((crossbuckref02_ParseAddr.f kj7 a0).bind fun bt252 => (if bt250.2 = bt252.2 then (crossbucklaw02_HdrReads.j1 kj7 a0 a1 (bt250.1 != bt252.1)) else (crossbucklaw02_HdrReads.j1 kj7 a0 a1 true)))) = some r := by rw [if_neg (show ¬ (false = true) by decide)] at H; exact H
          clear H
          have H := H1
          clear H1
          replace H := Option.bind_eq_some_iff.mp H
          obtain ⟨⟨t250, t251⟩, A280, H⟩ := H
          replace H : ((crossbuckref02_ParseAddr.f kj7 a0).bind fun bt252 => (if t251 = bt252.2 then (crossbucklaw02_HdrReads.j1 kj7 a0 a1 (t250 != bt252.1)) else (crossbucklaw02_HdrReads.j1 kj7 a0 a1 true))) = some r := H
          have A28 := Aside0.mk A280
          clear A280
          replace H := Option.bind_eq_some_iff.mp H
          obtain ⟨⟨t252, t253⟩, A290, H⟩ := H
          replace H : (if t251 = t253 then (crossbucklaw02_HdrReads.j1 kj7 a0 a1 (t250 != t252)) else (crossbucklaw02_HdrReads.j1 kj7 a0 a1 true)) = some r := H
          have A29 := Aside0.mk A290
          clear A290
          have HC30 := Aside0.mk H
          clear H
          go_upto_region 9 with (first | ((with_reducible refine gate_callee (f := 52) rfl ?_); refine goesL_ (some 47) rfl rfl Tryd.func52 (by kernel_rfl) rfl #[.string a0] rfl (by (try simp only [List.map_toArray, List.map_cons, List.map_nil]); first | done | rfl | (simp only [List.length_drop, List.length_take]; rfl)) ?_; (with_reducible refine (hdr_ParseAddr.calls kj7 a0 t250 t251 _ (Hand.Good.below true false hGG.out (by repeat (first | (with_reducible first | exact HB.out | apply below_alloc | apply pw_below_drewN | apply below_drew1 | refine below_set ?_ GE241.out | refine below_set ?_ GE248.out) | exact HB.out)) rfl rfl) A28.out).mono ?_); rintro e w31 ⟨rfl, hb⟩; refine ⟨_, rfl, ?_⟩; have n0_ := Aside0.mk (blk_below (g := gb241) (o := .cells #[.int .u32 t235, .int .u32 t236, .int .u8 t237, .int .u16 t238, .int .u16 t239] 67 (0, 0)) (by (with_reducible repeat (first | refine blk_drewN ?_ _ | refine blk_drew ?_ | refine blk_alloc ?_ _)); exact BK241.out) hb); have n1_ := Aside0.mk (blk_below (g := gb248) (o := .cells #[.int .u32 t242, .int .u32 t243, .int .u8 t244, .int .u16 t245, .int .u16 t246] 67 (0, 0)) (by (with_reducible repeat (first | refine blk_drewN ?_ _ | refine blk_drew ?_ | refine blk_alloc ?_ _)); exact BK248.out) hb); have n2_ := Aside0.mk (below_step (by repeat (first | (with_reducible first | exact HB.out | apply below_alloc | apply pw_below_drewN | apply below_drew1 | refine below_set ?_ GE241.out | refine below_set ?_ GE248.out) | exact HB.out)) hb); clear BK241; clear BK248; clear HB; have BK241 := n0_; have BK248 := n1_; have HB := n2_; clear n0_ n1_ n2_; (try clear hb); (try clear hb2); (try clear hk); (try clear hi)) | ((with_reducible refine gate_callee (f := 57) rfl ?_); refine goesL_ (some 52) rfl rfl Tryd.func57 (by kernel_rfl) rfl #[.string a0] rfl (by (try simp only [List.map_toArray, List.map_cons, List.map_nil]); first | done | rfl | (simp only [List.length_drop, List.length_take]; rfl)) ?_; (with_reducible refine (crossbuckref02_ParseAddr.calls kj7 a0 t252 t253 _ A29.out).mono ?_); rintro e w32 ⟨rfl, hb⟩; refine ⟨_, rfl, ?_⟩; have n0_ := Aside0.mk (blk_below (g := gb241) (o := .cells #[.int .u32 t235, .int .u32 t236, .int .u8 t237, .int .u16 t238, .int .u16 t239] 67 (0, 0)) (by (with_reducible repeat (first | refine blk_drewN ?_ _ | refine blk_drew ?_ | refine blk_alloc ?_ _)); exact BK241.out) hb); have n1_ := Aside0.mk (blk_below (g := gb248) (o := .cells #[.int .u32 t242, .int .u32 t243, .int .u8 t244, .int .u16 t245, .int .u16 t246] 67 (0, 0)) (by (with_reducible repeat (first | refine blk_drewN ?_ _ | refine blk_drew ?_ | refine blk_alloc ?_ _)); exact BK248.out) hb); have n2_ := Aside0.mk (below_step (by repeat (first | (with_reducible first | exact HB.out | apply below_alloc | apply pw_below_drewN | apply below_drew1 | refine below_set ?_ GE241.out | refine below_set ?_ GE248.out) | exact HB.out)) hb); clear BK241; clear BK248; clear HB; have BK241 := n0_; have BK248 := n1_; have HB := n2_; clear n0_ n1_ n2_; (try clear hb); (try clear hb2); (try clear hk); (try clear hi)))
          (try simp only [Act.put, List.setIfInBounds_toArray, List.set_cons_zero, List.set_cons_succ])
          go_cut [62] (fun v62 wc => ∃ (kq : Nat) (x62_29 : Bool), v62 = .bool x62_29 ∧ Aside0 (crossbucklaw02_HdrReads.j1 kq a0 a1 x62_29 = some r) ∧ Aside0 (kq ≤ kj7) ∧ Aside0 (wc.heap[gb241]? = some (.cells #[.int .u32 t235, .int .u32 t236, .int .u8 t237, .int .u16 t238, .int .u16 t239] 67 (0, 0))) ∧ Aside0 (wc.heap[gb248]? = some (.cells #[.int .u32 t242, .int .u32 t243, .int .u8 t244, .int .u16 t245, .int .u16 t246] 67 (0, 0))) ∧ Aside0 (Below w.heap.size w wc))
          case first =>
            have H := HC30.out
            clear HC30
            by_cases c33 : t251 = t253
            · rw [if_pos c33] at H
              have c33b0 : (t251 == t253) = true := beq_iff_eq.mpr c33
              have c33b1 : (t251 != t253) = false := bne_eq_false_iff_eq.mpr c33
              clear c33
              (first | rw [c33b0] | (simp only [i64_w, i32_w]; rw [c33b0]) | skip)
              have H' := Aside0.mk H
              clear H
              go_wp2
              go_meet
              case rel => exact ⟨_, ((t250 != t252)), (by first | rfl | (simp; done) | (simp [*]; done)), H', ⟨by have := HJ7.out; first | omega | exact Nat.le_refl _⟩, ⟨by (with_reducible repeat (first | refine blk_drewN ?_ _ | refine blk_drew ?_ | refine blk_alloc ?_ _)); exact BK241.out⟩, ⟨by (with_reducible repeat (first | refine blk_drewN ?_ _ | refine blk_drew ?_ | refine blk_alloc ?_ _)); exact BK248.out⟩, ⟨by repeat (first | (with_reducible first | exact HB.out | apply below_alloc | apply pw_below_drewN | apply below_drew1 | refine below_set ?_ GE241.out | refine below_set ?_ GE248.out) | exact HB.out)⟩⟩
            · rw [if_neg c33] at H
              have c33b0 : (t251 == t253) = false := beq_eq_false_iff_ne.mpr c33
              have c33b1 : (t251 != t253) = true := bne_iff_ne.mpr c33
              (first | rw [c33b0] | (simp only [i64_w, i32_w]; rw [c33b0]) | skip)
              exfalso
              unfold crossbucklaw02_HdrReads.j1 at H
              split at H
              · exact absurd H (by simp)
              · rw [if_pos rfl] at H
                exact absurd ((Option.some.inj H).trans hT.out) (by decide)
          case rest =>
            clear HC30
            try clear c1
            try clear c2
            try clear p2
            try clear c3
            try clear c3b0
            try clear c3b1
            try clear c5
            try clear c13
            try clear c14
            try clear c16
            try clear c16b0
            try clear c16b1
            try clear c17
            try clear c17b0
            try clear c18
            try clear c18b0
            try clear c18b1
            try clear c20
            try clear c24
            try clear c27
            try clear c31
            try clear c33
            try clear c33b0
            try clear c33b1
            try clear hcz11_0
            try clear hcz11_1
            try clear hcz11_2
            try clear hcz11_3
            try clear hcz11_4
            try clear hcz15_0
            try clear hcz15_1
            try clear hcz15_2
            try clear hcz15_3
            try clear hcz15_4
            try clear hcz21_0
            try clear hcz21_1
            try clear hcz21_2
            try clear hcz21_3
            try clear hcz21_4
            try clear hcz22_0
            try clear hcz22_1
            try clear hcz22_2
            try clear hcz22_3
            try clear hcz22_4
            try clear hcz25_0
            try clear hcz25_1
            try clear hcz25_2
            try clear hcz25_3
            try clear hcz25_4
            try clear hcz26_0
            try clear hcz26_1
            try clear hcz26_2
            try clear hcz26_3
            try clear hcz26_4
            try clear hfz11_0
            try clear hfz11_1
            try clear hfz11_2
            try clear hfz11_3
            try clear hfz11_4
            try clear hfz15_0
            try clear hfz15_1
            try clear hfz15_2
            try clear hfz15_3
            try clear hfz15_4
            try clear hfz21_0
            try clear hfz21_1
            try clear hfz21_2
            try clear hfz21_3
            try clear hfz21_4
            try clear hfz22_0
            try clear hfz22_1
            try clear hfz22_2
            try clear hfz22_3
            try clear hfz22_4
            try clear hfz25_0
            try clear hfz25_1
            try clear hfz25_2
            try clear hfz25_3
            try clear hfz25_4
            try clear hfz26_0
            try clear hfz26_1
            try clear hfz26_2
            try clear hfz26_3
            try clear hfz26_4
            try clear p2
            obtain ⟨kq, x62_29, rfl, HA, HJ29, BK241, BK248, HB⟩ := hcut
            cases kq with
            | zero => exact absurd HA.out (by simp [crossbucklaw02_HdrReads.j1])
            | succ kj29 =>
              have H := HA.out
              clear HA
              simp only [crossbucklaw02_HdrReads.j1] at H
              by_cases c34 : x62_29 = true
              · subst c34
                have H1 : (some false) = some r := by rw [if_pos rfl] at H; exact H
                clear H
                have H := H1
                clear H1
                exact absurd ((Option.some.inj H).trans hT.out) (by decide)
              · replace c34 := Bool.eq_false_iff.mpr c34
                subst c34
                have H1 : ((hdr_Number.f a0 (wrap64 (a1))).bind fun bt254 => ((crossbuckref02_Number.f kj29 a0 (wrap64 (a1))).bind fun bt256 => ((crossbucklaw02_awake.f kj29).bind fun t258 => (if t258 = true then (if bt254.2 = bt256.2 then (some (bt254.1 == bt256.1)) else (some false)) else (some false))))) = some r := by rw [if_neg (show ¬ (false = true) by decide)] at H; exact H
                clear H
                have H := H1
                clear H1
                replace H := Option.bind_eq_some_iff.mp H
                obtain ⟨⟨t254, t255⟩, A350, H⟩ := H
                replace H : ((crossbuckref02_Number.f kj29 a0 (wrap64 (a1))).bind fun bt256 => ((crossbucklaw02_awake.f kj29).bind fun t258 => (if t258 = true then (if t255 = bt256.2 then (some (t254 == bt256.1)) else (some false)) else (some false)))) = some r := H
                have A35 := Aside0.mk A350
                clear A350
                replace H := Option.bind_eq_some_iff.mp H
                obtain ⟨⟨t256, t257⟩, A360, H⟩ := H
                replace H : ((crossbucklaw02_awake.f kj29).bind fun t258 => (if t258 = true then (if t255 = t257 then (some (t254 == t256)) else (some false)) else (some false))) = some r := H
                have A36 := Aside0.mk A360
                clear A360
                replace H := Option.bind_eq_some_iff.mp H
                obtain ⟨t258, A370, H⟩ := H
                replace H : (if t258 = true then (if t255 = t257 then (some (t254 == t256)) else (some false)) else (some false)) = some r := H
                have A37 := Aside0.mk A370
                clear A370
                by_cases c38 : t258 = true
                · subst c38
                  have H1 : (if t255 = t257 then (some (t254 == t256)) else (some false)) = some r := by rw [if_pos rfl] at H; exact H
                  clear H
                  have H := H1
                  clear H1
                  by_cases c39 : t255 = t257
                  · rw [if_pos c39] at H
                    have c39b0 : (t255 == t257) = true := beq_iff_eq.mpr c39
                    have c39b1 : (t255 != t257) = false := bne_eq_false_iff_eq.mpr c39
                    clear c39
                    obtain rfl := Option.some.inj H
                    go_wp2_with (first | ((with_reducible refine gate_callee (f := 30) rfl ?_); refine goesL_ (some 67) rfl rfl Tryd.func30 (by kernel_rfl) rfl #[.string a0, .int .i64 (wrap64 (a1))] rfl (by (try simp only [List.map_toArray, List.map_cons, List.map_nil]); first | done | rfl | (simp only [List.length_drop, List.length_take]; rfl)) ?_; (with_reducible refine (hdr_Number.calls a0 (wrap64 (a1)) t254 t255 _ A35.out).mono ?_); rintro e w40 ⟨rfl, hb⟩; refine ⟨_, rfl, ?_⟩; have n0_ := Aside0.mk (blk_below (g := gb241) (o := .cells #[.int .u32 t235, .int .u32 t236, .int .u8 t237, .int .u16 t238, .int .u16 t239] 67 (0, 0)) (by (with_reducible repeat (first | refine blk_drewN ?_ _ | refine blk_drew ?_ | refine blk_alloc ?_ _)); exact BK241.out) hb); have n1_ := Aside0.mk (blk_below (g := gb248) (o := .cells #[.int .u32 t242, .int .u32 t243, .int .u8 t244, .int .u16 t245, .int .u16 t246] 67 (0, 0)) (by (with_reducible repeat (first | refine blk_drewN ?_ _ | refine blk_drew ?_ | refine blk_alloc ?_ _)); exact BK248.out) hb); have n2_ := Aside0.mk (below_step (by repeat (first | (with_reducible first | exact HB.out | apply below_alloc | apply pw_below_drewN | apply below_drew1 | refine below_set ?_ GE241.out | refine below_set ?_ GE248.out) | exact HB.out)) hb); clear BK241; clear BK248; clear HB; have BK241 := n0_; have BK248 := n1_; have HB := n2_; clear n0_ n1_ n2_; (try clear hb); (try clear hb2); (try clear hk); (try clear hi)) | ((with_reducible refine gate_callee (f := 58) rfl ?_); refine goesL_ (some 74) rfl rfl Tryd.func58 (by kernel_rfl) rfl #[.string a0, .int .i64 (wrap64 (a1))] rfl (by (try simp only [List.map_toArray, List.map_cons, List.map_nil]); first | done | rfl | (simp only [List.length_drop, List.length_take]; rfl)) ?_; (with_reducible refine (crossbuckref02_Number.calls kj29 a0 (wrap64 (a1)) t256 t257 _ A36.out).mono ?_); rintro e w' ⟨rfl, ⟨nd, rfl⟩⟩; refine ⟨_, rfl, ?_⟩) | ((with_reducible refine gate_callee (f := 31) rfl ?_); refine goesL_ (some 77) rfl rfl Tryd.func31 (by kernel_rfl) rfl #[] rfl (by (try simp only [List.map_toArray, List.map_cons, List.map_nil]); first | done | rfl | (simp only [List.length_drop, List.length_take]; rfl)) ?_; (with_reducible refine (crossbucklaw02_awake.calls kj29  true _ (Hand.Good.below false true hGG.out (by repeat (first | (with_reducible first | exact HB.out | apply below_alloc | apply pw_below_drewN | apply below_drew1 | refine below_set ?_ GE241.out | refine below_set ?_ GE248.out) | exact HB.out)) rfl rfl) A37.out).mono ?_); rintro e w41 ⟨rfl, hb⟩; refine ⟨_, rfl, ?_⟩; have n0_ := Aside0.mk (blk_below (g := gb241) (o := .cells #[.int .u32 t235, .int .u32 t236, .int .u8 t237, .int .u16 t238, .int .u16 t239] 67 (0, 0)) (by (with_reducible repeat (first | refine blk_drewN ?_ _ | refine blk_drew ?_ | refine blk_alloc ?_ _)); exact BK241.out) hb); have n1_ := Aside0.mk (blk_below (g := gb248) (o := .cells #[.int .u32 t242, .int .u32 t243, .int .u8 t244, .int .u16 t245, .int .u16 t246] 67 (0, 0)) (by (with_reducible repeat (first | refine blk_drewN ?_ _ | refine blk_drew ?_ | refine blk_alloc ?_ _)); exact BK248.out) hb); have n2_ := Aside0.mk (below_step (by repeat (first | (with_reducible first | exact HB.out | apply below_alloc | apply pw_below_drewN | apply below_drew1 | refine below_set ?_ GE241.out | refine below_set ?_ GE248.out) | exact HB.out)) hb); clear BK241; clear BK248; clear HB; have BK241 := n0_; have BK248 := n1_; have HB := n2_; clear n0_ n1_ n2_; (try clear hb); (try clear hb2); (try clear hk); (try clear hi)))
                    go_ret
                    exact ⟨by first | rfl | (simp [errW_none, errW_some] <;> rfl) | (simp [*, errW_none, errW_some] <;> rfl), by repeat (first | (with_reducible first | exact HB.out | apply below_alloc | apply pw_below_drewN | apply below_drew1 | refine below_set ?_ GE241.out | refine below_set ?_ GE248.out) | exact HB.out)⟩
                  · rw [if_neg c39] at H
                    have c39b0 : (t255 == t257) = false := beq_eq_false_iff_ne.mpr c39
                    have c39b1 : (t255 != t257) = true := bne_iff_ne.mpr c39
                    exact absurd ((Option.some.inj H).trans hT.out) (by decide)
                · replace c38 := Bool.eq_false_iff.mpr c38
                  subst c38
                  have H1 : (some false) = some r := by rw [if_neg (show ¬ (false = true) by decide)] at H; exact H
                  clear H
                  have H := H1
                  clear H1
                  exact absurd ((Option.some.inj H).trans hT.out) (by decide)

/-- THE ONE PURE STATEMENT of crossbucklaw02_HdrReads: yours. -/
def crossbucklaw02_HdrReads.Pure : Prop := ∀ (a0 : ByteArray) (a1 : Int), a0.size ≤ 140737488351232 → (Lit.int .u16 a1).wf = true → ∃ k, crossbucklaw02_HdrReads.f k a0 a1 = some true
theorem crossbucklaw02_HdrReads.walk (P : crossbucklaw02_HdrReads.Pure) (a0 : ByteArray) (a1 : Int) (w : World) (hG : Hand.Good true true w) (w0 : a0.size ≤ 140737488351232) (w1 : (Lit.int .u16 a1).wf = true) :
    Calls Tryd.prog 13 #[.string a0, .int .u16 a1] w fun e w' => e = .returned (.bool true) ∧ Below w.heap.size w w' := by
  obtain ⟨k, h⟩ := P a0 a1 w0 w1
  refine (crossbucklaw02_HdrReads.calls k a0 a1 true w hG h (Aside0.mk rfl)).mono ?_
  rintro e w' ⟨rfl, hd⟩
  exact ⟨rfl, hd⟩

end Go.Proofs.YtloclimoffhbhaaDoor.PHdm
