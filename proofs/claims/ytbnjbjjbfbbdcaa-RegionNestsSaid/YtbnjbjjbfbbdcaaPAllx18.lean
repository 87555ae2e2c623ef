-- Written by wip/myprint.py (this session's own driver); Lean checks it.
import Derived.Test.YtbnjbjjbfbbdcaaPAllx0
import Derived.Test.YtbnjbjjbfbbdcaaPAllx6
import Derived.Test.YtbnjbjjbfbbdcaaPAllx7
import Derived.Test.YtbnjbjjbfbbdcaaPAllx12
import Derived.Test.YtbnjbjjbfbbdcaaPAllx16
namespace Go.Proofs.Ytbnjbjjbfbbdcaa.PAll
open Go.RowKit Go.Proofs.YtbnjbjjbfbbdcaaW.PrintWords Go.Proofs.YtbnjbjjbfbbdcaaW.PrintLast Go.Proofs.YtbnjbjjbfbbdcaaW.PrintMore
attribute [local go_sem] max2_int min2_int max_two min_two max_three min_three max_four min_four   -- for this text's walks alone
set_option linter.unusedVariables false
set_option linter.unusedSimpArgs false

/-! ### crossbucklaw16_RegionNests: function 6 -/
mutual
def crossbucklaw16_RegionNests.l0 : Nat → Int → Int → Int → Int → Int → Option (Bool)
  | 0, _, _, _, _, _ => none
  | k + 1, x1, x5, x6, x13, x14 => if x14 < x13 then ((region_Prefix.f x5 x14).bind fun bt142 => (if (IntKind.u64.wrap (bt142.1)) = x6 then (crossbucklaw16_RegionNests.j1 k x1 x5 x6 x14 x13 x14 (bt142.2 != x5) bt142.1 bt142.2) else (crossbucklaw16_RegionNests.j1 k x1 x5 x6 x14 x13 x14 true bt142.1 bt142.2))) else ((crossbucklaw16_awake.f).bind fun t139 => (if t139 = true then (if x6 = 4294967296 then (if x5 = 0 then (some true) else ((region_Index.f (wrap64 (x5 - 1)) x1).bind fun t140 => ((region_Index.f x5 x1).bind fun t141 => (some (t140 == (wrap64 (Int.tdiv t141 2))))))) else (some false)) else (some false)))
def crossbucklaw16_RegionNests.j1 : Nat → Int → Int → Int → Int → Int → Int → Bool → Int → Int → Option (Bool)
  | 0, _, _, _, _, _, _, _, _, _ => none
  | k + 1, x1, x5, x6, x7, x13, x14, x30, x145000, x145001 => if x30 = true then (some false) else (if 0 ≤ (wrap64 (32 - x5)) then (if x5 > 0 then ((region_Index.f (wrap64 (x5 - 1)) x145000).bind fun t145 => (if t145 = (wrap64 (Int.tdiv x7 2)) then (crossbucklaw16_RegionNests.l0 k x1 x5 (IntKind.u64.wrap (x6 + (shl .u64 1 (wrap64 (32 - x5))))) x13 (wrap64 (x14 + 1))) else (some false))) else (crossbucklaw16_RegionNests.l0 k x1 x5 (IntKind.u64.wrap (x6 + (shl .u64 1 (wrap64 (32 - x5))))) x13 (wrap64 (x14 + 1)))) else (none))
end
def crossbucklaw16_RegionNests.f (k : Nat) (a0 : Int) (a1 : Int) : Option (Bool) := (region_Count.f (wrap64 (Int.tmod a0 4))).bind fun t138 => (crossbucklaw16_RegionNests.l0 k a1 (wrap64 (Int.tmod a0 4)) 0 t138 0)
theorem crossbucklaw16_RegionNests.mono_l : ∀ k, (∀ y0 y1 y2 y3 y4, LeO (crossbucklaw16_RegionNests.l0 k y0 y1 y2 y3 y4) (crossbucklaw16_RegionNests.l0 (k + 1) y0 y1 y2 y3 y4)) ∧ (∀ y0 y1 y2 y3 y4 y5 y6 y7 y8, LeO (crossbucklaw16_RegionNests.j1 k y0 y1 y2 y3 y4 y5 y6 y7 y8) (crossbucklaw16_RegionNests.j1 (k + 1) y0 y1 y2 y3 y4 y5 y6 y7 y8))
  | 0 => ⟨fun _ _ _ _ _ r h => by simp [crossbucklaw16_RegionNests.l0] at h, fun _ _ _ _ _ _ _ _ _ r h => by simp [crossbucklaw16_RegionNests.j1] at h⟩
  | k + 1 => by
    obtain ⟨ih0, ih1⟩ := crossbucklaw16_RegionNests.mono_l k
    refine ⟨?_, ?_⟩
    · intro y0 y1 y2 y3 y4
      unfold crossbucklaw16_RegionNests.l0
      repeat' first
      | (with_reducible exact ih0 _ _ _ _ _)
      | (with_reducible exact ih1 _ _ _ _ _ _ _ _ _)
      | (with_reducible exact LeO.refl _)
      | (with_reducible exact LeO.none _)
      | (with_reducible refine LeO.ite ?_ ?_)
      | (with_reducible refine LeO.bind ?_ (fun _ => ?_))
      | exact ih0 _ _ _ _ _
      | exact ih1 _ _ _ _ _ _ _ _ _
      | exact LeO.none _
      | refine LeO.ite ?_ ?_
      | refine LeO.bind ?_ (fun _ => ?_)
    · intro y0 y1 y2 y3 y4 y5 y6 y7 y8
      unfold crossbucklaw16_RegionNests.j1
      repeat' first
      | (with_reducible exact ih0 _ _ _ _ _)
      | (with_reducible exact ih1 _ _ _ _ _ _ _ _ _)
      | (with_reducible exact LeO.refl _)
      | (with_reducible exact LeO.none _)
      | (with_reducible refine LeO.ite ?_ ?_)
      | (with_reducible refine LeO.bind ?_ (fun _ => ?_))
      | exact ih0 _ _ _ _ _
      | exact ih1 _ _ _ _ _ _ _ _ _
      | exact LeO.none _
      | refine LeO.ite ?_ ?_
      | refine LeO.bind ?_ (fun _ => ?_)
theorem crossbucklaw16_RegionNests.mono : ∀ a0 a1 k, LeO (crossbucklaw16_RegionNests.f k a0 a1) (crossbucklaw16_RegionNests.f (k + 1) a0 a1) := by
  intro a0 a1 k
  obtain ⟨ih0, ih1⟩ := crossbucklaw16_RegionNests.mono_l k
  unfold crossbucklaw16_RegionNests.f
  repeat' first
      | (with_reducible exact ih0 _ _ _ _ _)
      | (with_reducible exact ih1 _ _ _ _ _ _ _ _ _)
      | (with_reducible exact LeO.refl _)
      | (with_reducible exact LeO.none _)
      | (with_reducible refine LeO.ite ?_ ?_)
      | (with_reducible refine LeO.bind ?_ (fun _ => ?_))
      | exact ih0 _ _ _ _ _
      | exact ih1 _ _ _ _ _ _ _ _ _
      | exact LeO.none _
      | refine LeO.ite ?_ ?_
      | refine LeO.bind ?_ (fun _ => ?_)
set_option maxHeartbeats 8000000 in
set_option maxRecDepth 100000 in
theorem crossbucklaw16_RegionNests.calls (k : Nat) (a0 : Int) (a1 : Int) (r : Bool) (w : World) (h : crossbucklaw16_RegionNests.f k a0 a1 = some r) (hT : Aside0 (r = true)) :
    Calls Try.prog 6 #[.int .u8 a0, .int .u32 a1] w fun e w' => e = .returned (.bool r) ∧ Below w.heap.size w w' := by
  have hu37 := Try.underlying37
  have HB := Aside0.mk (Below.refl w.heap.size w)
  have H : ((region_Count.f (wrap64 (Int.tmod a0 4))).bind fun t138 => (crossbucklaw16_RegionNests.l0 k a1 (wrap64 (Int.tmod a0 4)) 0 t138 0)) = some r := h
  clear h
  replace H := Option.bind_eq_some_iff.mp H
  obtain ⟨t138, A30, H⟩ := H
  replace H : (crossbucklaw16_RegionNests.l0 k a1 (wrap64 (Int.tmod a0 4)) 0 t138 0) = some r := H
  have A3 := Aside0.mk A30
  clear A30
  have H' := Aside0.mk H
  clear H
  go_enter Try.func6, Try.ntmps6
  go_wp2_with (first | ((with_reducible refine gate_callee (f := 15) rfl ?_); refine goesL_ (some 13) rfl rfl Try.func15 (by kernel_rfl) rfl #[.int .i64 (wrap64 (Int.tmod a0 4))] rfl (by (try simp only [List.map_toArray, List.map_cons, List.map_nil]); first | done | rfl | (simp only [List.length_drop, List.length_take]; rfl)) ?_; (with_reducible refine (region_Count.calls (wrap64 (Int.tmod a0 4)) t138 _ A3.out).mono ?_); rintro e w' ⟨rfl, ⟨nd, rfl⟩⟩; refine ⟨_, rfl, ?_⟩))
  go_loopg [6, 14] k (fun kq v6 v14 w' => ∃ (x6_1 : Int) (x14_1 : Int), v6 = .int .u64 x6_1 ∧ v14 = .int .i64 x14_1 ∧ Aside0 (crossbucklaw16_RegionNests.l0 kq a1 (wrap64 (Int.tmod a0 4)) x6_1 t138 x14_1 = some r) ∧ Aside0 (kq ≤ k) ∧ Aside0 (Below w.heap.size w w'))
  case atStart => exact ⟨(0), (0), (by first | rfl | (simp; done) | (simp [*]; done)), (by first | rfl | (simp; done) | (simp [*]; done)), H', ⟨Nat.le_refl _⟩, ⟨by repeat (first | (with_reducible first | exact HB.out | apply below_alloc | apply pw_below_drewN | apply below_drew1) | exact HB.out)⟩⟩
  case round =>
    clear H'
    try clear c1
    try clear p2
    obtain ⟨x6_1, x14_1, rfl, rfl, HA, HK1, HB⟩ := hrel
    cases gk with
    | zero => exact absurd HA.out (by simp [crossbucklaw16_RegionNests.l0])
    | succ k1 =>
      have H := HA.out
      clear HA
      simp only [crossbucklaw16_RegionNests.l0] at H
      by_cases c4 : x14_1 < t138
      · rw [if_pos c4] at H
        have c4b0 : decide (x14_1 < t138) = true := decide_eq_true c4
        clear c4
        replace H := Option.bind_eq_some_iff.mp H
        obtain ⟨⟨t142, t143⟩, A50, H⟩ := H
        replace H : (if (IntKind.u64.wrap (t142)) = x6_1 then (crossbucklaw16_RegionNests.j1 k1 a1 (wrap64 (Int.tmod a0 4)) x6_1 x14_1 t138 x14_1 (t143 != (wrap64 (Int.tmod a0 4))) t142 t143) else (crossbucklaw16_RegionNests.j1 k1 a1 (wrap64 (Int.tmod a0 4)) x6_1 x14_1 t138 x14_1 true t142 t143)) = some r := H
        have A5 := Aside0.mk A50
        clear A50
        have HC6 := Aside0.mk H
        clear H
        go_upto_region 7 with (first | ((with_reducible refine gate_callee (f := 19) rfl ?_); refine goesL_ (some 19) rfl rfl Try.func19 (by kernel_rfl) rfl #[.int .i64 (wrap64 (Int.tmod a0 4)), .int .i64 x14_1] rfl (by (try simp only [List.map_toArray, List.map_cons, List.map_nil]); first | done | rfl | (simp only [List.length_drop, List.length_take]; rfl)) ?_; (with_reducible refine (region_Prefix.calls (wrap64 (Int.tmod a0 4)) x14_1 t142 t143 _ A5.out).mono ?_); rintro e w7 ⟨rfl, hb⟩; refine ⟨_, rfl, ?_⟩; have n0_ := Aside0.mk (below_step (by repeat (first | (with_reducible first | exact HB.out | apply below_alloc | apply pw_below_drewN | apply below_drew1) | exact HB.out)) hb); clear HB; have HB := n0_; clear n0_; (try clear hb); (try clear hb2); (try clear hk); (try clear hi)) | ((with_reducible refine gate_dst (N := 8) rfl ?_); refine box_event ?hg (N := 8) ?hd (cs := #[.int .u32 0, .int .i64 0]) (t := 37) ?hr ?_; (case hd => rfl); (case hg => rfl); (case hr => first | (go_simp; done) | (go_simp; rfl)); intro gb144 hg w8 hbox hb; have n0_ := Aside0.mk (below_step (by repeat (first | (with_reducible first | exact HB.out | apply below_alloc | apply pw_below_drewN | apply below_drew1) | exact HB.out)) hb); have n1_ := Aside0.mk (hbox); have n2_ := Aside0.mk ((by rw [hg]; exact (below_size (by repeat (first | (with_reducible first | exact HB.out | apply below_alloc | apply pw_below_drewN | apply below_drew1) | exact HB.out))) : w.heap.size ≤ gb144)); have n3_ := Aside0.mk ((by rw [hg]; exact (below_size (by repeat (first | (with_reducible first | exact HB.out | apply below_alloc | apply pw_below_drewN | apply below_drew1) | exact HB.out))) : w.heap.size ≤ gb144)); clear HB; have HB := n0_; have BK144 := n1_; have GW144 := n2_; have GE144 := n3_; clear n0_ n1_ n2_ n3_; clear hb hbox hg; have hcz9_0 : w8.cell? ⟨gb144, 0, none⟩ = some (.int .u32 0) := (blk_cell BK144.out 0).trans rfl; have hcz9_1 : w8.cell? ⟨gb144, 1, none⟩ = some (.int .i64 0) := (blk_cell BK144.out 1).trans rfl; have hfz9_0 := blk_frozen BK144.out 0; have hfz9_1 := blk_frozen BK144.out 1))
        (try simp only [Act.put, List.setIfInBounds_toArray, List.set_cons_zero, List.set_cons_succ])
        go_cut [30] (fun v30 wc => ∃ (kq : Nat) (x30_5 : Bool), v30 = .bool x30_5 ∧ Aside0 (crossbucklaw16_RegionNests.j1 kq a1 (wrap64 (Int.tmod a0 4)) x6_1 x14_1 t138 x14_1 x30_5 t142 t143 = some r) ∧ Aside0 (kq ≤ k1) ∧ Aside0 (wc.heap[gb144]? = some (.cells #[.int .u32 t142, .int .i64 t143] 37 (0, 0))) ∧ Aside0 (Below w.heap.size w wc))
        case first =>
          have H := HC6.out
          clear HC6
          by_cases c10 : (IntKind.u64.wrap (t142)) = x6_1
          · rw [if_pos c10] at H
            have c10b0 : ((IntKind.u64.wrap (t142)) == x6_1) = true := beq_iff_eq.mpr c10
            have c10b1 : ((IntKind.u64.wrap (t142)) != x6_1) = false := bne_eq_false_iff_eq.mpr c10
            clear c10
            (first | rw [c10b0] | (simp only [i64_w, i32_w]; rw [c10b0]) | skip)
            have H' := Aside0.mk H
            clear H
            have hcz11_0 : w8.cell? ⟨gb144, 0, none⟩ = some (.int .u32 0) := (blk_cell BK144.out 0).trans rfl
            have hcz11_1 : w8.cell? ⟨gb144, 1, none⟩ = some (.int .i64 0) := (blk_cell BK144.out 1).trans rfl
            have hfz11_0 := blk_frozen BK144.out 0
            have hfz11_1 := blk_frozen BK144.out 1
            go_wp2
            go_meet
            case rel => exact ⟨_, ((t143 != (wrap64 (Int.tmod a0 4)))), (by first | rfl | (simp; done) | (simp [*]; done)), H', ⟨by have := HK1.out; first | omega | exact Nat.le_refl _⟩, ⟨by (with_reducible repeat (first | refine blk_drewN ?_ _ | refine blk_drew ?_ | refine blk_alloc ?_ _)); refine blk_put (cs := #[.int .u32 t142, .int .i64 0]) ?_ 1 _ rfl; (with_reducible repeat (first | refine blk_drewN ?_ _ | refine blk_drew ?_ | refine blk_alloc ?_ _)); refine blk_put (cs := #[.int .u32 0, .int .i64 0]) ?_ 0 _ rfl; (with_reducible repeat (first | refine blk_drewN ?_ _ | refine blk_drew ?_ | refine blk_alloc ?_ _)); exact BK144.out⟩, ⟨by repeat (first | (with_reducible first | exact HB.out | apply below_alloc | apply pw_below_drewN | apply below_drew1 | refine below_set ?_ GE144.out) | exact HB.out)⟩⟩
          · rw [if_neg c10] at H
            have c10b0 : ((IntKind.u64.wrap (t142)) == x6_1) = false := beq_eq_false_iff_ne.mpr c10
            have c10b1 : ((IntKind.u64.wrap (t142)) != x6_1) = true := bne_iff_ne.mpr c10
            (first | rw [c10b0] | (simp only [i64_w, i32_w]; rw [c10b0]) | skip)
            exfalso
            unfold crossbucklaw16_RegionNests.j1 at H
            split at H
            · exact absurd H (by simp)
            · rw [if_pos rfl] at H
              exact absurd ((Option.some.inj H).trans hT.out) (by decide)
        case rest =>
          clear HC6
          try clear c1
          try clear p2
          try clear c4
          try clear c4b0
          try clear c6
          try clear p6
          try clear c10
          try clear c10b0
          try clear c10b1
          try clear hcz11_0
          try clear hcz11_1
          try clear hcz9_0
          try clear hcz9_1
          try clear hfz11_0
          try clear hfz11_1
          try clear hfz9_0
          try clear hfz9_1
          try clear p2
          obtain ⟨kq, x30_5, rfl, HA, HJ5, BK144, HB⟩ := hcut
          cases kq with
          | zero => exact absurd HA.out (by simp [crossbucklaw16_RegionNests.j1])
          | succ kj5 =>
            have H := HA.out
            clear HA
            simp only [crossbucklaw16_RegionNests.j1] at H
            by_cases c12 : x30_5 = true
            · subst c12
              have H1 : (some false) = some r := by rw [if_pos rfl] at H; exact H
              clear H
              have H := H1
              clear H1
              exact absurd ((Option.some.inj H).trans hT.out) (by decide)
            · replace c12 := Bool.eq_false_iff.mpr c12
              subst c12
              have H1 : (if 0 ≤ (wrap64 (32 - (wrap64 (Int.tmod a0 4)))) then (if (wrap64 (Int.tmod a0 4)) > 0 then ((region_Index.f (wrap64 ((wrap64 (Int.tmod a0 4)) - 1)) t142).bind fun t145 => (if t145 = (wrap64 (Int.tdiv x14_1 2)) then (crossbucklaw16_RegionNests.l0 kj5 a1 (wrap64 (Int.tmod a0 4)) (IntKind.u64.wrap (x6_1 + (shl .u64 1 (wrap64 (32 - (wrap64 (Int.tmod a0 4))))))) t138 (wrap64 (x14_1 + 1))) else (some false))) else (crossbucklaw16_RegionNests.l0 kj5 a1 (wrap64 (Int.tmod a0 4)) (IntKind.u64.wrap (x6_1 + (shl .u64 1 (wrap64 (32 - (wrap64 (Int.tmod a0 4))))))) t138 (wrap64 (x14_1 + 1)))) else (none)) = some r := by rw [if_neg (show ¬ (false = true) by decide)] at H; exact H
              clear H
              have H := H1
              clear H1
              obtain ⟨ji13, hji13⟩ : ∃ j_ : Int, (wrap64 (32 - (wrap64 (Int.tmod a0 4)))) = j_ := ⟨_, rfl⟩
              replace H : (if 0 ≤ (ji13) then (if (wrap64 (Int.tmod a0 4)) > 0 then ((region_Index.f (wrap64 ((wrap64 (Int.tmod a0 4)) - 1)) t142).bind fun t145 => (if t145 = (wrap64 (Int.tdiv x14_1 2)) then (crossbucklaw16_RegionNests.l0 kj5 a1 (wrap64 (Int.tmod a0 4)) (IntKind.u64.wrap (x6_1 + (shl .u64 1 (ji13)))) t138 (wrap64 (x14_1 + 1))) else (some false))) else (crossbucklaw16_RegionNests.l0 kj5 a1 (wrap64 (Int.tmod a0 4)) (IntKind.u64.wrap (x6_1 + (shl .u64 1 (ji13)))) t138 (wrap64 (x14_1 + 1)))) else (none)) = some r := by first | (rw [hji13] at H; exact H) | (simp only [hji13] at H ⊢; exact H)
              have hji13w : (IntKind.i64.wrap (32 - (wrap64 (Int.tmod a0 4)))) = ji13 := (i64_w _).trans hji13
              by_cases c14 : 0 ≤ (ji13)
              · rw [if_pos c14] at H
                have c14b0 := eq_true c14
                have c14b1 : decide (0 ≤ (ji13)) = true := decide_eq_true c14
                clear c14
                obtain ⟨ji15, hji15⟩ : ∃ j_ : Int, (shl .u64 1 (ji13)) = j_ := ⟨_, rfl⟩
                replace H : (if (wrap64 (Int.tmod a0 4)) > 0 then ((region_Index.f (wrap64 ((wrap64 (Int.tmod a0 4)) - 1)) t142).bind fun t145 => (if t145 = (wrap64 (Int.tdiv x14_1 2)) then (crossbucklaw16_RegionNests.l0 kj5 a1 (wrap64 (Int.tmod a0 4)) (IntKind.u64.wrap (x6_1 + (ji15))) t138 (wrap64 (x14_1 + 1))) else (some false))) else (crossbucklaw16_RegionNests.l0 kj5 a1 (wrap64 (Int.tmod a0 4)) (IntKind.u64.wrap (x6_1 + (ji15))) t138 (wrap64 (x14_1 + 1)))) = some r := by first | (rw [hji15] at H; exact H) | (simp only [hji15] at H ⊢; exact H)
                have hji15_ : (IntKind.u64.wrap (1 * 2 ^ min (ji13).toNat 64)) = ji15 := hji15
                have hji15z : (ji13) ≤ 64 → (IntKind.u64.wrap (1 * 2 ^ (ji13).toNat)) = ji15 := shl_small hji15
                have hji15u : (IntKind.u64.wrap (2 ^ min (ji13).toNat 64)) = ji15 := by have h_ := hji15_; rw [Int.one_mul] at h_; exact h_
                have hji15v : (ji13) ≤ 64 → (IntKind.u64.wrap (2 ^ (ji13).toNat)) = ji15 := fun hle_ => by have h_ := hji15z hle_; rw [Int.one_mul] at h_; exact h_
                by_cases c16 : (wrap64 (Int.tmod a0 4)) > 0
                · rw [if_pos c16] at H
                  have c16b0 : decide (0 < (wrap64 (Int.tmod a0 4))) = true := decide_eq_true c16
                  clear c16
                  replace H := Option.bind_eq_some_iff.mp H
                  obtain ⟨t145, A170, H⟩ := H
                  replace H : (if t145 = (wrap64 (Int.tdiv x14_1 2)) then (crossbucklaw16_RegionNests.l0 kj5 a1 (wrap64 (Int.tmod a0 4)) (IntKind.u64.wrap (x6_1 + (ji15))) t138 (wrap64 (x14_1 + 1))) else (some false)) = some r := H
                  have A17 := Aside0.mk A170
                  clear A170
                  by_cases c18 : t145 = (wrap64 (Int.tdiv x14_1 2))
                  · rw [if_pos c18] at H
                    have c18b0 : (t145 == (wrap64 (Int.tdiv x14_1 2))) = true := beq_iff_eq.mpr c18
                    have c18b1 : (t145 != (wrap64 (Int.tdiv x14_1 2))) = false := bne_eq_false_iff_eq.mpr c18
                    clear c18
                    have H' := Aside0.mk H
                    clear H
                    have hcz19_0 : wc.cell? ⟨gb144, 0, none⟩ = some (.int .u32 t142) := (blk_cell BK144.out 0).trans rfl
                    have hcz19_1 : wc.cell? ⟨gb144, 1, none⟩ = some (.int .i64 t143) := (blk_cell BK144.out 1).trans rfl
                    have hfz19_0 := blk_frozen BK144.out 0
                    have hfz19_1 := blk_frozen BK144.out 1
                    go_wp2_with (first | (go_at_call 17; (with_reducible refine (region_Index.calls (wrap64 ((wrap64 (Int.tmod a0 4)) - 1)) t142 t145 _ A17.out).mono ?_); rintro e w' ⟨rfl, ⟨nd, rfl⟩⟩))
                    go_roundg kj5
                    case measure => have := HK1.out; have := HJ5.out; omega
                    case rel => exact ⟨(IntKind.u64.wrap (x6_1 + (ji15))), (wrap64 (x14_1 + 1)), (by first | rfl | (simp; done) | (simp only [← hji15] <;> (first | rfl | simp)) | (simp [*]; done)), (by first | rfl | (simp; done) | (simp [*]; done)), H', ⟨by have := HK1.out; have := HJ5.out; omega⟩, ⟨by repeat (first | (with_reducible first | exact HB.out | apply below_alloc | apply pw_below_drewN | apply below_drew1 | refine below_set ?_ GE144.out) | exact HB.out)⟩⟩
                  · rw [if_neg c18] at H
                    have c18b0 : (t145 == (wrap64 (Int.tdiv x14_1 2))) = false := beq_eq_false_iff_ne.mpr c18
                    have c18b1 : (t145 != (wrap64 (Int.tdiv x14_1 2))) = true := bne_iff_ne.mpr c18
                    exact absurd ((Option.some.inj H).trans hT.out) (by decide)
                · rw [if_neg c16] at H
                  have c16b0 : decide (0 < (wrap64 (Int.tmod a0 4))) = false := decide_eq_false c16
                  clear c16
                  have H' := Aside0.mk H
                  clear H
                  go_wp2
                  go_roundg kj5
                  case measure => have := HK1.out; have := HJ5.out; omega
                  case rel => exact ⟨(IntKind.u64.wrap (x6_1 + (ji15))), (wrap64 (x14_1 + 1)), (by first | rfl | (simp; done) | (simp only [← hji15] <;> (first | rfl | simp)) | (simp [*]; done)), (by first | rfl | (simp; done) | (simp [*]; done)), H', ⟨by have := HK1.out; have := HJ5.out; omega⟩, ⟨by repeat (first | (with_reducible first | exact HB.out | apply below_alloc | apply pw_below_drewN | apply below_drew1 | refine below_set ?_ GE144.out) | exact HB.out)⟩⟩
              · rw [if_neg c14] at H
                exact absurd H (by simp)
      · rw [if_neg c4] at H
        have c4b0 : decide (x14_1 < t138) = false := decide_eq_false c4
        clear c4
        replace H := Option.bind_eq_some_iff.mp H
        obtain ⟨t139, A200, H⟩ := H
        replace H : (if t139 = true then (if x6_1 = 4294967296 then (if (wrap64 (Int.tmod a0 4)) = 0 then (some true) else ((region_Index.f (wrap64 ((wrap64 (Int.tmod a0 4)) - 1)) a1).bind fun t140 => ((region_Index.f (wrap64 (Int.tmod a0 4)) a1).bind fun t141 => (some (t140 == (wrap64 (Int.tdiv t141 2))))))) else (some false)) else (some false)) = some r := H
        have A20 := Aside0.mk A200
        clear A200
        by_cases c21 : t139 = true
        · subst c21
          have H1 : (if x6_1 = 4294967296 then (if (wrap64 (Int.tmod a0 4)) = 0 then (some true) else ((region_Index.f (wrap64 ((wrap64 (Int.tmod a0 4)) - 1)) a1).bind fun t140 => ((region_Index.f (wrap64 (Int.tmod a0 4)) a1).bind fun t141 => (some (t140 == (wrap64 (Int.tdiv t141 2))))))) else (some false)) = some r := by rw [if_pos rfl] at H; exact H
          clear H
          have H := H1
          clear H1
          by_cases c22 : x6_1 = 4294967296
          · rw [if_pos c22] at H
            have c22b0 : (x6_1 == 4294967296) = true := beq_iff_eq.mpr c22
            have c22b1 : (x6_1 != 4294967296) = false := bne_eq_false_iff_eq.mpr c22
            clear c22
            by_cases c23 : (wrap64 (Int.tmod a0 4)) = 0
            · rw [if_pos c23] at H
              have c23b0 : ((wrap64 (Int.tmod a0 4)) == 0) = true := beq_iff_eq.mpr c23
              have c23b1 : ((wrap64 (Int.tmod a0 4)) != 0) = false := bne_eq_false_iff_eq.mpr c23
              clear c23
              obtain rfl := Option.some.inj H
              go_wp2_with (first | ((with_reducible refine gate_callee (f := 22) rfl ?_); refine goesL_ (some 49) rfl rfl Try.func22 (by kernel_rfl) rfl #[] rfl (by (try simp only [List.map_toArray, List.map_cons, List.map_nil]); first | done | rfl | (simp only [List.length_drop, List.length_take]; rfl)) ?_; (with_reducible refine (crossbucklaw16_awake.calls  true _ A20.out).mono ?_); rintro e w24 ⟨rfl, hb⟩; refine ⟨_, rfl, ?_⟩; have n0_ := Aside0.mk (below_step (by repeat (first | (with_reducible first | exact HB.out | apply below_alloc | apply pw_below_drewN | apply below_drew1) | exact HB.out)) hb); clear HB; have HB := n0_; clear n0_; (try clear hb); (try clear hb2); (try clear hk); (try clear hi)))
              go_ret
              exact ⟨by first | rfl | (simp [errW_none, errW_some] <;> rfl) | (simp [*, errW_none, errW_some] <;> rfl), by repeat (first | (with_reducible first | exact HB.out | apply below_alloc | apply pw_below_drewN | apply below_drew1) | exact HB.out)⟩
            · rw [if_neg c23] at H
              have c23b0 : ((wrap64 (Int.tmod a0 4)) == 0) = false := beq_eq_false_iff_ne.mpr c23
              have c23b1 : ((wrap64 (Int.tmod a0 4)) != 0) = true := bne_iff_ne.mpr c23
              replace H := Option.bind_eq_some_iff.mp H
              obtain ⟨t140, A250, H⟩ := H
              replace H : ((region_Index.f (wrap64 (Int.tmod a0 4)) a1).bind fun t141 => (some (t140 == (wrap64 (Int.tdiv t141 2))))) = some r := H
              have A25 := Aside0.mk A250
              clear A250
              replace H := Option.bind_eq_some_iff.mp H
              obtain ⟨t141, A260, H⟩ := H
              replace H : (some (t140 == (wrap64 (Int.tdiv t141 2)))) = some r := H
              have A26 := Aside0.mk A260
              clear A260
              obtain rfl := Option.some.inj H
              go_wp2_with (first | ((with_reducible refine gate_callee (f := 22) rfl ?_); refine goesL_ (some 49) rfl rfl Try.func22 (by kernel_rfl) rfl #[] rfl (by (try simp only [List.map_toArray, List.map_cons, List.map_nil]); first | done | rfl | (simp only [List.length_drop, List.length_take]; rfl)) ?_; (with_reducible refine (crossbucklaw16_awake.calls  true _ A20.out).mono ?_); rintro e w27 ⟨rfl, hb⟩; refine ⟨_, rfl, ?_⟩; have n0_ := Aside0.mk (below_step (by repeat (first | (with_reducible first | exact HB.out | apply below_alloc | apply pw_below_drewN | apply below_drew1) | exact HB.out)) hb); clear HB; have HB := n0_; clear n0_; (try clear hb); (try clear hb2); (try clear hk); (try clear hi)) | (go_at_call 17; (with_reducible refine (region_Index.calls (wrap64 ((wrap64 (Int.tmod a0 4)) - 1)) a1 t140 _ A25.out).mono ?_); rintro e w' ⟨rfl, ⟨nd, rfl⟩⟩) | (go_at_call 17; (with_reducible refine (region_Index.calls (wrap64 (Int.tmod a0 4)) a1 t141 _ A26.out).mono ?_); rintro e w' ⟨rfl, ⟨nd, rfl⟩⟩))
              go_ret
              exact ⟨by first | rfl | (simp [errW_none, errW_some] <;> rfl) | (simp [*, errW_none, errW_some] <;> rfl), by repeat (first | (with_reducible first | exact HB.out | apply below_alloc | apply pw_below_drewN | apply below_drew1) | exact HB.out)⟩
          · rw [if_neg c22] at H
            have c22b0 : (x6_1 == 4294967296) = false := beq_eq_false_iff_ne.mpr c22
            have c22b1 : (x6_1 != 4294967296) = true := bne_iff_ne.mpr c22
            exact absurd ((Option.some.inj H).trans hT.out) (by decide)
        · replace c21 := Bool.eq_false_iff.mpr c21
          subst c21
          have H1 : (some false) = some r := by rw [if_neg (show ¬ (false = true) by decide)] at H; exact H
          clear H
          have H := H1
          clear H1
          exact absurd ((Option.some.inj H).trans hT.out) (by decide)

/-- THE ONE PURE STATEMENT of crossbucklaw16_RegionNests: yours. -/
def crossbucklaw16_RegionNests.Pure : Prop := ∀ (a0 : Int) (a1 : Int), (Lit.int .u8 a0).wf = true → (Lit.int .u32 a1).wf = true → ∃ k, crossbucklaw16_RegionNests.f k a0 a1 = some true
theorem crossbucklaw16_RegionNests.walk (P : crossbucklaw16_RegionNests.Pure) (a0 : Int) (a1 : Int) (w : World) (w0 : (Lit.int .u8 a0).wf = true) (w1 : (Lit.int .u32 a1).wf = true) :
    Calls Try.prog 6 #[.int .u8 a0, .int .u32 a1] w fun e w' => e = .returned (.bool true) ∧ Below w.heap.size w w' := by
  obtain ⟨k, h⟩ := P a0 a1 w0 w1
  refine (crossbucklaw16_RegionNests.calls k a0 a1 true w h (Aside0.mk rfl)).mono ?_
  rintro e w' ⟨rfl, hd⟩
  exact ⟨rfl, hd⟩

end Go.Proofs.Ytbnjbjjbfbbdcaa.PAll
