-- Written by wip/myprint.py (this session's own driver); Lean checks it.
import Derived.Test.YtloclimoffhbhaaDoorPAllx0
namespace Go.Proofs.YtloclimoffhbhaaDoor.PAll
open Go.RowKit Go.Proofs.YtloclimoffhbhaaDoorW.PrintWords Go.Proofs.YtloclimoffhbhaaDoorW.PrintLast Go.Proofs.YtloclimoffhbhaaDoorW.PrintMore
attribute [local go_sem] max2_int min2_int max_two min_two max_three min_three max_four min_four   -- for this text's walks alone
set_option linter.unusedVariables false
set_option linter.unusedSimpArgs false

/-! ### hdr_Bit: function 38 -/
def hdr_Bit.j0 : Nat → Int → Bool → Int → Int → Int → Int → Int → Option (Bool)
  | 0, _, _, _, _, _, _, _ => none
  | k + 1, x1, x5, x389000, x389001, x389002, x389003, x389004 => if x5 = true then (some false) else (if x1 < 32 then (if 0 ≤ (wrap64 (31 - x1)) then (some ((Go.bits .and .u32 (shr .u32 x389000 (wrap64 (31 - x1))) 1) == 1)) else (none)) else (if x1 < 64 then (if 0 ≤ (wrap64 (31 - (wrap64 (x1 - 32)))) then (some ((Go.bits .and .u32 (shr .u32 x389001 (wrap64 (31 - (wrap64 (x1 - 32))))) 1) == 1)) else (none)) else (if x1 < 72 then (if 0 ≤ (wrap64 (7 - (wrap64 (x1 - 64)))) then (some ((Go.bits .and .u8 (shr .u8 x389002 (wrap64 (7 - (wrap64 (x1 - 64))))) 1) == 1)) else (none)) else (if x1 < 88 then (if 0 ≤ (wrap64 (15 - (wrap64 (x1 - 72)))) then (some ((Go.bits .and .u16 (shr .u16 x389003 (wrap64 (15 - (wrap64 (x1 - 72))))) 1) == 1)) else (none)) else (if 0 ≤ (wrap64 (15 - (wrap64 (x1 - 88)))) then (some ((Go.bits .and .u16 (shr .u16 x389004 (wrap64 (15 - (wrap64 (x1 - 88))))) 1) == 1)) else (none))))))
def hdr_Bit.f (k : Nat) (a0_0 : Int) (a0_1 : Int) (a0_2 : Int) (a0_3 : Int) (a0_4 : Int) (a1 : Int) : Option (Bool) := if a1 < 0 then (hdr_Bit.j0 k a1 true a0_0 a0_1 a0_2 a0_3 a0_4) else (hdr_Bit.j0 k a1 (decide (a1 ≥ 104)) a0_0 a0_1 a0_2 a0_3 a0_4)
theorem hdr_Bit.mono_l : ∀ k, (∀ y0 y1 y2 y3 y4 y5 y6, LeO (hdr_Bit.j0 k y0 y1 y2 y3 y4 y5 y6) (hdr_Bit.j0 (k + 1) y0 y1 y2 y3 y4 y5 y6))
  | 0 => fun _ _ _ _ _ _ _ r h => by simp [hdr_Bit.j0] at h
  | k + 1 => by
    have ih0 := hdr_Bit.mono_l k
    · intro y0 y1 y2 y3 y4 y5 y6
      unfold hdr_Bit.j0
      repeat' first
      | (with_reducible exact ih0 _ _ _ _ _ _ _)
      | (with_reducible exact LeO.refl _)
      | (with_reducible exact LeO.none _)
      | (with_reducible refine LeO.ite ?_ ?_)
      | (with_reducible refine LeO.bind ?_ (fun _ => ?_))
      | exact ih0 _ _ _ _ _ _ _
      | exact LeO.none _
      | refine LeO.ite ?_ ?_
      | refine LeO.bind ?_ (fun _ => ?_)
theorem hdr_Bit.mono : ∀ a0 a1 a2 a3 a4 a5 k, LeO (hdr_Bit.f k a0 a1 a2 a3 a4 a5) (hdr_Bit.f (k + 1) a0 a1 a2 a3 a4 a5) := by
  intro a0 a1 a2 a3 a4 a5 k
  have ih0 := hdr_Bit.mono_l k
  unfold hdr_Bit.f
  repeat' first
      | (with_reducible exact ih0 _ _ _ _ _ _ _)
      | (with_reducible exact LeO.refl _)
      | (with_reducible exact LeO.none _)
      | (with_reducible refine LeO.ite ?_ ?_)
      | (with_reducible refine LeO.bind ?_ (fun _ => ?_))
      | exact ih0 _ _ _ _ _ _ _
      | exact LeO.none _
      | refine LeO.ite ?_ ?_
      | refine LeO.bind ?_ (fun _ => ?_)
set_option maxHeartbeats 8000000 in
set_option maxRecDepth 100000 in
theorem hdr_Bit.calls (k : Nat) (a0_0 : Int) (a0_1 : Int) (a0_2 : Int) (a0_3 : Int) (a0_4 : Int) (a1 : Int) (r : Bool) (w : World) (h : hdr_Bit.f k a0_0 a0_1 a0_2 a0_3 a0_4 a1 = some r) :
    Calls Tryd.prog 38 #[.agg #[.int .u32 a0_0, .int .u32 a0_1, .int .u8 a0_2, .int .u16 a0_3, .int .u16 a0_4], .int .i64 a1] w fun e w' => e = .returned (.bool r) ∧ Below w.heap.size w w' := by
  have hu67 := Tryd.underlying67
  have HB := Aside0.mk (Below.refl w.heap.size w)
  have H : (if a1 < 0 then (hdr_Bit.j0 k a1 true a0_0 a0_1 a0_2 a0_3 a0_4) else (hdr_Bit.j0 k a1 (decide (a1 ≥ 104)) a0_0 a0_1 a0_2 a0_3 a0_4)) = some r := h
  clear h
  have HC3 := Aside0.mk H
  clear H
  go_enter Tryd.func38, Tryd.ntmps38
  go_upto_region 1 with (first | ((with_reducible refine gate_dst (N := 2) rfl ?_); refine box_event ?hg (N := 2) ?hd (cs := #[.int .u32 a0_0, .int .u32 a0_1, .int .u8 a0_2, .int .u16 a0_3, .int .u16 a0_4]) (t := 67) ?hr ?_; (case hd => rfl); (case hg => rfl); (case hr => first | (go_simp; done) | (go_simp; rfl)); intro gb388 hg w4 hbox hb; have n0_ := Aside0.mk (below_step (by repeat (first | (with_reducible first | exact HB.out | apply below_alloc | apply pw_below_drewN | apply below_drew1) | exact HB.out)) hb); have n1_ := Aside0.mk (hbox); have n2_ := Aside0.mk ((by rw [hg]; exact (below_size (by repeat (first | (with_reducible first | exact HB.out | apply below_alloc | apply pw_below_drewN | apply below_drew1) | exact HB.out))) : w.heap.size ≤ gb388)); have n3_ := Aside0.mk ((by rw [hg]; exact (below_size (by repeat (first | (with_reducible first | exact HB.out | apply below_alloc | apply pw_below_drewN | apply below_drew1) | exact HB.out))) : w.heap.size ≤ gb388)); clear HB; have HB := n0_; have BK388 := n1_; have GW388 := n2_; have GE388 := n3_; clear n0_ n1_ n2_ n3_; clear hb hbox hg))
  (try simp only [Act.put, List.setIfInBounds_toArray, List.set_cons_zero, List.set_cons_succ])
  go_cut [5] (fun v5 wc => ∃ (kq : Nat) (x5_2 : Bool), v5 = .bool x5_2 ∧ Aside0 (hdr_Bit.j0 kq a1 x5_2 a0_0 a0_1 a0_2 a0_3 a0_4 = some r) ∧ Aside0 (kq ≤ k) ∧ Aside0 (wc.heap[gb388]? = some (.cells #[.int .u32 a0_0, .int .u32 a0_1, .int .u8 a0_2, .int .u16 a0_3, .int .u16 a0_4] 67 (0, 0))) ∧ Aside0 (Below w.heap.size w wc))
  case first =>
    have H := HC3.out
    clear HC3
    by_cases c5 : a1 < 0
    · rw [if_pos c5] at H
      have c5b0 : decide (a1 < 0) = true := decide_eq_true c5
      clear c5
      (first | rw [c5b0] | (simp only [i64_w, i32_w]; rw [c5b0]) | skip)
      have H' := Aside0.mk H
      clear H
      go_wp2
      go_meet
      case rel => exact ⟨_, (true), (by first | rfl | (simp; done) | (simp [*]; done)), H', ⟨by first | omega | exact Nat.le_refl _⟩, ⟨by (with_reducible repeat (first | refine blk_drewN ?_ _ | refine blk_drew ?_ | refine blk_alloc ?_ _)); exact BK388.out⟩, ⟨by repeat (first | (with_reducible first | exact HB.out | apply below_alloc | apply pw_below_drewN | apply below_drew1 | refine below_set ?_ GE388.out) | exact HB.out)⟩⟩
    · rw [if_neg c5] at H
      have c5b0 : decide (a1 < 0) = false := decide_eq_false c5
      clear c5
      (first | rw [c5b0] | (simp only [i64_w, i32_w]; rw [c5b0]) | skip)
      have H' := Aside0.mk H
      clear H
      go_wp2
      go_meet
      case rel => exact ⟨_, (decide (a1 ≥ 104)), (by first | rfl | (simp; done) | (simp [*]; done)), H', ⟨by first | omega | exact Nat.le_refl _⟩, ⟨by (with_reducible repeat (first | refine blk_drewN ?_ _ | refine blk_drew ?_ | refine blk_alloc ?_ _)); exact BK388.out⟩, ⟨by repeat (first | (with_reducible first | exact HB.out | apply below_alloc | apply pw_below_drewN | apply below_drew1 | refine below_set ?_ GE388.out) | exact HB.out)⟩⟩
  case rest =>
    clear HC3
    try clear p2
    try clear c3
    try clear c5
    try clear c5b0
    obtain ⟨kq, x5_2, rfl, HA, HJ2, BK388, HB⟩ := hcut
    cases kq with
    | zero => exact absurd HA.out (by simp [hdr_Bit.j0])
    | succ kj2 =>
      have H := HA.out
      clear HA
      simp only [hdr_Bit.j0] at H
      by_cases c6 : x5_2 = true
      · subst c6
        have H1 : (some false) = some r := by rw [if_pos rfl] at H; exact H
        clear H
        have H := H1
        clear H1
        obtain rfl := Option.some.inj H
        go_wp2
        go_ret
        exact ⟨by first | rfl | (simp [errW_none, errW_some] <;> rfl) | (simp [*, errW_none, errW_some] <;> rfl), by repeat (first | (with_reducible first | exact HB.out | apply below_alloc | apply pw_below_drewN | apply below_drew1 | refine below_set ?_ GE388.out) | exact HB.out)⟩
      · replace c6 := Bool.eq_false_iff.mpr c6
        subst c6
        have H1 : (if a1 < 32 then (if 0 ≤ (wrap64 (31 - a1)) then (some ((Go.bits .and .u32 (shr .u32 a0_0 (wrap64 (31 - a1))) 1) == 1)) else (none)) else (if a1 < 64 then (if 0 ≤ (wrap64 (31 - (wrap64 (a1 - 32)))) then (some ((Go.bits .and .u32 (shr .u32 a0_1 (wrap64 (31 - (wrap64 (a1 - 32))))) 1) == 1)) else (none)) else (if a1 < 72 then (if 0 ≤ (wrap64 (7 - (wrap64 (a1 - 64)))) then (some ((Go.bits .and .u8 (shr .u8 a0_2 (wrap64 (7 - (wrap64 (a1 - 64))))) 1) == 1)) else (none)) else (if a1 < 88 then (if 0 ≤ (wrap64 (15 - (wrap64 (a1 - 72)))) then (some ((Go.bits .and .u16 (shr .u16 a0_3 (wrap64 (15 - (wrap64 (a1 - 72))))) 1) == 1)) else (none)) else (if 0 ≤ (wrap64 (15 - (wrap64 (a1 - 88)))) then (some ((Go.bits .and .u16 (shr .u16 a0_4 (wrap64 (15 - (wrap64 (a1 - 88))))) 1) == 1)) else (none)))))) = some r := by rw [if_neg (show ¬ (false = true) by decide)] at H; exact H
        clear H
        have H := H1
        clear H1
        by_cases c7 : a1 < 32
        · rw [if_pos c7] at H
          have c7b0 : decide (a1 < 32) = true := decide_eq_true c7
          clear c7
          obtain ⟨ji8, hji8⟩ : ∃ j_ : Int, (wrap64 (31 - a1)) = j_ := ⟨_, rfl⟩
          replace H : (if 0 ≤ (ji8) then (some ((Go.bits .and .u32 (shr .u32 a0_0 (ji8)) 1) == 1)) else (none)) = some r := by first | (rw [hji8] at H; exact H) | (simp only [hji8] at H ⊢; exact H)
          have hji8w : (IntKind.i64.wrap (31 - a1)) = ji8 := (i64_w _).trans hji8
          by_cases c9 : 0 ≤ (ji8)
          · rw [if_pos c9] at H
            have c9b0 := eq_true c9
            have c9b1 : decide (0 ≤ (ji8)) = true := decide_eq_true c9
            clear c9
            obtain ⟨ji10, hji10⟩ : ∃ j_ : Int, (shr .u32 a0_0 (ji8)) = j_ := ⟨_, rfl⟩
            replace H : (some ((Go.bits .and .u32 (ji10) 1) == 1)) = some r := by first | (rw [hji10] at H; exact H) | (simp only [hji10] at H ⊢; exact H)
            have hji10_ : (a0_0 / 2 ^ min (ji8).toNat 32) = ji10 := hji10
            have hji10z : (ji8) ≤ 32 → (a0_0 / 2 ^ (ji8).toNat) = ji10 := shr_small hji10
            obtain rfl := Option.some.inj H
            have hcz11_0 : wc.cell? ⟨gb388, 0, none⟩ = some (.int .u32 a0_0) := (blk_cell BK388.out 0).trans rfl
            have hcz11_1 : wc.cell? ⟨gb388, 1, none⟩ = some (.int .u32 a0_1) := (blk_cell BK388.out 1).trans rfl
            have hcz11_2 : wc.cell? ⟨gb388, 2, none⟩ = some (.int .u8 a0_2) := (blk_cell BK388.out 2).trans rfl
            have hcz11_3 : wc.cell? ⟨gb388, 3, none⟩ = some (.int .u16 a0_3) := (blk_cell BK388.out 3).trans rfl
            have hcz11_4 : wc.cell? ⟨gb388, 4, none⟩ = some (.int .u16 a0_4) := (blk_cell BK388.out 4).trans rfl
            have hfz11_0 := blk_frozen BK388.out 0
            have hfz11_1 := blk_frozen BK388.out 1
            have hfz11_2 := blk_frozen BK388.out 2
            have hfz11_3 := blk_frozen BK388.out 3
            have hfz11_4 := blk_frozen BK388.out 4
            go_wp2
            go_ret
            exact ⟨by first | rfl | (simp [errW_none, errW_some] <;> rfl) | (simp only [← hji8, ← hji10]; first | rfl | (simp [errW_none, errW_some] <;> rfl)) | (simp [*, errW_none, errW_some] <;> rfl), by repeat (first | (with_reducible first | exact HB.out | apply below_alloc | apply pw_below_drewN | apply below_drew1 | refine below_set ?_ GE388.out) | exact HB.out)⟩
          · rw [if_neg c9] at H
            exact absurd H (by simp)
        · rw [if_neg c7] at H
          have c7b0 : decide (a1 < 32) = false := decide_eq_false c7
          clear c7
          by_cases c12 : a1 < 64
          · rw [if_pos c12] at H
            have c12b0 : decide (a1 < 64) = true := decide_eq_true c12
            clear c12
            obtain ⟨ji13, hji13⟩ : ∃ j_ : Int, (wrap64 (31 - (wrap64 (a1 - 32)))) = j_ := ⟨_, rfl⟩
            replace H : (if 0 ≤ (ji13) then (some ((Go.bits .and .u32 (shr .u32 a0_1 (ji13)) 1) == 1)) else (none)) = some r := by first | (rw [hji13] at H; exact H) | (simp only [hji13] at H ⊢; exact H)
            have hji13w : (IntKind.i64.wrap (31 - (wrap64 (a1 - 32)))) = ji13 := (i64_w _).trans hji13
            by_cases c14 : 0 ≤ (ji13)
            · rw [if_pos c14] at H
              have c14b0 := eq_true c14
              have c14b1 : decide (0 ≤ (ji13)) = true := decide_eq_true c14
              clear c14
              obtain ⟨ji15, hji15⟩ : ∃ j_ : Int, (shr .u32 a0_1 (ji13)) = j_ := ⟨_, rfl⟩
              replace H : (some ((Go.bits .and .u32 (ji15) 1) == 1)) = some r := by first | (rw [hji15] at H; exact H) | (simp only [hji15] at H ⊢; exact H)
              have hji15_ : (a0_1 / 2 ^ min (ji13).toNat 32) = ji15 := hji15
              have hji15z : (ji13) ≤ 32 → (a0_1 / 2 ^ (ji13).toNat) = ji15 := shr_small hji15
              obtain rfl := Option.some.inj H
              have hcz16_0 : wc.cell? ⟨gb388, 0, none⟩ = some (.int .u32 a0_0) := (blk_cell BK388.out 0).trans rfl
              have hcz16_1 : wc.cell? ⟨gb388, 1, none⟩ = some (.int .u32 a0_1) := (blk_cell BK388.out 1).trans rfl
              have hcz16_2 : wc.cell? ⟨gb388, 2, none⟩ = some (.int .u8 a0_2) := (blk_cell BK388.out 2).trans rfl
              have hcz16_3 : wc.cell? ⟨gb388, 3, none⟩ = some (.int .u16 a0_3) := (blk_cell BK388.out 3).trans rfl
              have hcz16_4 : wc.cell? ⟨gb388, 4, none⟩ = some (.int .u16 a0_4) := (blk_cell BK388.out 4).trans rfl
              have hfz16_0 := blk_frozen BK388.out 0
              have hfz16_1 := blk_frozen BK388.out 1
              have hfz16_2 := blk_frozen BK388.out 2
              have hfz16_3 := blk_frozen BK388.out 3
              have hfz16_4 := blk_frozen BK388.out 4
              go_wp2
              go_ret
              exact ⟨by first | rfl | (simp [errW_none, errW_some] <;> rfl) | (simp only [← hji13, ← hji15]; first | rfl | (simp [errW_none, errW_some] <;> rfl)) | (simp [*, errW_none, errW_some] <;> rfl), by repeat (first | (with_reducible first | exact HB.out | apply below_alloc | apply pw_below_drewN | apply below_drew1 | refine below_set ?_ GE388.out) | exact HB.out)⟩
            · rw [if_neg c14] at H
              exact absurd H (by simp)
          · rw [if_neg c12] at H
            have c12b0 : decide (a1 < 64) = false := decide_eq_false c12
            clear c12
            by_cases c17 : a1 < 72
            · rw [if_pos c17] at H
              have c17b0 : decide (a1 < 72) = true := decide_eq_true c17
              clear c17
              obtain ⟨ji18, hji18⟩ : ∃ j_ : Int, (wrap64 (7 - (wrap64 (a1 - 64)))) = j_ := ⟨_, rfl⟩
              replace H : (if 0 ≤ (ji18) then (some ((Go.bits .and .u8 (shr .u8 a0_2 (ji18)) 1) == 1)) else (none)) = some r := by first | (rw [hji18] at H; exact H) | (simp only [hji18] at H ⊢; exact H)
              have hji18w : (IntKind.i64.wrap (7 - (wrap64 (a1 - 64)))) = ji18 := (i64_w _).trans hji18
              by_cases c19 : 0 ≤ (ji18)
              · rw [if_pos c19] at H
                have c19b0 := eq_true c19
                have c19b1 : decide (0 ≤ (ji18)) = true := decide_eq_true c19
                clear c19
                obtain ⟨ji20, hji20⟩ : ∃ j_ : Int, (shr .u8 a0_2 (ji18)) = j_ := ⟨_, rfl⟩
                replace H : (some ((Go.bits .and .u8 (ji20) 1) == 1)) = some r := by first | (rw [hji20] at H; exact H) | (simp only [hji20] at H ⊢; exact H)
                have hji20_ : (a0_2 / 2 ^ min (ji18).toNat 8) = ji20 := hji20
                have hji20z : (ji18) ≤ 8 → (a0_2 / 2 ^ (ji18).toNat) = ji20 := shr_small hji20
                obtain rfl := Option.some.inj H
                have hcz21_0 : wc.cell? ⟨gb388, 0, none⟩ = some (.int .u32 a0_0) := (blk_cell BK388.out 0).trans rfl
                have hcz21_1 : wc.cell? ⟨gb388, 1, none⟩ = some (.int .u32 a0_1) := (blk_cell BK388.out 1).trans rfl
                have hcz21_2 : wc.cell? ⟨gb388, 2, none⟩ = some (.int .u8 a0_2) := (blk_cell BK388.out 2).trans rfl
                have hcz21_3 : wc.cell? ⟨gb388, 3, none⟩ = some (.int .u16 a0_3) := (blk_cell BK388.out 3).trans rfl
                have hcz21_4 : wc.cell? ⟨gb388, 4, none⟩ = some (.int .u16 a0_4) := (blk_cell BK388.out 4).trans rfl
                have hfz21_0 := blk_frozen BK388.out 0
                have hfz21_1 := blk_frozen BK388.out 1
                have hfz21_2 := blk_frozen BK388.out 2
                have hfz21_3 := blk_frozen BK388.out 3
                have hfz21_4 := blk_frozen BK388.out 4
                go_wp2
                go_ret
                exact ⟨by first | rfl | (simp [errW_none, errW_some] <;> rfl) | (simp only [← hji18, ← hji20]; first | rfl | (simp [errW_none, errW_some] <;> rfl)) | (simp [*, errW_none, errW_some] <;> rfl), by repeat (first | (with_reducible first | exact HB.out | apply below_alloc | apply pw_below_drewN | apply below_drew1 | refine below_set ?_ GE388.out) | exact HB.out)⟩
              · rw [if_neg c19] at H
                exact absurd H (by simp)
            · rw [if_neg c17] at H
              have c17b0 : decide (a1 < 72) = false := decide_eq_false c17
              clear c17
              by_cases c22 : a1 < 88
              · rw [if_pos c22] at H
                have c22b0 : decide (a1 < 88) = true := decide_eq_true c22
                clear c22
                obtain ⟨ji23, hji23⟩ : ∃ j_ : Int, (wrap64 (15 - (wrap64 (a1 - 72)))) = j_ := ⟨_, rfl⟩
                replace H : (if 0 ≤ (ji23) then (some ((Go.bits .and .u16 (shr .u16 a0_3 (ji23)) 1) == 1)) else (none)) = some r := by first | (rw [hji23] at H; exact H) | (simp only [hji23] at H ⊢; exact H)
                have hji23w : (IntKind.i64.wrap (15 - (wrap64 (a1 - 72)))) = ji23 := (i64_w _).trans hji23
                by_cases c24 : 0 ≤ (ji23)
                · rw [if_pos c24] at H
                  have c24b0 := eq_true c24
                  have c24b1 : decide (0 ≤ (ji23)) = true := decide_eq_true c24
                  clear c24
                  obtain ⟨ji25, hji25⟩ : ∃ j_ : Int, (shr .u16 a0_3 (ji23)) = j_ := ⟨_, rfl⟩
                  replace H : (some ((Go.bits .and .u16 (ji25) 1) == 1)) = some r := by first | (rw [hji25] at H; exact H) | (simp only [hji25] at H ⊢; exact H)
                  have hji25_ : (a0_3 / 2 ^ min (ji23).toNat 16) = ji25 := hji25
                  have hji25z : (ji23) ≤ 16 → (a0_3 / 2 ^ (ji23).toNat) = ji25 := shr_small hji25
                  obtain rfl := Option.some.inj H
                  have hcz26_0 : wc.cell? ⟨gb388, 0, none⟩ = some (.int .u32 a0_0) := (blk_cell BK388.out 0).trans rfl
                  have hcz26_1 : wc.cell? ⟨gb388, 1, none⟩ = some (.int .u32 a0_1) := (blk_cell BK388.out 1).trans rfl
                  have hcz26_2 : wc.cell? ⟨gb388, 2, none⟩ = some (.int .u8 a0_2) := (blk_cell BK388.out 2).trans rfl
                  have hcz26_3 : wc.cell? ⟨gb388, 3, none⟩ = some (.int .u16 a0_3) := (blk_cell BK388.out 3).trans rfl
                  have hcz26_4 : wc.cell? ⟨gb388, 4, none⟩ = some (.int .u16 a0_4) := (blk_cell BK388.out 4).trans rfl
                  have hfz26_0 := blk_frozen BK388.out 0
                  have hfz26_1 := blk_frozen BK388.out 1
                  have hfz26_2 := blk_frozen BK388.out 2
                  have hfz26_3 := blk_frozen BK388.out 3
                  have hfz26_4 := blk_frozen BK388.out 4
                  go_wp2
                  go_ret
                  exact ⟨by first | rfl | (simp [errW_none, errW_some] <;> rfl) | (simp only [← hji23, ← hji25]; first | rfl | (simp [errW_none, errW_some] <;> rfl)) | (simp [*, errW_none, errW_some] <;> rfl), by repeat (first | (with_reducible first | exact HB.out | apply below_alloc | apply pw_below_drewN | apply below_drew1 | refine below_set ?_ GE388.out) | exact HB.out)⟩
                · rw [if_neg c24] at H
                  exact absurd H (by simp)
              · rw [if_neg c22] at H
                have c22b0 : decide (a1 < 88) = false := decide_eq_false c22
                clear c22
                obtain ⟨ji27, hji27⟩ : ∃ j_ : Int, (wrap64 (15 - (wrap64 (a1 - 88)))) = j_ := ⟨_, rfl⟩
                replace H : (if 0 ≤ (ji27) then (some ((Go.bits .and .u16 (shr .u16 a0_4 (ji27)) 1) == 1)) else (none)) = some r := by first | (rw [hji27] at H; exact H) | (simp only [hji27] at H ⊢; exact H)
                have hji27w : (IntKind.i64.wrap (15 - (wrap64 (a1 - 88)))) = ji27 := (i64_w _).trans hji27
                by_cases c28 : 0 ≤ (ji27)
                · rw [if_pos c28] at H
                  have c28b0 := eq_true c28
                  have c28b1 : decide (0 ≤ (ji27)) = true := decide_eq_true c28
                  clear c28
                  obtain ⟨ji29, hji29⟩ : ∃ j_ : Int, (shr .u16 a0_4 (ji27)) = j_ := ⟨_, rfl⟩
                  replace H : (some ((Go.bits .and .u16 (ji29) 1) == 1)) = some r := by first | (rw [hji29] at H; exact H) | (simp only [hji29] at H ⊢; exact H)
                  have hji29_ : (a0_4 / 2 ^ min (ji27).toNat 16) = ji29 := hji29
                  have hji29z : (ji27) ≤ 16 → (a0_4 / 2 ^ (ji27).toNat) = ji29 := shr_small hji29
                  obtain rfl := Option.some.inj H
                  have hcz30_0 : wc.cell? ⟨gb388, 0, none⟩ = some (.int .u32 a0_0) := (blk_cell BK388.out 0).trans rfl
                  have hcz30_1 : wc.cell? ⟨gb388, 1, none⟩ = some (.int .u32 a0_1) := (blk_cell BK388.out 1).trans rfl
                  have hcz30_2 : wc.cell? ⟨gb388, 2, none⟩ = some (.int .u8 a0_2) := (blk_cell BK388.out 2).trans rfl
                  have hcz30_3 : wc.cell? ⟨gb388, 3, none⟩ = some (.int .u16 a0_3) := (blk_cell BK388.out 3).trans rfl
                  have hcz30_4 : wc.cell? ⟨gb388, 4, none⟩ = some (.int .u16 a0_4) := (blk_cell BK388.out 4).trans rfl
                  have hfz30_0 := blk_frozen BK388.out 0
                  have hfz30_1 := blk_frozen BK388.out 1
                  have hfz30_2 := blk_frozen BK388.out 2
                  have hfz30_3 := blk_frozen BK388.out 3
                  have hfz30_4 := blk_frozen BK388.out 4
                  go_wp2
                  go_ret
                  exact ⟨by first | rfl | (simp [errW_none, errW_some] <;> rfl) | (simp only [← hji27, ← hji29]; first | rfl | (simp [errW_none, errW_some] <;> rfl)) | (simp [*, errW_none, errW_some] <;> rfl), by repeat (first | (with_reducible first | exact HB.out | apply below_alloc | apply pw_below_drewN | apply below_drew1 | refine below_set ?_ GE388.out) | exact HB.out)⟩
                · rw [if_neg c28] at H
                  exact absurd H (by simp)

end Go.Proofs.YtloclimoffhbhaaDoor.PAll
