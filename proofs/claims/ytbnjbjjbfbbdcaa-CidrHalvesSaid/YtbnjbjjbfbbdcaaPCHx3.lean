-- Written by wip/myprint.py (this session's own driver); Lean checks it.
import Derived.Test.YtbnjbjjbfbbdcaaPCHx0
import Derived.Test.YtbnjbjjbfbbdcaaPCHx1
import Derived.Test.YtbnjbjjbfbbdcaaPCHx2
namespace Go.Proofs.Ytbnjbjjbfbbdcaa.PCH
open Go.RowKit Go.Proofs.YtbnjbjjbfbbdcaaW.PrintWords Go.Proofs.YtbnjbjjbfbbdcaaW.PrintLast Go.Proofs.YtbnjbjjbfbbdcaaW.PrintMore
attribute [local go_sem] max2_int min2_int max_two min_two max_three min_three max_four min_four   -- for this text's walks alone
set_option linter.unusedVariables false
set_option linter.unusedSimpArgs false

attribute [local go_sem high] eqA29
/-! ### crossbucklaw03_awake: function 13 -/
def crossbucklaw03_awake.f (k : Nat)  : Option (Bool) := (cidr_Blocks.f k 1 6).bind fun t105 => (if (t105.length : Int) = 4 then (if 0 < (t105.length : Int) then (if (((rd_T29 t105 0).f0) == 1 && (((rd_T29 t105 0).f1) == 16)) = true then (if 1 < (t105.length : Int) then (if (((rd_T29 t105 1).f0) == 2 && (((rd_T29 t105 1).f1) == 15)) = true then (if 3 < (t105.length : Int) then (some (((rd_T29 t105 3).f0) == 6 && (((rd_T29 t105 3).f1) == 16))) else (none)) else (some false)) else (none)) else (some false)) else (none)) else (some false))
theorem crossbucklaw03_awake.mono : ∀ k, LeO (crossbucklaw03_awake.f k ) (crossbucklaw03_awake.f (k + 1) ) := by
  intro  k
  unfold crossbucklaw03_awake.f
  repeat' first
      | (with_reducible exact cidr_Blocks.mono _ _ _)
      | (with_reducible exact LeO.refl _)
      | (with_reducible exact LeO.none _)
      | (with_reducible refine LeO.ite ?_ ?_)
      | (with_reducible refine LeO.bind ?_ (fun _ => ?_))
      | exact cidr_Blocks.mono _ _ _
      | exact LeO.none _
      | refine LeO.ite ?_ ?_
      | refine LeO.bind ?_ (fun _ => ?_)
set_option maxHeartbeats 8000000 in
set_option maxRecDepth 100000 in
theorem crossbucklaw03_awake.calls (k : Nat)  (r : Bool) (w : World) (h : crossbucklaw03_awake.f k  = some r) :
    Calls Try.prog 13 #[] w fun e w' => e = .returned (.bool r) ∧ Below w.heap.size w w' := by
  have hu24 := Try.underlying24
  have hu29 := Try.underlying29
  have HB := Aside0.mk (Below.refl w.heap.size w)
  have H : ((cidr_Blocks.f k 1 6).bind fun t105 => (if (t105.length : Int) = 4 then (if 0 < (t105.length : Int) then (if (((rd_T29 t105 0).f0) == 1 && (((rd_T29 t105 0).f1) == 16)) = true then (if 1 < (t105.length : Int) then (if (((rd_T29 t105 1).f0) == 2 && (((rd_T29 t105 1).f1) == 15)) = true then (if 3 < (t105.length : Int) then (some (((rd_T29 t105 3).f0) == 6 && (((rd_T29 t105 3).f1) == 16))) else (none)) else (some false)) else (none)) else (some false)) else (none)) else (some false))) = some r := h
  clear h
  replace H := Option.bind_eq_some_iff.mp H
  obtain ⟨t105, A10, H⟩ := H
  replace H : (if (t105.length : Int) = 4 then (if 0 < (t105.length : Int) then (if (((rd_T29 t105 0).f0) == 1 && (((rd_T29 t105 0).f1) == 16)) = true then (if 1 < (t105.length : Int) then (if (((rd_T29 t105 1).f0) == 2 && (((rd_T29 t105 1).f1) == 15)) = true then (if 3 < (t105.length : Int) then (some (((rd_T29 t105 3).f0) == 6 && (((rd_T29 t105 3).f1) == 16))) else (none)) else (some false)) else (none)) else (some false)) else (none)) else (some false)) = some r := H
  have A1 := Aside0.mk A10
  clear A10
  by_cases c2 : (t105.length : Int) = 4
  · rw [if_pos c2] at H
    have c2b0 : ((t105.length : Int) == 4) = true := beq_iff_eq.mpr c2
    have c2b1 : ((t105.length : Int) != 4) = false := bne_eq_false_iff_eq.mpr c2
    clear c2
    by_cases c3 : 0 < (t105.length : Int)
    · rw [if_pos c3] at H
      have c3b0 : decide (0 < (t105.length : Int)) = true := decide_eq_true c3
      have c3b1 : decide (0 < t105.length) = true := decide_eq_true (by omega)
      clear c3
      by_cases c4 : (((rd_T29 t105 0).f0) == 1 && (((rd_T29 t105 0).f1) == 16)) = true
      · rw [if_pos c4] at H
        have c4b0 : (((rd_T29 t105 0).f0) == 1 && (((rd_T29 t105 0).f1) == 16)) = true := c4
        (try (have c4b1 : decide (((rd_T29 t105 0).f0) = 1 && (((rd_T29 t105 0).f1) == 16)) = true := by simpa using c4))
        (try (have c4b2 : (((rd_T29 t105 0).f0) == 1 && (((rd_T29 t105 0).f1) == 16)) = true := by simpa using c4))
        clear c4
        by_cases c5 : 1 < (t105.length : Int)
        · rw [if_pos c5] at H
          have c5b0 : decide (1 < (t105.length : Int)) = true := decide_eq_true c5
          have c5b1 : decide (1 < t105.length) = true := decide_eq_true (by omega)
          clear c5
          by_cases c6 : (((rd_T29 t105 1).f0) == 2 && (((rd_T29 t105 1).f1) == 15)) = true
          · rw [if_pos c6] at H
            have c6b0 : (((rd_T29 t105 1).f0) == 2 && (((rd_T29 t105 1).f1) == 15)) = true := c6
            (try (have c6b1 : decide (((rd_T29 t105 1).f0) = 2 && (((rd_T29 t105 1).f1) == 15)) = true := by simpa using c6))
            (try (have c6b2 : (((rd_T29 t105 1).f0) == 2 && (((rd_T29 t105 1).f1) == 15)) = true := by simpa using c6))
            clear c6
            by_cases c7 : 3 < (t105.length : Int)
            · rw [if_pos c7] at H
              have c7b0 : decide (3 < (t105.length : Int)) = true := decide_eq_true c7
              have c7b1 : decide (3 < t105.length) = true := decide_eq_true (by omega)
              clear c7
              obtain rfl := Option.some.inj H
              go_enter Try.func13, Try.ntmps13
              go_wp2_with (first | ((with_reducible refine gate_callee (f := 11) rfl ?_); refine goesL_ (some 3) rfl rfl Try.func11 (by kernel_rfl) rfl #[.agg #[.int .u16 1, .int .u16 6]] rfl (by (try simp only [List.map_toArray, List.map_cons, List.map_nil]); first | done | rfl | (simp only [List.length_drop, List.length_take]; rfl)) ?_; (with_reducible refine (cidr_Blocks.calls k 1 6 t105 _ A1.out).mono ?_); rintro e w8 ⟨v106, rfl, ho0, hb⟩; refine ⟨_, rfl, ?_⟩; have n0_ := Aside0.mk (Kd.R_lower ho0 (below_size (by repeat (first | (with_reducible first | exact HB.out | apply below_alloc | apply pw_below_drewN | apply below_drew1) | exact HB.out)))); have n1_ := Aside0.mk (below_step (by repeat (first | (with_reducible first | exact HB.out | apply below_alloc | apply pw_below_drewN | apply below_drew1) | exact HB.out)) hb); clear HB; have HO107 := n0_; have HB := n1_; clear n0_ n1_; (try clear hb); (try clear hb2); (try clear hk); (try clear hi); (try clear ho0); obtain ⟨Ao9, co9, eo9⟩ := Kd.R_slice HO107.out; subst eo9; have p108 : 0 ≤ (0 : Int) := (by omega); have q108 : 0 < (t105.length : Int) := of_decide_eq_true (by first | (with_reducible assumption) | assumption); obtain ⟨ad108, e108, hx108_0, hx108_1⟩ := at_T29 (Kd.R_reads' HO107.out).2.2 0 p108 q108; cases e108; have qi108 : (0 < t105.length) = True := eq_true (by omega); (try rw [show ((0 : Int)).toNat = 0 from rfl] at hx108_0); (try rw [show 0 * 2 = 0 from rfl] at hx108_0); (try rw [Addr.add_zero'] at hx108_0); (try rw [show ((0 : Int)).toNat = 0 from rfl] at hx108_1); (try rw [show 0 * 2 = 0 from rfl] at hx108_1); (try rw [Addr.add_zero'] at hx108_1); replace p108 := eq_true p108; replace q108 := eq_true q108; have p109 : 0 ≤ (1 : Int) := (by omega); have q109 : 1 < (t105.length : Int) := of_decide_eq_true (by first | (with_reducible assumption) | assumption); obtain ⟨ad109, e109, hx109_0, hx109_1⟩ := at_T29 (Kd.R_reads' HO107.out).2.2 1 p109 q109; obtain rfl : ad108 = ad109 := (by injection e109); (try simp only [show (1 : Int).toNat = 1 from rfl, Nat.reduceMul, Nat.reduceEqDiff, Go.Addr.add, ↓reduceIte] at hx109_0); (try simp only [show (1 : Int).toNat = 1 from rfl, Nat.reduceMul, Nat.reduceEqDiff, Go.Addr.add, ↓reduceIte] at hx109_1); have qi109 : (1 < t105.length) = True := eq_true (by omega); (try rw [show ((1 : Int)).toNat = 1 from rfl] at hx109_0); (try rw [show 1 * 2 = 2 from rfl] at hx109_0); (try rw [show ((1 : Int)).toNat = 1 from rfl] at hx109_1); (try rw [show 1 * 2 = 2 from rfl] at hx109_1); replace p109 := eq_true p109; replace q109 := eq_true q109; have p110 : 0 ≤ (3 : Int) := (by omega); have q110 : 3 < (t105.length : Int) := of_decide_eq_true (by first | (with_reducible assumption) | assumption); obtain ⟨ad110, e110, hx110_0, hx110_1⟩ := at_T29 (Kd.R_reads' HO107.out).2.2 3 p110 q110; obtain rfl : ad108 = ad110 := (by injection e110); (try simp only [show (3 : Int).toNat = 3 from rfl, Nat.reduceMul, Nat.reduceEqDiff, Go.Addr.add, ↓reduceIte] at hx110_0); (try simp only [show (3 : Int).toNat = 3 from rfl, Nat.reduceMul, Nat.reduceEqDiff, Go.Addr.add, ↓reduceIte] at hx110_1); have qi110 : (3 < t105.length) = True := eq_true (by omega); (try rw [show ((3 : Int)).toNat = 3 from rfl] at hx110_0); (try rw [show 3 * 2 = 6 from rfl] at hx110_0); (try rw [show ((3 : Int)).toNat = 3 from rfl] at hx110_1); (try rw [show 3 * 2 = 6 from rfl] at hx110_1); replace p110 := eq_true p110; replace q110 := eq_true q110))
              go_ret
              exact ⟨by first | rfl | (simp [errW_none, errW_some] <;> rfl) | (simp [*, errW_none, errW_some] <;> rfl), by repeat (first | (with_reducible first | exact HB.out | apply below_alloc | apply pw_below_drewN | apply below_drew1) | exact HB.out)⟩
            · rw [if_neg c7] at H
              exact absurd H (by simp)
          · rw [if_neg c6] at H
            have c6b0 : (((rd_T29 t105 1).f0) == 2 && (((rd_T29 t105 1).f1) == 15)) = false := by simpa using c6
            (try (have c6b1 : decide (((rd_T29 t105 1).f0) = 2 && (((rd_T29 t105 1).f1) == 15)) = false := by simpa using c6))
            (try (have c6b2 : (((rd_T29 t105 1).f0) == 2 && (((rd_T29 t105 1).f1) == 15)) = false := by simpa using c6))
            (try (have c6b3 : ¬ (((rd_T29 t105 1).f0) = 2 && (((rd_T29 t105 1).f1) == 15)) := by simpa using c6))
            clear c6
            obtain rfl := Option.some.inj H
            go_enter Try.func13, Try.ntmps13
            go_wp2_with (first | ((with_reducible refine gate_callee (f := 11) rfl ?_); refine goesL_ (some 3) rfl rfl Try.func11 (by kernel_rfl) rfl #[.agg #[.int .u16 1, .int .u16 6]] rfl (by (try simp only [List.map_toArray, List.map_cons, List.map_nil]); first | done | rfl | (simp only [List.length_drop, List.length_take]; rfl)) ?_; (with_reducible refine (cidr_Blocks.calls k 1 6 t105 _ A1.out).mono ?_); rintro e w10 ⟨v106, rfl, ho0, hb⟩; refine ⟨_, rfl, ?_⟩; have n0_ := Aside0.mk (Kd.R_lower ho0 (below_size (by repeat (first | (with_reducible first | exact HB.out | apply below_alloc | apply pw_below_drewN | apply below_drew1) | exact HB.out)))); have n1_ := Aside0.mk (below_step (by repeat (first | (with_reducible first | exact HB.out | apply below_alloc | apply pw_below_drewN | apply below_drew1) | exact HB.out)) hb); clear HB; have HO107 := n0_; have HB := n1_; clear n0_ n1_; (try clear hb); (try clear hb2); (try clear hk); (try clear hi); (try clear ho0); obtain ⟨Ao11, co11, eo11⟩ := Kd.R_slice HO107.out; subst eo11; have p108 : 0 ≤ (0 : Int) := (by omega); have q108 : 0 < (t105.length : Int) := of_decide_eq_true (by first | (with_reducible assumption) | assumption); obtain ⟨ad108, e108, hx108_0, hx108_1⟩ := at_T29 (Kd.R_reads' HO107.out).2.2 0 p108 q108; cases e108; have qi108 : (0 < t105.length) = True := eq_true (by omega); (try rw [show ((0 : Int)).toNat = 0 from rfl] at hx108_0); (try rw [show 0 * 2 = 0 from rfl] at hx108_0); (try rw [Addr.add_zero'] at hx108_0); (try rw [show ((0 : Int)).toNat = 0 from rfl] at hx108_1); (try rw [show 0 * 2 = 0 from rfl] at hx108_1); (try rw [Addr.add_zero'] at hx108_1); replace p108 := eq_true p108; replace q108 := eq_true q108; have p109 : 0 ≤ (1 : Int) := (by omega); have q109 : 1 < (t105.length : Int) := of_decide_eq_true (by first | (with_reducible assumption) | assumption); obtain ⟨ad109, e109, hx109_0, hx109_1⟩ := at_T29 (Kd.R_reads' HO107.out).2.2 1 p109 q109; obtain rfl : ad108 = ad109 := (by injection e109); (try simp only [show (1 : Int).toNat = 1 from rfl, Nat.reduceMul, Nat.reduceEqDiff, Go.Addr.add, ↓reduceIte] at hx109_0); (try simp only [show (1 : Int).toNat = 1 from rfl, Nat.reduceMul, Nat.reduceEqDiff, Go.Addr.add, ↓reduceIte] at hx109_1); have qi109 : (1 < t105.length) = True := eq_true (by omega); (try rw [show ((1 : Int)).toNat = 1 from rfl] at hx109_0); (try rw [show 1 * 2 = 2 from rfl] at hx109_0); (try rw [show ((1 : Int)).toNat = 1 from rfl] at hx109_1); (try rw [show 1 * 2 = 2 from rfl] at hx109_1); replace p109 := eq_true p109; replace q109 := eq_true q109))
            go_ret
            exact ⟨by first | rfl | (simp [errW_none, errW_some] <;> rfl) | (simp [*, errW_none, errW_some] <;> rfl), by repeat (first | (with_reducible first | exact HB.out | apply below_alloc | apply pw_below_drewN | apply below_drew1) | exact HB.out)⟩
        · rw [if_neg c5] at H
          exact absurd H (by simp)
      · rw [if_neg c4] at H
        have c4b0 : (((rd_T29 t105 0).f0) == 1 && (((rd_T29 t105 0).f1) == 16)) = false := by simpa using c4
        (try (have c4b1 : decide (((rd_T29 t105 0).f0) = 1 && (((rd_T29 t105 0).f1) == 16)) = false := by simpa using c4))
        (try (have c4b2 : (((rd_T29 t105 0).f0) == 1 && (((rd_T29 t105 0).f1) == 16)) = false := by simpa using c4))
        (try (have c4b3 : ¬ (((rd_T29 t105 0).f0) = 1 && (((rd_T29 t105 0).f1) == 16)) := by simpa using c4))
        clear c4
        obtain rfl := Option.some.inj H
        go_enter Try.func13, Try.ntmps13
        go_wp2_with (first | ((with_reducible refine gate_callee (f := 11) rfl ?_); refine goesL_ (some 3) rfl rfl Try.func11 (by kernel_rfl) rfl #[.agg #[.int .u16 1, .int .u16 6]] rfl (by (try simp only [List.map_toArray, List.map_cons, List.map_nil]); first | done | rfl | (simp only [List.length_drop, List.length_take]; rfl)) ?_; (with_reducible refine (cidr_Blocks.calls k 1 6 t105 _ A1.out).mono ?_); rintro e w12 ⟨v106, rfl, ho0, hb⟩; refine ⟨_, rfl, ?_⟩; have n0_ := Aside0.mk (Kd.R_lower ho0 (below_size (by repeat (first | (with_reducible first | exact HB.out | apply below_alloc | apply pw_below_drewN | apply below_drew1) | exact HB.out)))); have n1_ := Aside0.mk (below_step (by repeat (first | (with_reducible first | exact HB.out | apply below_alloc | apply pw_below_drewN | apply below_drew1) | exact HB.out)) hb); clear HB; have HO107 := n0_; have HB := n1_; clear n0_ n1_; (try clear hb); (try clear hb2); (try clear hk); (try clear hi); (try clear ho0); obtain ⟨Ao13, co13, eo13⟩ := Kd.R_slice HO107.out; subst eo13; have p108 : 0 ≤ (0 : Int) := (by omega); have q108 : 0 < (t105.length : Int) := of_decide_eq_true (by first | (with_reducible assumption) | assumption); obtain ⟨ad108, e108, hx108_0, hx108_1⟩ := at_T29 (Kd.R_reads' HO107.out).2.2 0 p108 q108; cases e108; have qi108 : (0 < t105.length) = True := eq_true (by omega); (try rw [show ((0 : Int)).toNat = 0 from rfl] at hx108_0); (try rw [show 0 * 2 = 0 from rfl] at hx108_0); (try rw [Addr.add_zero'] at hx108_0); (try rw [show ((0 : Int)).toNat = 0 from rfl] at hx108_1); (try rw [show 0 * 2 = 0 from rfl] at hx108_1); (try rw [Addr.add_zero'] at hx108_1); replace p108 := eq_true p108; replace q108 := eq_true q108))
        go_ret
        exact ⟨by first | rfl | (simp [errW_none, errW_some] <;> rfl) | (simp [*, errW_none, errW_some] <;> rfl), by repeat (first | (with_reducible first | exact HB.out | apply below_alloc | apply pw_below_drewN | apply below_drew1) | exact HB.out)⟩
    · rw [if_neg c3] at H
      exact absurd H (by simp)
  · rw [if_neg c2] at H
    have c2b0 : ((t105.length : Int) == 4) = false := beq_eq_false_iff_ne.mpr c2
    have c2b1 : ((t105.length : Int) != 4) = true := bne_iff_ne.mpr c2
    obtain rfl := Option.some.inj H
    go_enter Try.func13, Try.ntmps13
    go_wp2_with (first | ((with_reducible refine gate_callee (f := 11) rfl ?_); refine goesL_ (some 3) rfl rfl Try.func11 (by kernel_rfl) rfl #[.agg #[.int .u16 1, .int .u16 6]] rfl (by (try simp only [List.map_toArray, List.map_cons, List.map_nil]); first | done | rfl | (simp only [List.length_drop, List.length_take]; rfl)) ?_; (with_reducible refine (cidr_Blocks.calls k 1 6 t105 _ A1.out).mono ?_); rintro e w14 ⟨v106, rfl, ho0, hb⟩; refine ⟨_, rfl, ?_⟩; have n0_ := Aside0.mk (Kd.R_lower ho0 (below_size (by repeat (first | (with_reducible first | exact HB.out | apply below_alloc | apply pw_below_drewN | apply below_drew1) | exact HB.out)))); have n1_ := Aside0.mk (below_step (by repeat (first | (with_reducible first | exact HB.out | apply below_alloc | apply pw_below_drewN | apply below_drew1) | exact HB.out)) hb); clear HB; have HO107 := n0_; have HB := n1_; clear n0_ n1_; (try clear hb); (try clear hb2); (try clear hk); (try clear hi); (try clear ho0); obtain ⟨Ao15, co15, eo15⟩ := Kd.R_slice HO107.out; subst eo15))
    go_ret
    exact ⟨by first | rfl | (simp [errW_none, errW_some] <;> rfl) | (simp [*, errW_none, errW_some] <;> rfl), by repeat (first | (with_reducible first | exact HB.out | apply below_alloc | apply pw_below_drewN | apply below_drew1) | exact HB.out)⟩

end Go.Proofs.Ytbnjbjjbfbbdcaa.PCH
