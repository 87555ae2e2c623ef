-- Written by wip/myprint.py and wip/merge.py (this session's own programs); Lean checks it.
import Derived.Test.YtloclimoffhbhaaDoorPTxtx0
import Derived.Test.YtloclimoffhbhaaDoorPTxtx4
import Derived.Test.YtloclimoffhbhaaDoorPTxtx2
import Derived.Test.YtloclimoffhbhaaDoorPTxtx1
namespace Go.Proofs.YtloclimoffhbhaaDoor.PTxt
open Go.RowKit Go.Proofs.YtloclimoffhbhaaDoorW.PrintWords Go.Proofs.YtloclimoffhbhaaDoorW.PrintLast Go.Proofs.YtloclimoffhbhaaDoorW.PrintMore
attribute [local go_sem] max2_int min2_int max_two min_two max_three min_three max_four min_four   -- for this text's walks alone
set_option linter.unusedVariables false
set_option linter.unusedSimpArgs false

/-! ### crossbuckref02_Addr: function 55 -/
def crossbuckref02_Addr.f (k : Nat) (a0 : Int) : Option (ByteArray) := (crossbuckref02_Digits.f k ((Int.tdiv a0 16777216) % 4294967296)).bind fun t293 => (if t293.size + 1 ≤ 9223372036854775807 then ((crossbuckref02_Digits.f k ((Int.tdiv a0 65536) % 256)).bind fun t294 => (if (t293 ++ (⟨#[46]⟩ : ByteArray)).size + t294.size ≤ 9223372036854775807 then (if ((t293 ++ (⟨#[46]⟩ : ByteArray)) ++ t294).size + 1 ≤ 9223372036854775807 then ((crossbuckref02_Digits.f k ((Int.tdiv a0 256) % 256)).bind fun t295 => (if (((t293 ++ (⟨#[46]⟩ : ByteArray)) ++ t294) ++ (⟨#[46]⟩ : ByteArray)).size + t295.size ≤ 9223372036854775807 then (if ((((t293 ++ (⟨#[46]⟩ : ByteArray)) ++ t294) ++ (⟨#[46]⟩ : ByteArray)) ++ t295).size + 1 ≤ 9223372036854775807 then ((crossbuckref02_Digits.f k (wrap64 (Int.tmod a0 256))).bind fun t296 => (if (((((t293 ++ (⟨#[46]⟩ : ByteArray)) ++ t294) ++ (⟨#[46]⟩ : ByteArray)) ++ t295) ++ (⟨#[46]⟩ : ByteArray)).size + t296.size ≤ 9223372036854775807 then (some ((((((t293 ++ (⟨#[46]⟩ : ByteArray)) ++ t294) ++ (⟨#[46]⟩ : ByteArray)) ++ t295) ++ (⟨#[46]⟩ : ByteArray)) ++ t296)) else (none))) else (none)) else (none))) else (none)) else (none))) else (none))
theorem crossbuckref02_Addr.mono : ∀ a0 k, LeO (crossbuckref02_Addr.f k a0) (crossbuckref02_Addr.f (k + 1) a0) := by
  intro a0 k
  unfold crossbuckref02_Addr.f
  repeat' first
      | (with_reducible exact crossbuckref02_Digits.mono _ _)
      | (with_reducible exact LeO.refl _)
      | (with_reducible exact LeO.none _)
      | (with_reducible refine LeO.ite ?_ ?_)
      | (with_reducible refine LeO.bind ?_ (fun _ => ?_))
      | exact crossbuckref02_Digits.mono _ _
      | exact LeO.none _
      | refine LeO.ite ?_ ?_
      | refine LeO.bind ?_ (fun _ => ?_)
set_option maxHeartbeats 8000000 in
set_option maxRecDepth 100000 in
theorem crossbuckref02_Addr.calls (k : Nat) (a0 : Int) (r : ByteArray) (w : World) (h : crossbuckref02_Addr.f k a0 = some r) :
    Calls Tryd.prog 55 #[.int .u32 a0] w fun e w' => e = .returned (.string r) ∧ Below w.heap.size w w' := by
  have HB := Aside0.mk (Below.refl w.heap.size w)
  have H : ((crossbuckref02_Digits.f k ((Int.tdiv a0 16777216) % 4294967296)).bind fun t293 => (if t293.size + 1 ≤ 9223372036854775807 then ((crossbuckref02_Digits.f k ((Int.tdiv a0 65536) % 256)).bind fun t294 => (if (t293 ++ (⟨#[46]⟩ : ByteArray)).size + t294.size ≤ 9223372036854775807 then (if ((t293 ++ (⟨#[46]⟩ : ByteArray)) ++ t294).size + 1 ≤ 9223372036854775807 then ((crossbuckref02_Digits.f k ((Int.tdiv a0 256) % 256)).bind fun t295 => (if (((t293 ++ (⟨#[46]⟩ : ByteArray)) ++ t294) ++ (⟨#[46]⟩ : ByteArray)).size + t295.size ≤ 9223372036854775807 then (if ((((t293 ++ (⟨#[46]⟩ : ByteArray)) ++ t294) ++ (⟨#[46]⟩ : ByteArray)) ++ t295).size + 1 ≤ 9223372036854775807 then ((crossbuckref02_Digits.f k (wrap64 (Int.tmod a0 256))).bind fun t296 => (if (((((t293 ++ (⟨#[46]⟩ : ByteArray)) ++ t294) ++ (⟨#[46]⟩ : ByteArray)) ++ t295) ++ (⟨#[46]⟩ : ByteArray)).size + t296.size ≤ 9223372036854775807 then (some ((((((t293 ++ (⟨#[46]⟩ : ByteArray)) ++ t294) ++ (⟨#[46]⟩ : ByteArray)) ++ t295) ++ (⟨#[46]⟩ : ByteArray)) ++ t296)) else (none))) else (none)) else (none))) else (none)) else (none))) else (none))) = some r := h
  clear h
  replace H := Option.bind_eq_some_iff.mp H
  obtain ⟨t293, A20, H⟩ := H
  replace H : (if t293.size + 1 ≤ 9223372036854775807 then ((crossbuckref02_Digits.f k ((Int.tdiv a0 65536) % 256)).bind fun t294 => (if (t293 ++ (⟨#[46]⟩ : ByteArray)).size + t294.size ≤ 9223372036854775807 then (if ((t293 ++ (⟨#[46]⟩ : ByteArray)) ++ t294).size + 1 ≤ 9223372036854775807 then ((crossbuckref02_Digits.f k ((Int.tdiv a0 256) % 256)).bind fun t295 => (if (((t293 ++ (⟨#[46]⟩ : ByteArray)) ++ t294) ++ (⟨#[46]⟩ : ByteArray)).size + t295.size ≤ 9223372036854775807 then (if ((((t293 ++ (⟨#[46]⟩ : ByteArray)) ++ t294) ++ (⟨#[46]⟩ : ByteArray)) ++ t295).size + 1 ≤ 9223372036854775807 then ((crossbuckref02_Digits.f k (wrap64 (Int.tmod a0 256))).bind fun t296 => (if (((((t293 ++ (⟨#[46]⟩ : ByteArray)) ++ t294) ++ (⟨#[46]⟩ : ByteArray)) ++ t295) ++ (⟨#[46]⟩ : ByteArray)).size + t296.size ≤ 9223372036854775807 then (some ((((((t293 ++ (⟨#[46]⟩ : ByteArray)) ++ t294) ++ (⟨#[46]⟩ : ByteArray)) ++ t295) ++ (⟨#[46]⟩ : ByteArray)) ++ t296)) else (none))) else (none)) else (none))) else (none)) else (none))) else (none)) = some r := H
  have A2 := Aside0.mk A20
  clear A20
  by_cases c3 : t293.size + 1 ≤ 9223372036854775807
  · rw [if_pos c3] at H
    have c3b0 := eq_true c3
    have c3b1 : decide (t293.size + 1 ≤ 9223372036854775807) = true := decide_eq_true c3
    try have c3b2 : (9223372036854775807 < t293.size + 1) = False := eq_false (Nat.not_lt.2 c3)
    replace H := Option.bind_eq_some_iff.mp H
    obtain ⟨t294, A40, H⟩ := H
    replace H : (if (t293 ++ (⟨#[46]⟩ : ByteArray)).size + t294.size ≤ 9223372036854775807 then (if ((t293 ++ (⟨#[46]⟩ : ByteArray)) ++ t294).size + 1 ≤ 9223372036854775807 then ((crossbuckref02_Digits.f k ((Int.tdiv a0 256) % 256)).bind fun t295 => (if (((t293 ++ (⟨#[46]⟩ : ByteArray)) ++ t294) ++ (⟨#[46]⟩ : ByteArray)).size + t295.size ≤ 9223372036854775807 then (if ((((t293 ++ (⟨#[46]⟩ : ByteArray)) ++ t294) ++ (⟨#[46]⟩ : ByteArray)) ++ t295).size + 1 ≤ 9223372036854775807 then ((crossbuckref02_Digits.f k (wrap64 (Int.tmod a0 256))).bind fun t296 => (if (((((t293 ++ (⟨#[46]⟩ : ByteArray)) ++ t294) ++ (⟨#[46]⟩ : ByteArray)) ++ t295) ++ (⟨#[46]⟩ : ByteArray)).size + t296.size ≤ 9223372036854775807 then (some ((((((t293 ++ (⟨#[46]⟩ : ByteArray)) ++ t294) ++ (⟨#[46]⟩ : ByteArray)) ++ t295) ++ (⟨#[46]⟩ : ByteArray)) ++ t296)) else (none))) else (none)) else (none))) else (none)) else (none)) = some r := H
    have A4 := Aside0.mk A40
    clear A40
    by_cases c5 : (t293 ++ (⟨#[46]⟩ : ByteArray)).size + t294.size ≤ 9223372036854775807
    · rw [if_pos c5] at H
      have c5b0 := eq_true c5
      have c5b1 : decide ((t293 ++ (⟨#[46]⟩ : ByteArray)).size + t294.size ≤ 9223372036854775807) = true := decide_eq_true c5
      try have c5b2 : (9223372036854775807 < (t293 ++ (⟨#[46]⟩ : ByteArray)).size + t294.size) = False := eq_false (Nat.not_lt.2 c5)
      try have c5b3 := c5b2
      try simp only [ByteArray.size_append, Hand.lit_size, List.length_cons, List.length_nil, Nat.zero_add, Nat.reduceAdd] at c5b3
      by_cases c6 : ((t293 ++ (⟨#[46]⟩ : ByteArray)) ++ t294).size + 1 ≤ 9223372036854775807
      · rw [if_pos c6] at H
        have c6b0 := eq_true c6
        have c6b1 : decide (((t293 ++ (⟨#[46]⟩ : ByteArray)) ++ t294).size + 1 ≤ 9223372036854775807) = true := decide_eq_true c6
        try have c6b2 : (9223372036854775807 < ((t293 ++ (⟨#[46]⟩ : ByteArray)) ++ t294).size + 1) = False := eq_false (Nat.not_lt.2 c6)
        try have c6b3 := c6b2
        try simp only [ByteArray.size_append, Hand.lit_size, List.length_cons, List.length_nil, Nat.zero_add, Nat.reduceAdd] at c6b3
        replace H := Option.bind_eq_some_iff.mp H
        obtain ⟨t295, A70, H⟩ := H
        replace H : (if (((t293 ++ (⟨#[46]⟩ : ByteArray)) ++ t294) ++ (⟨#[46]⟩ : ByteArray)).size + t295.size ≤ 9223372036854775807 then (if ((((t293 ++ (⟨#[46]⟩ : ByteArray)) ++ t294) ++ (⟨#[46]⟩ : ByteArray)) ++ t295).size + 1 ≤ 9223372036854775807 then ((crossbuckref02_Digits.f k (wrap64 (Int.tmod a0 256))).bind fun t296 => (if (((((t293 ++ (⟨#[46]⟩ : ByteArray)) ++ t294) ++ (⟨#[46]⟩ : ByteArray)) ++ t295) ++ (⟨#[46]⟩ : ByteArray)).size + t296.size ≤ 9223372036854775807 then (some ((((((t293 ++ (⟨#[46]⟩ : ByteArray)) ++ t294) ++ (⟨#[46]⟩ : ByteArray)) ++ t295) ++ (⟨#[46]⟩ : ByteArray)) ++ t296)) else (none))) else (none)) else (none)) = some r := H
        have A7 := Aside0.mk A70
        clear A70
        by_cases c8 : (((t293 ++ (⟨#[46]⟩ : ByteArray)) ++ t294) ++ (⟨#[46]⟩ : ByteArray)).size + t295.size ≤ 9223372036854775807
        · rw [if_pos c8] at H
          have c8b0 := eq_true c8
          have c8b1 : decide ((((t293 ++ (⟨#[46]⟩ : ByteArray)) ++ t294) ++ (⟨#[46]⟩ : ByteArray)).size + t295.size ≤ 9223372036854775807) = true := decide_eq_true c8
          try have c8b2 : (9223372036854775807 < (((t293 ++ (⟨#[46]⟩ : ByteArray)) ++ t294) ++ (⟨#[46]⟩ : ByteArray)).size + t295.size) = False := eq_false (Nat.not_lt.2 c8)
          try have c8b3 := c8b2
          try simp only [ByteArray.size_append, Hand.lit_size, List.length_cons, List.length_nil, Nat.zero_add, Nat.reduceAdd] at c8b3
          by_cases c9 : ((((t293 ++ (⟨#[46]⟩ : ByteArray)) ++ t294) ++ (⟨#[46]⟩ : ByteArray)) ++ t295).size + 1 ≤ 9223372036854775807
          · rw [if_pos c9] at H
            have c9b0 := eq_true c9
            have c9b1 : decide (((((t293 ++ (⟨#[46]⟩ : ByteArray)) ++ t294) ++ (⟨#[46]⟩ : ByteArray)) ++ t295).size + 1 ≤ 9223372036854775807) = true := decide_eq_true c9
            try have c9b2 : (9223372036854775807 < ((((t293 ++ (⟨#[46]⟩ : ByteArray)) ++ t294) ++ (⟨#[46]⟩ : ByteArray)) ++ t295).size + 1) = False := eq_false (Nat.not_lt.2 c9)
            try have c9b3 := c9b2
            try simp only [ByteArray.size_append, Hand.lit_size, List.length_cons, List.length_nil, Nat.zero_add, Nat.reduceAdd] at c9b3
            replace H := Option.bind_eq_some_iff.mp H
            obtain ⟨t296, A100, H⟩ := H
            replace H : (if (((((t293 ++ (⟨#[46]⟩ : ByteArray)) ++ t294) ++ (⟨#[46]⟩ : ByteArray)) ++ t295) ++ (⟨#[46]⟩ : ByteArray)).size + t296.size ≤ 9223372036854775807 then (some ((((((t293 ++ (⟨#[46]⟩ : ByteArray)) ++ t294) ++ (⟨#[46]⟩ : ByteArray)) ++ t295) ++ (⟨#[46]⟩ : ByteArray)) ++ t296)) else (none)) = some r := H
            have A10 := Aside0.mk A100
            clear A100
            by_cases c11 : (((((t293 ++ (⟨#[46]⟩ : ByteArray)) ++ t294) ++ (⟨#[46]⟩ : ByteArray)) ++ t295) ++ (⟨#[46]⟩ : ByteArray)).size + t296.size ≤ 9223372036854775807
            · rw [if_pos c11] at H
              have c11b0 := eq_true c11
              have c11b1 : decide ((((((t293 ++ (⟨#[46]⟩ : ByteArray)) ++ t294) ++ (⟨#[46]⟩ : ByteArray)) ++ t295) ++ (⟨#[46]⟩ : ByteArray)).size + t296.size ≤ 9223372036854775807) = true := decide_eq_true c11
              try have c11b2 : (9223372036854775807 < (((((t293 ++ (⟨#[46]⟩ : ByteArray)) ++ t294) ++ (⟨#[46]⟩ : ByteArray)) ++ t295) ++ (⟨#[46]⟩ : ByteArray)).size + t296.size) = False := eq_false (Nat.not_lt.2 c11)
              try have c11b3 := c11b2
              try simp only [ByteArray.size_append, Hand.lit_size, List.length_cons, List.length_nil, Nat.zero_add, Nat.reduceAdd] at c11b3
              obtain rfl := Option.some.inj H
              go_enter Tryd.func55, Tryd.ntmps55
              go_wp2_with (first | ((with_reducible refine gate_callee (f := 99) rfl ?_); refine goesL_ (some 6) rfl rfl Tryd.func99 (by kernel_rfl) rfl #[.int .i64 ((Int.tdiv a0 16777216) % 4294967296)] rfl (by (try simp only [List.map_toArray, List.map_cons, List.map_nil]); first | done | rfl | (simp only [List.length_drop, List.length_take]; rfl)) ?_; (with_reducible refine (crossbuckref02_Digits.calls k ((Int.tdiv a0 16777216) % 4294967296) t293 _ A2.out).mono ?_); rintro e w12 ⟨rfl, hb⟩; refine ⟨_, rfl, ?_⟩; have n0_ := Aside0.mk (below_step (by repeat (first | (with_reducible first | exact HB.out | apply below_alloc | apply pw_below_drewN | apply below_drew1) | exact HB.out)) hb); clear HB; have HB := n0_; clear n0_; (try clear hb); (try clear hb2); (try clear hk); (try clear hi)) | ((with_reducible refine gate_callee (f := 99) rfl ?_); refine goesL_ (some 12) rfl rfl Tryd.func99 (by kernel_rfl) rfl #[.int .i64 ((Int.tdiv a0 65536) % 256)] rfl (by (try simp only [List.map_toArray, List.map_cons, List.map_nil]); first | done | rfl | (simp only [List.length_drop, List.length_take]; rfl)) ?_; (with_reducible refine (crossbuckref02_Digits.calls k ((Int.tdiv a0 65536) % 256) t294 _ A4.out).mono ?_); rintro e w13 ⟨rfl, hb⟩; refine ⟨_, rfl, ?_⟩; have n0_ := Aside0.mk (below_step (by repeat (first | (with_reducible first | exact HB.out | apply below_alloc | apply pw_below_drewN | apply below_drew1) | exact HB.out)) hb); clear HB; have HB := n0_; clear n0_; (try clear hb); (try clear hb2); (try clear hk); (try clear hi)) | ((with_reducible refine gate_callee (f := 99) rfl ?_); refine goesL_ (some 19) rfl rfl Tryd.func99 (by kernel_rfl) rfl #[.int .i64 ((Int.tdiv a0 256) % 256)] rfl (by (try simp only [List.map_toArray, List.map_cons, List.map_nil]); first | done | rfl | (simp only [List.length_drop, List.length_take]; rfl)) ?_; (with_reducible refine (crossbuckref02_Digits.calls k ((Int.tdiv a0 256) % 256) t295 _ A7.out).mono ?_); rintro e w14 ⟨rfl, hb⟩; refine ⟨_, rfl, ?_⟩; have n0_ := Aside0.mk (below_step (by repeat (first | (with_reducible first | exact HB.out | apply below_alloc | apply pw_below_drewN | apply below_drew1) | exact HB.out)) hb); clear HB; have HB := n0_; clear n0_; (try clear hb); (try clear hb2); (try clear hk); (try clear hi)) | ((with_reducible refine gate_callee (f := 99) rfl ?_); refine goesL_ (some 25) rfl rfl Tryd.func99 (by kernel_rfl) rfl #[.int .i64 (wrap64 (Int.tmod a0 256))] rfl (by (try simp only [List.map_toArray, List.map_cons, List.map_nil]); first | done | rfl | (simp only [List.length_drop, List.length_take]; rfl)) ?_; (with_reducible refine (crossbuckref02_Digits.calls k (wrap64 (Int.tmod a0 256)) t296 _ A10.out).mono ?_); rintro e w15 ⟨rfl, hb⟩; refine ⟨_, rfl, ?_⟩; have n0_ := Aside0.mk (below_step (by repeat (first | (with_reducible first | exact HB.out | apply below_alloc | apply pw_below_drewN | apply below_drew1) | exact HB.out)) hb); clear HB; have HB := n0_; clear n0_; (try clear hb); (try clear hb2); (try clear hk); (try clear hi)))
              go_ret
              exact ⟨by first | rfl | (simp [errW_none, errW_some] <;> rfl) | (simp [*, errW_none, errW_some] <;> rfl), by repeat (first | (with_reducible first | exact HB.out | apply below_alloc | apply pw_below_drewN | apply below_drew1) | exact HB.out)⟩
            · rw [if_neg c11] at H
              exact absurd H (by simp)
          · rw [if_neg c9] at H
            exact absurd H (by simp)
        · rw [if_neg c8] at H
          exact absurd H (by simp)
      · rw [if_neg c6] at H
        exact absurd H (by simp)
    · rw [if_neg c5] at H
      exact absurd H (by simp)
  · rw [if_neg c3] at H
    exact absurd H (by simp)

end Go.Proofs.YtloclimoffhbhaaDoor.PTxt

namespace Go.Proofs.YtloclimoffhbhaaDoor.PTxt
open Go.RowKit Go.Proofs.YtloclimoffhbhaaDoorW.PrintWords Go.Proofs.YtloclimoffhbhaaDoorW.PrintLast Go.Proofs.YtloclimoffhbhaaDoorW.PrintMore
attribute [local go_sem] max2_int min2_int max_two min_two max_three min_three max_four min_four   -- for this text's walks alone
set_option linter.unusedVariables false
set_option linter.unusedSimpArgs false

/-! ### crossbuckref03_Print: function 63 -/
def crossbuckref03_Print.f (k : Nat) (a0_0 : Int) (a0_1 : Int) : Option (ByteArray) := (crossbuckref02_Addr.f k a0_0).bind fun t298 => (if t298.size + 1 ≤ 9223372036854775807 then ((crossbuckref02_Digits.f k a0_1).bind fun t299 => (if (t298 ++ (⟨#[47]⟩ : ByteArray)).size + t299.size ≤ 9223372036854775807 then (some ((t298 ++ (⟨#[47]⟩ : ByteArray)) ++ t299)) else (none))) else (none))
theorem crossbuckref03_Print.mono : ∀ a0 a1 k, LeO (crossbuckref03_Print.f k a0 a1) (crossbuckref03_Print.f (k + 1) a0 a1) := by
  intro a0 a1 k
  unfold crossbuckref03_Print.f
  repeat' first
      | (with_reducible exact crossbuckref02_Addr.mono _ _)
      | (with_reducible exact crossbuckref02_Digits.mono _ _)
      | (with_reducible exact LeO.refl _)
      | (with_reducible exact LeO.none _)
      | (with_reducible refine LeO.ite ?_ ?_)
      | (with_reducible refine LeO.bind ?_ (fun _ => ?_))
      | exact crossbuckref02_Addr.mono _ _
      | exact crossbuckref02_Digits.mono _ _
      | exact LeO.none _
      | refine LeO.ite ?_ ?_
      | refine LeO.bind ?_ (fun _ => ?_)
def crossbuckref03_Print.T1 : Bool × List (List Nat × List Nat) := (true, [([], []), ([0], [0]), ([1], [1]), ([2], [2]), ([], []), ([4], [4]), ([5, 2], [5]), ([3, 6], [3, 6]), ([7, 6, 0, 1, 2, 3, 4, 5, 6, 7], [7])])
def crossbuckref03_Print.B1 : List Nat := [0, 1, 3, 7, 0, 16, 55, 127, 255]
theorem crossbuckref03_Print.tab1 : rtab .any (opsOf Tryd.f63 1) = crossbuckref03_Print.T1 := by kernel_rfl
theorem crossbuckref03_Print.bits1 : waitsOk crossbuckref03_Print.T1.2 crossbuckref03_Print.B1 = true := by kernel_rfl
set_option maxHeartbeats 8000000 in
set_option maxRecDepth 100000 in
theorem crossbuckref03_Print.calls (k : Nat) (a0_0 : Int) (a0_1 : Int) (r : ByteArray) (w : World) (h : crossbuckref03_Print.f k a0_0 a0_1 = some r) :
    Calls Tryd.prog 63 #[.agg #[.int .u32 a0_0, .int .i64 a0_1]] w fun e w' => e = .returned (.string r) ∧ Below w.heap.size w w' := by
  have hu42 := Tryd.underlying42
  have HB := Aside0.mk (Below.refl w.heap.size w)
  have H : ((crossbuckref02_Addr.f k a0_0).bind fun t298 => (if t298.size + 1 ≤ 9223372036854775807 then ((crossbuckref02_Digits.f k a0_1).bind fun t299 => (if (t298 ++ (⟨#[47]⟩ : ByteArray)).size + t299.size ≤ 9223372036854775807 then (some ((t298 ++ (⟨#[47]⟩ : ByteArray)) ++ t299)) else (none))) else (none))) = some r := h
  clear h
  replace H := Option.bind_eq_some_iff.mp H
  obtain ⟨t298, A20, H⟩ := H
  replace H : (if t298.size + 1 ≤ 9223372036854775807 then ((crossbuckref02_Digits.f k a0_1).bind fun t299 => (if (t298 ++ (⟨#[47]⟩ : ByteArray)).size + t299.size ≤ 9223372036854775807 then (some ((t298 ++ (⟨#[47]⟩ : ByteArray)) ++ t299)) else (none))) else (none)) = some r := H
  have A2 := Aside0.mk A20
  clear A20
  by_cases c3 : t298.size + 1 ≤ 9223372036854775807
  · rw [if_pos c3] at H
    have c3b0 := eq_true c3
    have c3b1 : decide (t298.size + 1 ≤ 9223372036854775807) = true := decide_eq_true c3
    try have c3b2 : (9223372036854775807 < t298.size + 1) = False := eq_false (Nat.not_lt.2 c3)
    replace H := Option.bind_eq_some_iff.mp H
    obtain ⟨t299, A40, H⟩ := H
    replace H : (if (t298 ++ (⟨#[47]⟩ : ByteArray)).size + t299.size ≤ 9223372036854775807 then (some ((t298 ++ (⟨#[47]⟩ : ByteArray)) ++ t299)) else (none)) = some r := H
    have A4 := Aside0.mk A40
    clear A40
    by_cases c5 : (t298 ++ (⟨#[47]⟩ : ByteArray)).size + t299.size ≤ 9223372036854775807
    · rw [if_pos c5] at H
      have c5b0 := eq_true c5
      have c5b1 : decide ((t298 ++ (⟨#[47]⟩ : ByteArray)).size + t299.size ≤ 9223372036854775807) = true := decide_eq_true c5
      try have c5b2 : (9223372036854775807 < (t298 ++ (⟨#[47]⟩ : ByteArray)).size + t299.size) = False := eq_false (Nat.not_lt.2 c5)
      try have c5b3 := c5b2
      try simp only [ByteArray.size_append, Hand.lit_size, List.length_cons, List.length_nil, Nat.zero_add, Nat.reduceAdd] at c5b3
      obtain rfl := Option.some.inj H
      go_enter Tryd.func63, Tryd.ntmps63
      try go_wp2_with (first | ((with_reducible refine gate_dst (N := 1) rfl ?_); refine box_event ?hg (N := 1) ?hd (cs := #[.int .u32 a0_0, .int .i64 a0_1]) (t := 42) ?hr ?_; (case hd => rfl); (case hg => rfl); (case hr => first | (go_simp; done) | (go_simp; rfl)); intro gb297 hg w6 hbox hb; have n0_ := Aside0.mk (below_step (by repeat (first | (with_reducible first | exact HB.out | apply below_alloc | apply pw_below_drewN | apply below_drew1) | exact HB.out)) hb); have n1_ := Aside0.mk (hbox); have n2_ := Aside0.mk ((by rw [hg]; exact (below_size (by repeat (first | (with_reducible first | exact HB.out | apply below_alloc | apply pw_below_drewN | apply below_drew1) | exact HB.out))) : w.heap.size ≤ gb297)); have n3_ := Aside0.mk ((by rw [hg]; exact (below_size (by repeat (first | (with_reducible first | exact HB.out | apply below_alloc | apply pw_below_drewN | apply below_drew1) | exact HB.out))) : w.heap.size ≤ gb297)); clear HB; have HB := n0_; have BK297 := n1_; have GW297 := n2_; have GE297 := n3_; clear n0_ n1_ n2_ n3_; clear hb hbox hg))
      have n0_ := Aside0.mk (blk_drew BK297.out)
      have n1_ := Aside0.mk (below_drew1 HB.out)
      clear BK297
      clear HB
      have BK297 := n0_
      have HB := n1_
      clear n0_ n1_
      refine start_ (n := 9) (S := fun w' => w'.cell? ⟨gb297, 0, none⟩ = some (.int .u32 a0_0) ∧ w'.cell? ⟨gb297, 1, none⟩ = some (.int .i64 a0_1)) (ds := []) #[false, false, false, false, false, false, false, false, false] (by kernel_rfl) rfl rfl ⟨(blk_cell BK297.out 0).trans rfl, (blk_cell BK297.out 1).trans rfl⟩ (fun hHeld => ?_); refine with_tabW crossbuckref03_Print.tab1 crossbuckref03_Print.bits1 (fun HT_ HW_ => ?_)
      generalize w6.drew = w7 at BK297 HB hHeld ⊢
      refine pure_ (i := 0) (N := some 3) (v := ?_) (a' := ?_) #[true, false, false, false, false, false, false, false, false] rfl rfl (any_of HT_.out (by kernel_rfl)) (fun _ _ _ h => h) (Or.inl ⟨by rfl, ?_⟩) ?_ ?_
      rotate_left
      · intro w'
        go_simp
        with_reducible rfl
      rotate_left
      · simp only [Act.put, List.setIfInBounds_toArray, List.set_cons_zero, List.set_cons_succ, i64_w, i32_w]
        rfl
      refine pure_ (i := 4) (N := some 7) (v := ?_) (a' := ?_) #[true, false, false, false, true, false, false, false, false] rfl rfl (any_of HT_.out (by kernel_rfl)) (fun _ _ _ h => h) (Or.inl ⟨by rfl, ?_⟩) ?_ ?_
      rotate_left
      · intro w'
        go_simp
        with_reducible rfl
      rotate_left
      · simp only [Act.put, List.setIfInBounds_toArray, List.set_cons_zero, List.set_cons_succ, i64_w, i32_w]
        rfl
      refine take_ (i := 1) (N := some 4) (v := ?_) (a' := ?_) #[true, true, false, false, true, false, false, false, false] rfl rfl (take_ofW HT_.out HW_.out (by kernel_rfl)) (fun _ _ _ h => h) (Or.inl ⟨by rfl, ?_⟩) hHeld ?_ ?_
      rotate_left
      · rintro w' ⟨s0, s1⟩
        go_simp
        with_reducible rfl
      rotate_left
      · simp only [Act.put, List.setIfInBounds_toArray, List.set_cons_zero, List.set_cons_succ, i64_w, i32_w]
        rfl
      refine take_ (i := 5) (N := some 8) (v := ?_) (a' := ?_) #[true, true, false, false, true, true, false, false, false] rfl rfl (take_ofW HT_.out HW_.out (by kernel_rfl)) (fun _ _ _ h => h) (Or.inl ⟨by rfl, ?_⟩) hHeld ?_ ?_
      rotate_left
      · rintro w' ⟨s0, s1⟩
        go_simp
        with_reducible rfl
      rotate_left
      · simp only [Act.put, List.setIfInBounds_toArray, List.set_cons_zero, List.set_cons_succ, i64_w, i32_w]
        rfl
      refine one_ (i := 2) (N := some 5) #[true, true, true, false, true, true, false, false, false] rfl rfl (one_of HT_.out (by kernel_rfl)) (by decide) (fun K hK => ?_)
      refine goes_ Tryd.func55 (by kernel_rfl) rfl #[.int .u32 a0_0] (by rfl) rfl rfl (by (try simp only [List.map_toArray, List.map_cons, List.map_nil]); first | done | rfl | (simp only [List.length_drop, List.length_take]; rfl)) ?_
      with_reducible refine (crossbuckref02_Addr.calls k a0_0 t298 _ A2.out).mono ?_
      rintro e w8 ⟨rfl, hb⟩
      refine ⟨_, rfl, ?_⟩
      have n0_ := Aside0.mk (blk_below (g := gb297) (o := .cells #[.int .u32 a0_0, .int .i64 a0_1] 42 (0, 0)) (by (with_reducible repeat (first | refine blk_drewN ?_ _ | refine blk_drew ?_ | refine blk_alloc ?_ _)); exact BK297.out) hb)
      have n1_ := Aside0.mk (below_step (by repeat (first | (with_reducible first | exact HB.out | apply below_alloc | apply pw_below_drewN | apply below_drew1 | refine below_set ?_ GE297.out) | exact HB.out)) hb)
      clear BK297
      clear HB
      have BK297 := n0_
      have HB := n1_
      clear n0_ n1_
      (try clear hb)
      (try clear hb2)
      (try clear hk)
      (try clear hi)
      refine hK.out _ _ ⟨(blk_cell BK297.out 0).trans rfl, (blk_cell BK297.out 1).trans rfl⟩ (fun hHeld => ?_)
      clear hK K
      refine norm_ (a' := ?_) ?_ ?_
      rotate_left
      · show Act.put _ (some 5) _ = _
        simp only [Act.put, List.setIfInBounds_toArray, List.set_cons_zero, List.set_cons_succ, i64_w, i32_w]
        rfl
      refine pure_ (i := 3) (N := some 6) (v := ?_) (a' := ?_) #[true, true, true, true, true, true, false, false, false] rfl rfl (any_of HT_.out (by kernel_rfl)) (fun _ _ _ h => h) (Or.inl ⟨by rfl, ?_⟩) ?_ ?_
      rotate_left
      · intro w'
        go_simp
        with_reducible rfl
      rotate_left
      · simp only [Act.put, List.setIfInBounds_toArray, List.set_cons_zero, List.set_cons_succ, i64_w, i32_w]
        rfl
      refine one_ (i := 6) (N := some 9) #[true, true, true, true, true, true, true, false, false] rfl rfl (one_of HT_.out (by kernel_rfl)) (by decide) (fun K hK => ?_)
      refine goes_ Tryd.func99 (by kernel_rfl) rfl #[.int .i64 a0_1] (by rfl) rfl rfl (by (try simp only [List.map_toArray, List.map_cons, List.map_nil]); first | done | rfl | (simp only [List.length_drop, List.length_take]; rfl)) ?_
      with_reducible refine (crossbuckref02_Digits.calls k a0_1 t299 _ A4.out).mono ?_
      rintro e w9 ⟨rfl, hb⟩
      refine ⟨_, rfl, ?_⟩
      have n0_ := Aside0.mk (blk_below (g := gb297) (o := .cells #[.int .u32 a0_0, .int .i64 a0_1] 42 (0, 0)) (by (with_reducible repeat (first | refine blk_drewN ?_ _ | refine blk_drew ?_ | refine blk_alloc ?_ _)); exact BK297.out) hb)
      have n1_ := Aside0.mk (below_step (by repeat (first | (with_reducible first | exact HB.out | apply below_alloc | apply pw_below_drewN | apply below_drew1 | refine below_set ?_ GE297.out) | exact HB.out)) hb)
      clear BK297
      clear HB
      have BK297 := n0_
      have HB := n1_
      clear n0_ n1_
      (try clear hb)
      (try clear hb2)
      (try clear hk)
      (try clear hi)
      refine hK.out _ _ ⟨(blk_cell BK297.out 0).trans rfl, (blk_cell BK297.out 1).trans rfl⟩ (fun hHeld => ?_)
      clear hK K
      refine norm_ (a' := ?_) ?_ ?_
      rotate_left
      · show Act.put _ (some 9) _ = _
        simp only [Act.put, List.setIfInBounds_toArray, List.set_cons_zero, List.set_cons_succ, i64_w, i32_w]
        rfl
      refine pure_ (i := 7) (N := some 10) (v := ?_) (a' := ?_) #[true, true, true, true, true, true, true, true, false] rfl rfl (any_of HT_.out (by kernel_rfl)) (fun _ _ _ h => h) (Or.inl ⟨by rfl, ?_⟩) ?_ ?_
      rotate_left
      · intro w'
        go_simp
        with_reducible rfl
      rotate_left
      · simp only [Act.put, List.setIfInBounds_toArray, List.set_cons_zero, List.set_cons_succ, i64_w, i32_w]
        rfl
      refine pure_ (i := 8) (N := some 2) (v := ?_) (a' := ?_) #[true, true, true, true, true, true, true, true, true] rfl rfl (any_of HT_.out (by kernel_rfl)) (fun _ _ _ h => h) (Or.inl ⟨by rfl, ?_⟩) ?_ ?_
      rotate_left
      · intro w'
        go_simp
        with_reducible rfl
      rotate_left
      · simp only [Act.put, List.setIfInBounds_toArray, List.set_cons_zero, List.set_cons_succ, i64_w, i32_w]
        rfl
      refine done_ (done_of HT_.out (by kernel_rfl)) ?_
      try go_wp2
      go_ret
      exact ⟨by first | rfl | (simp [errW_none, errW_some] <;> rfl) | (simp [*, errW_none, errW_some] <;> rfl), by repeat (first | (with_reducible first | exact HB.out | apply below_alloc | apply pw_below_drewN | apply below_drew1 | refine below_set ?_ GE297.out) | exact HB.out)⟩
    · rw [if_neg c5] at H
      exact absurd H (by simp)
  · rw [if_neg c3] at H
    exact absurd H (by simp)

end Go.Proofs.YtloclimoffhbhaaDoor.PTxt

namespace Go.Proofs.YtloclimoffhbhaaDoor.PTxt
open Go.RowKit Go.Proofs.YtloclimoffhbhaaDoorW.PrintWords Go.Proofs.YtloclimoffhbhaaDoorW.PrintLast Go.Proofs.YtloclimoffhbhaaDoorW.PrintMore
attribute [local go_sem] max2_int min2_int max_two min_two max_three min_three max_four min_four   -- for this text's walks alone
set_option linter.unusedVariables false
set_option linter.unusedSimpArgs false

attribute [local go_sem high] eqA42 eqA61
/-! ### crossbucklaw03_CidrTexts: function 14 -/
def crossbucklaw03_CidrTexts.j0 : Nat → Int → Int → Option (Bool)
  | 0, _, _ => none
  | k + 1, x724000, x724001 => (crossbuckref03_Right.f k x724000 x724001).bind fun t731 => (if t731 = true then ((cidr_Print.f k x724000 x724001).bind fun t733 => ((cidr_Parse.f k t733).bind fun bt734 => ((crossbucklaw03_awake.f k).bind fun t738 => (if t738 = true then ((crossbuckref03_Print.f k x724000 x724001).bind fun t739 => (if t733.toList = t739.toList then (if bt734.2.2 = 0 then (some (bt734.1 == x724000 && (bt734.2.1 == x724001))) else (some false)) else (some false))) else (some false))))) else ((crossbucklaw03_awake.f k).bind fun t732 => (some t732)))
def crossbucklaw03_CidrTexts.f (k : Nat) (a0_0 : Int) (a0_1 : Int) (a1_0 : Int) (a1_1 : Int) : Option (Bool) := if a1_0 ≤ a1_1 then ((cidr_PrintRange.f a1_0 a1_1).bind fun t725 => ((cidr_ParseRange.f t725).bind fun bt726 => ((crossbuckref03_PrintRange.f k a1_0 a1_1).bind fun t730 => (if t725.toList = t730.toList then (if bt726.2.2 = 0 then (if (!(bt726.1 == a1_0) || (!(bt726.2.1 == a1_1))) = true then (some false) else (crossbucklaw03_CidrTexts.j0 k a0_0 a0_1)) else (some false)) else (some false))))) else (crossbucklaw03_CidrTexts.j0 k a0_0 a0_1)
theorem crossbucklaw03_CidrTexts.mono_l : ∀ k, (∀ y0 y1, LeO (crossbucklaw03_CidrTexts.j0 k y0 y1) (crossbucklaw03_CidrTexts.j0 (k + 1) y0 y1))
  | 0 => fun _ _ r h => by simp [crossbucklaw03_CidrTexts.j0] at h
  | k + 1 => by
    have ih0 := crossbucklaw03_CidrTexts.mono_l k
    · intro y0 y1
      unfold crossbucklaw03_CidrTexts.j0
      repeat' first
      | (with_reducible exact ih0 _ _)
      | (with_reducible exact cidr_Parse.mono _ _)
      | (with_reducible exact cidr_Print.mono _ _ _)
      | (with_reducible exact crossbucklaw03_awake.mono _)
      | (with_reducible exact crossbuckref03_Print.mono _ _ _)
      | (with_reducible exact crossbuckref03_PrintRange.mono _ _ _)
      | (with_reducible exact crossbuckref03_Right.mono _ _ _)
      | (with_reducible exact LeO.refl _)
      | (with_reducible exact LeO.none _)
      | (with_reducible refine LeO.ite ?_ ?_)
      | (with_reducible refine LeO.bind ?_ (fun _ => ?_))
      | exact ih0 _ _
      | exact cidr_Parse.mono _ _
      | exact cidr_Print.mono _ _ _
      | exact crossbucklaw03_awake.mono _
      | exact crossbuckref03_Print.mono _ _ _
      | exact crossbuckref03_PrintRange.mono _ _ _
      | exact crossbuckref03_Right.mono _ _ _
      | exact LeO.none _
      | refine LeO.ite ?_ ?_
      | refine LeO.bind ?_ (fun _ => ?_)
theorem crossbucklaw03_CidrTexts.mono : ∀ a0 a1 a2 a3 k, LeO (crossbucklaw03_CidrTexts.f k a0 a1 a2 a3) (crossbucklaw03_CidrTexts.f (k + 1) a0 a1 a2 a3) := by
  intro a0 a1 a2 a3 k
  have ih0 := crossbucklaw03_CidrTexts.mono_l k
  unfold crossbucklaw03_CidrTexts.f
  repeat' first
      | (with_reducible exact ih0 _ _)
      | (with_reducible exact cidr_Parse.mono _ _)
      | (with_reducible exact cidr_Print.mono _ _ _)
      | (with_reducible exact crossbucklaw03_awake.mono _)
      | (with_reducible exact crossbuckref03_Print.mono _ _ _)
      | (with_reducible exact crossbuckref03_PrintRange.mono _ _ _)
      | (with_reducible exact crossbuckref03_Right.mono _ _ _)
      | (with_reducible exact LeO.refl _)
      | (with_reducible exact LeO.none _)
      | (with_reducible refine LeO.ite ?_ ?_)
      | (with_reducible refine LeO.bind ?_ (fun _ => ?_))
      | exact ih0 _ _
      | exact cidr_Parse.mono _ _
      | exact cidr_Print.mono _ _ _
      | exact crossbucklaw03_awake.mono _
      | exact crossbuckref03_Print.mono _ _ _
      | exact crossbuckref03_PrintRange.mono _ _ _
      | exact crossbuckref03_Right.mono _ _ _
      | exact LeO.none _
      | refine LeO.ite ?_ ?_
      | refine LeO.bind ?_ (fun _ => ?_)
set_option maxHeartbeats 8000000 in
set_option maxRecDepth 100000 in
theorem crossbucklaw03_CidrTexts.calls (k : Nat) (a0_0 : Int) (a0_1 : Int) (a1_0 : Int) (a1_1 : Int) (r : Bool) (w : World) (hG : Hand.Good true true w) (h : crossbucklaw03_CidrTexts.f k a0_0 a0_1 a1_0 a1_1 = some r) (hT : Aside0 (r = true)) :
    Calls Tryd.prog 14 #[.agg #[.int .u32 a0_0, .int .i64 a0_1], .agg #[.int .u16 a1_0, .int .u16 a1_1]] w fun e w' => e = .returned (.bool r) ∧ Below w.heap.size w w' := by
  have hu42 := Tryd.underlying42
  have hu61 := Tryd.underlying61
  have HB := Aside0.mk (Below.refl w.heap.size w)
  have hGG := Aside0.mk hG
  clear hG
  have H : (if a1_0 ≤ a1_1 then ((cidr_PrintRange.f a1_0 a1_1).bind fun t725 => ((cidr_ParseRange.f t725).bind fun bt726 => ((crossbuckref03_PrintRange.f k a1_0 a1_1).bind fun t730 => (if t725.toList = t730.toList then (if bt726.2.2 = 0 then (if (!(bt726.1 == a1_0) || (!(bt726.2.1 == a1_1))) = true then (some false) else (crossbucklaw03_CidrTexts.j0 k a0_0 a0_1)) else (some false)) else (some false))))) else (crossbucklaw03_CidrTexts.j0 k a0_0 a0_1)) = some r := h
  clear h
  have HC3 := Aside0.mk H
  clear H
  go_enter Tryd.func14, Tryd.ntmps14
  go_upto_if 15 with (first | ((with_reducible refine gate_dst (N := 2) rfl ?_); refine box_event ?hg (N := 2) ?hd (cs := #[.int .u32 a0_0, .int .i64 a0_1]) (t := 42) ?hr ?_; (case hd => rfl); (case hg => rfl); (case hr => first | (go_simp; done) | (go_simp; rfl)); intro gb723 hg w4 hbox hb; have n0_ := Aside0.mk (below_step (by repeat (first | (with_reducible first | exact HB.out | apply below_alloc | apply pw_below_drewN | apply below_drew1) | exact HB.out)) hb); have n1_ := Aside0.mk (hbox); have n2_ := Aside0.mk ((by rw [hg]; exact (below_size (by repeat (first | (with_reducible first | exact HB.out | apply below_alloc | apply pw_below_drewN | apply below_drew1) | exact HB.out))) : w.heap.size ≤ gb723)); have n3_ := Aside0.mk ((by rw [hg]; exact (below_size (by repeat (first | (with_reducible first | exact HB.out | apply below_alloc | apply pw_below_drewN | apply below_drew1) | exact HB.out))) : w.heap.size ≤ gb723)); clear HB; have HB := n0_; have BK723 := n1_; have GW723 := n2_; have GE723 := n3_; clear n0_ n1_ n2_ n3_; clear hb hbox hg) | ((with_reducible refine gate_dst (N := 3) rfl ?_); refine box_event ?hg (N := 3) ?hd (cs := #[.int .u16 a1_0, .int .u16 a1_1]) (t := 61) ?hr ?_; (case hd => rfl); (case hg => rfl); (case hr => first | (go_simp; done) | (go_simp; rfl)); intro gb724 hg w5 hbox hb; have n0_ := Aside0.mk (blk_below (g := gb723) (o := .cells #[.int .u32 a0_0, .int .i64 a0_1] 42 (0, 0)) (by (with_reducible repeat (first | refine blk_drewN ?_ _ | refine blk_drew ?_ | refine blk_alloc ?_ _)); exact BK723.out) hb); have n1_ := Aside0.mk (below_step (by repeat (first | (with_reducible first | exact HB.out | apply below_alloc | apply pw_below_drewN | apply below_drew1 | refine below_set ?_ GE723.out) | exact HB.out)) hb); have n2_ := Aside0.mk (hbox); have n3_ := Aside0.mk ((by rw [hg]; exact (below_size (by repeat (first | (with_reducible first | exact HB.out | apply below_alloc | apply pw_below_drewN | apply below_drew1 | refine below_set ?_ GE723.out) | exact HB.out))) : w.heap.size ≤ gb724)); have n4_ := Aside0.mk ((by rw [hg]; exact (below_size (by repeat (first | (with_reducible first | exact HB.out | apply below_alloc | apply pw_below_drewN | apply below_drew1 | refine below_set ?_ GE723.out) | exact HB.out))) : w.heap.size ≤ gb724)); have n5_ := Aside0.mk ((by rw [hg]; exact Nat.ne_of_lt (blk_lt (g := gb723) (o := .cells #[.int .u32 a0_0, .int .i64 a0_1] 42 (0, 0)) (by (with_reducible repeat (first | refine blk_drewN ?_ _ | refine blk_drew ?_ | refine blk_alloc ?_ _)); exact BK723.out)) : gb723 ≠ gb724)); have n6_ := Aside0.mk ((by rw [hg]; exact Nat.ne_of_gt (blk_lt (g := gb723) (o := .cells #[.int .u32 a0_0, .int .i64 a0_1] 42 (0, 0)) (by (with_reducible repeat (first | refine blk_drewN ?_ _ | refine blk_drew ?_ | refine blk_alloc ?_ _)); exact BK723.out)) : gb724 ≠ gb723)); clear BK723; clear HB; have BK723 := n0_; have HB := n1_; have BK724 := n2_; have GW724 := n3_; have GE724 := n4_; have NB723_724 := n5_; have NB724_723 := n6_; clear n0_ n1_ n2_ n3_ n4_ n5_ n6_; clear hb hbox hg; have hnb6 := NB724_723.out; have hnc6 := NB723_724.out; have hcz7_0 : w5.cell? ⟨gb724, 0, none⟩ = some (.int .u16 a1_0) := (blk_cell BK724.out 0).trans rfl; have hcz7_1 : w5.cell? ⟨gb724, 1, none⟩ = some (.int .u16 a1_1) := (blk_cell BK724.out 1).trans rfl; have hfz7_0 := blk_frozen BK724.out 0; have hfz7_1 := blk_frozen BK724.out 1))
  (try simp only [Act.put, List.setIfInBounds_toArray, List.set_cons_zero, List.set_cons_succ])
  go_cut [] (fun wc => ∃ (kq : Nat), Aside0 (crossbucklaw03_CidrTexts.j0 kq a0_0 a0_1 = some r) ∧ Aside0 (kq ≤ k) ∧ Aside0 (wc.heap[gb723]? = some (.cells #[.int .u32 a0_0, .int .i64 a0_1] 42 (0, 0))) ∧ Aside0 (wc.heap[gb724]? = some (.cells #[.int .u16 a1_0, .int .u16 a1_1] 61 (0, 0))) ∧ Aside0 (Below w.heap.size w wc))
  case first =>
    have H := HC3.out
    clear HC3
    by_cases c8 : a1_0 ≤ a1_1
    · rw [if_pos c8] at H
      have c8b0 : decide (a1_0 ≤ a1_1) = true := decide_eq_true c8
      clear c8
      (first | rw [c8b0] | (simp only [i64_w, i32_w]; rw [c8b0]) | skip)
      replace H := Option.bind_eq_some_iff.mp H
      obtain ⟨t725, A90, H⟩ := H
      replace H : ((cidr_ParseRange.f t725).bind fun bt726 => ((crossbuckref03_PrintRange.f k a1_0 a1_1).bind fun t730 => (if t725.toList = t730.toList then (if bt726.2.2 = 0 then (if (!(bt726.1 == a1_0) || (!(bt726.2.1 == a1_1))) = true then (some false) else (crossbucklaw03_CidrTexts.j0 k a0_0 a0_1)) else (some false)) else (some false)))) = some r := H
      have A9 := Aside0.mk A90
      clear A90
      replace H := Option.bind_eq_some_iff.mp H
      obtain ⟨⟨t726, t727, t728⟩, A100, H⟩ := H
      replace H : ((crossbuckref03_PrintRange.f k a1_0 a1_1).bind fun t730 => (if t725.toList = t730.toList then (if t728 = 0 then (if (!(t726 == a1_0) || (!(t727 == a1_1))) = true then (some false) else (crossbucklaw03_CidrTexts.j0 k a0_0 a0_1)) else (some false)) else (some false))) = some r := H
      have A10 := Aside0.mk A100
      clear A100
      replace H := Option.bind_eq_some_iff.mp H
      obtain ⟨t730, A110, H⟩ := H
      replace H : (if t725.toList = t730.toList then (if t728 = 0 then (if (!(t726 == a1_0) || (!(t727 == a1_1))) = true then (some false) else (crossbucklaw03_CidrTexts.j0 k a0_0 a0_1)) else (some false)) else (some false)) = some r := H
      have A11 := Aside0.mk A110
      clear A110
      by_cases c12 : t725.toList = t730.toList
      · rw [if_pos c12] at H
        have c12b0 : (t725.toList == t730.toList) = true := beq_iff_eq.mpr c12
        have c12b1 : (t725.toList != t730.toList) = false := bne_eq_false_iff_eq.mpr c12
        clear c12
        by_cases c13 : t728 = 0
        · rw [if_pos c13] at H
          have c13b0 : (t728 == 0) = true := beq_iff_eq.mpr c13
          have c13b1 : (t728 != 0) = false := bne_eq_false_iff_eq.mpr c13
          clear c13
          by_cases c14 : (!(t726 == a1_0) || (!(t727 == a1_1))) = true
          · rw [if_pos c14] at H
            have c14b0 : (!(t726 == a1_0) || (!(t727 == a1_1))) = true := c14
            clear c14
            exact absurd ((Option.some.inj H).trans hT.out) (by decide)
          · rw [if_neg c14] at H
            have c14b0 : (!(t726 == a1_0) || (!(t727 == a1_1))) = false := by simpa using c14
            clear c14
            have H' := Aside0.mk H
            clear H
            have hnb15 := NB724_723.out
            have hnc15 := NB723_724.out
            have hcz16_0 : w5.cell? ⟨gb724, 0, none⟩ = some (.int .u16 a1_0) := (blk_cell BK724.out 0).trans rfl
            have hcz16_1 : w5.cell? ⟨gb724, 1, none⟩ = some (.int .u16 a1_1) := (blk_cell BK724.out 1).trans rfl
            have hfz16_0 := blk_frozen BK724.out 0
            have hfz16_1 := blk_frozen BK724.out 1
            go_wp2_with (first | ((with_reducible refine gate_callee (f := 59) rfl ?_); refine goesL_ (some 17) rfl rfl Tryd.func59 (by kernel_rfl) rfl #[.agg #[.int .u16 a1_0, .int .u16 a1_1]] rfl (by (try simp only [List.map_toArray, List.map_cons, List.map_nil]); first | done | rfl | (simp only [List.length_drop, List.length_take]; rfl)) ?_; (with_reducible refine (cidr_PrintRange.calls a1_0 a1_1 t725 _ (Hand.Good.below false true hGG.out (by repeat (first | (with_reducible first | exact HB.out | apply below_alloc | apply pw_below_drewN | apply below_drew1 | refine below_set ?_ GE723.out | refine below_set ?_ GE724.out) | exact HB.out)) rfl rfl) A9.out).mono ?_); rintro e w17 ⟨rfl, hb⟩; refine ⟨_, rfl, ?_⟩; have n0_ := Aside0.mk (blk_below (g := gb723) (o := .cells #[.int .u32 a0_0, .int .i64 a0_1] 42 (0, 0)) (by (with_reducible repeat (first | refine blk_drewN ?_ _ | refine blk_drew ?_ | refine blk_alloc ?_ _)); exact BK723.out) hb); have n1_ := Aside0.mk (blk_below (g := gb724) (o := .cells #[.int .u16 a1_0, .int .u16 a1_1] 61 (0, 0)) (by (with_reducible repeat (first | refine blk_drewN ?_ _ | refine blk_drew ?_ | refine blk_alloc ?_ _)); exact BK724.out) hb); have n2_ := Aside0.mk (below_step (by repeat (first | (with_reducible first | exact HB.out | apply below_alloc | apply pw_below_drewN | apply below_drew1 | refine below_set ?_ GE723.out | refine below_set ?_ GE724.out) | exact HB.out)) hb); clear BK723; clear BK724; clear HB; have BK723 := n0_; have BK724 := n1_; have HB := n2_; clear n0_ n1_ n2_; (try clear hb); (try clear hb2); (try clear hk); (try clear hi)) | ((with_reducible refine gate_callee (f := 35) rfl ?_); refine goesL_ (some 20) rfl rfl Tryd.func35 (by kernel_rfl) rfl #[.string t725] rfl (by (try simp only [List.map_toArray, List.map_cons, List.map_nil]); first | done | rfl | (simp only [List.length_drop, List.length_take]; rfl)) ?_; (with_reducible refine (cidr_ParseRange.calls t725 t726 t727 t728 _ (Hand.Good.below true false hGG.out (by repeat (first | (with_reducible first | exact HB.out | apply below_alloc | apply pw_below_drewN | apply below_drew1 | refine below_set ?_ GE723.out | refine below_set ?_ GE724.out) | exact HB.out)) rfl rfl) A10.out).mono ?_); rintro e w18 ⟨rfl, hb⟩; refine ⟨_, rfl, ?_⟩; have n0_ := Aside0.mk (blk_below (g := gb723) (o := .cells #[.int .u32 a0_0, .int .i64 a0_1] 42 (0, 0)) (by (with_reducible repeat (first | refine blk_drewN ?_ _ | refine blk_drew ?_ | refine blk_alloc ?_ _)); exact BK723.out) hb); have n1_ := Aside0.mk (blk_below (g := gb724) (o := .cells #[.int .u16 a1_0, .int .u16 a1_1] 61 (0, 0)) (by (with_reducible repeat (first | refine blk_drewN ?_ _ | refine blk_drew ?_ | refine blk_alloc ?_ _)); exact BK724.out) hb); have n2_ := Aside0.mk (below_step (by repeat (first | (with_reducible first | exact HB.out | apply below_alloc | apply pw_below_drewN | apply below_drew1 | refine below_set ?_ GE723.out | refine below_set ?_ GE724.out) | exact HB.out)) hb); clear BK723; clear BK724; clear HB; have BK723 := n0_; have BK724 := n1_; have HB := n2_; clear n0_ n1_ n2_; (try clear hb); (try clear hb2); (try clear hk); (try clear hi)) | ((with_reducible refine gate_dst (N := 6) rfl ?_); refine box_event ?hg (N := 6) ?hd (cs := #[.int .u16 0, .int .u16 0]) (t := 61) ?hr ?_; (case hd => rfl); (case hg => rfl); (case hr => first | (go_simp; done) | (go_simp; rfl)); intro gb729 hg w19 hbox hb; have n0_ := Aside0.mk (blk_below (g := gb723) (o := .cells #[.int .u32 a0_0, .int .i64 a0_1] 42 (0, 0)) (by (with_reducible repeat (first | refine blk_drewN ?_ _ | refine blk_drew ?_ | refine blk_alloc ?_ _)); exact BK723.out) hb); have n1_ := Aside0.mk (blk_below (g := gb724) (o := .cells #[.int .u16 a1_0, .int .u16 a1_1] 61 (0, 0)) (by (with_reducible repeat (first | refine blk_drewN ?_ _ | refine blk_drew ?_ | refine blk_alloc ?_ _)); exact BK724.out) hb); have n2_ := Aside0.mk (below_step (by repeat (first | (with_reducible first | exact HB.out | apply below_alloc | apply pw_below_drewN | apply below_drew1 | refine below_set ?_ GE723.out | refine below_set ?_ GE724.out) | exact HB.out)) hb); have n3_ := Aside0.mk (hbox); have n4_ := Aside0.mk ((by rw [hg]; exact (below_size (by repeat (first | (with_reducible first | exact HB.out | apply below_alloc | apply pw_below_drewN | apply below_drew1 | refine below_set ?_ GE723.out | refine below_set ?_ GE724.out) | exact HB.out))) : w.heap.size ≤ gb729)); have n5_ := Aside0.mk ((by rw [hg]; exact (below_size (by repeat (first | (with_reducible first | exact HB.out | apply below_alloc | apply pw_below_drewN | apply below_drew1 | refine below_set ?_ GE723.out | refine below_set ?_ GE724.out) | exact HB.out))) : w.heap.size ≤ gb729)); have n6_ := Aside0.mk ((by rw [hg]; exact Nat.ne_of_lt (blk_lt (g := gb723) (o := .cells #[.int .u32 a0_0, .int .i64 a0_1] 42 (0, 0)) (by (with_reducible repeat (first | refine blk_drewN ?_ _ | refine blk_drew ?_ | refine blk_alloc ?_ _)); exact BK723.out)) : gb723 ≠ gb729)); have n7_ := Aside0.mk ((by rw [hg]; exact Nat.ne_of_gt (blk_lt (g := gb723) (o := .cells #[.int .u32 a0_0, .int .i64 a0_1] 42 (0, 0)) (by (with_reducible repeat (first | refine blk_drewN ?_ _ | refine blk_drew ?_ | refine blk_alloc ?_ _)); exact BK723.out)) : gb729 ≠ gb723)); have n8_ := Aside0.mk ((by rw [hg]; exact Nat.ne_of_lt (blk_lt (g := gb724) (o := .cells #[.int .u16 a1_0, .int .u16 a1_1] 61 (0, 0)) (by (with_reducible repeat (first | refine blk_drewN ?_ _ | refine blk_drew ?_ | refine blk_alloc ?_ _)); exact BK724.out)) : gb724 ≠ gb729)); have n9_ := Aside0.mk ((by rw [hg]; exact Nat.ne_of_gt (blk_lt (g := gb724) (o := .cells #[.int .u16 a1_0, .int .u16 a1_1] 61 (0, 0)) (by (with_reducible repeat (first | refine blk_drewN ?_ _ | refine blk_drew ?_ | refine blk_alloc ?_ _)); exact BK724.out)) : gb729 ≠ gb724)); clear BK723; clear BK724; clear HB; have BK723 := n0_; have BK724 := n1_; have HB := n2_; have BK729 := n3_; have GW729 := n4_; have GE729 := n5_; have NB723_729 := n6_; have NB729_723 := n7_; have NB724_729 := n8_; have NB729_724 := n9_; clear n0_ n1_ n2_ n3_ n4_ n5_ n6_ n7_ n8_ n9_; clear hb hbox hg; have hnb20 := NB729_723.out; have hnc20 := NB723_729.out; have hnb21 := NB729_724.out; have hnc21 := NB724_729.out; have hcz22_0 : w19.cell? ⟨gb729, 0, none⟩ = some (.int .u16 0) := (blk_cell BK729.out 0).trans rfl; have hcz22_1 : w19.cell? ⟨gb729, 1, none⟩ = some (.int .u16 0) := (blk_cell BK729.out 1).trans rfl; have hfz22_0 := blk_frozen BK729.out 0; have hfz22_1 := blk_frozen BK729.out 1; have hcz23_0 : w19.cell? ⟨gb724, 0, none⟩ = some (.int .u16 a1_0) := (blk_cell BK724.out 0).trans rfl; have hcz23_1 : w19.cell? ⟨gb724, 1, none⟩ = some (.int .u16 a1_1) := (blk_cell BK724.out 1).trans rfl; have hfz23_0 := blk_frozen BK724.out 0; have hfz23_1 := blk_frozen BK724.out 1) | ((with_reducible refine gate_callee (f := 60) rfl ?_); refine goesL_ (some 25) rfl rfl Tryd.func60 (by kernel_rfl) rfl #[.agg #[.int .u16 a1_0, .int .u16 a1_1]] rfl (by (try simp only [List.map_toArray, List.map_cons, List.map_nil]); first | done | rfl | (simp only [List.length_drop, List.length_take]; rfl)) ?_; (with_reducible refine (crossbuckref03_PrintRange.calls k a1_0 a1_1 t730 _ A11.out).mono ?_); rintro e w24 ⟨rfl, hb⟩; refine ⟨_, rfl, ?_⟩; have n0_ := Aside0.mk (blk_below (g := gb723) (o := .cells #[.int .u32 a0_0, .int .i64 a0_1] 42 (0, 0)) (by (with_reducible repeat (first | refine blk_drewN ?_ _ | refine blk_drew ?_ | refine blk_alloc ?_ _)); refine blk_far ?_ NB723_729.out _; (with_reducible repeat (first | refine blk_drewN ?_ _ | refine blk_drew ?_ | refine blk_alloc ?_ _)); refine blk_far ?_ NB723_729.out _; (with_reducible repeat (first | refine blk_drewN ?_ _ | refine blk_drew ?_ | refine blk_alloc ?_ _)); exact BK723.out) hb); have n1_ := Aside0.mk (blk_below (g := gb724) (o := .cells #[.int .u16 a1_0, .int .u16 a1_1] 61 (0, 0)) (by (with_reducible repeat (first | refine blk_drewN ?_ _ | refine blk_drew ?_ | refine blk_alloc ?_ _)); refine blk_far ?_ NB724_729.out _; (with_reducible repeat (first | refine blk_drewN ?_ _ | refine blk_drew ?_ | refine blk_alloc ?_ _)); refine blk_far ?_ NB724_729.out _; (with_reducible repeat (first | refine blk_drewN ?_ _ | refine blk_drew ?_ | refine blk_alloc ?_ _)); exact BK724.out) hb); have n2_ := Aside0.mk (blk_below (g := gb729) (o := .cells #[.int .u16 t726, .int .u16 t727] 61 (0, 0)) (by (with_reducible repeat (first | refine blk_drewN ?_ _ | refine blk_drew ?_ | refine blk_alloc ?_ _)); refine blk_put (cs := #[.int .u16 t726, .int .u16 0]) ?_ 1 _ rfl; (with_reducible repeat (first | refine blk_drewN ?_ _ | refine blk_drew ?_ | refine blk_alloc ?_ _)); refine blk_put (cs := #[.int .u16 0, .int .u16 0]) ?_ 0 _ rfl; (with_reducible repeat (first | refine blk_drewN ?_ _ | refine blk_drew ?_ | refine blk_alloc ?_ _)); exact BK729.out) hb); have n3_ := Aside0.mk (below_step (by repeat (first | (with_reducible first | exact HB.out | apply below_alloc | apply pw_below_drewN | apply below_drew1 | refine below_set ?_ GE723.out | refine below_set ?_ GE724.out | refine below_set ?_ GE729.out) | exact HB.out)) hb); clear BK723; clear BK724; clear BK729; clear HB; have BK723 := n0_; have BK724 := n1_; have BK729 := n2_; have HB := n3_; clear n0_ n1_ n2_ n3_; (try clear hb); (try clear hb2); (try clear hk); (try clear hi); have hcz25_0 : w24.cell? ⟨gb729, 0, none⟩ = some (.int .u16 t726) := (blk_cell BK729.out 0).trans rfl; have hcz25_1 : w24.cell? ⟨gb729, 1, none⟩ = some (.int .u16 t727) := (blk_cell BK729.out 1).trans rfl; have hfz25_0 := blk_frozen BK729.out 0; have hfz25_1 := blk_frozen BK729.out 1; have hcz26_0 : w24.cell? ⟨gb724, 0, none⟩ = some (.int .u16 a1_0) := (blk_cell BK724.out 0).trans rfl; have hcz26_1 : w24.cell? ⟨gb724, 1, none⟩ = some (.int .u16 a1_1) := (blk_cell BK724.out 1).trans rfl; have hfz26_0 := blk_frozen BK724.out 0; have hfz26_1 := blk_frozen BK724.out 1))
            go_meet
            case rel => exact ⟨_, H', ⟨by first | omega | exact Nat.le_refl _⟩, ⟨by (with_reducible repeat (first | refine blk_drewN ?_ _ | refine blk_drew ?_ | refine blk_alloc ?_ _)); exact BK723.out⟩, ⟨by (with_reducible repeat (first | refine blk_drewN ?_ _ | refine blk_drew ?_ | refine blk_alloc ?_ _)); exact BK724.out⟩, ⟨by repeat (first | (with_reducible first | exact HB.out | apply below_alloc | apply pw_below_drewN | apply below_drew1 | refine below_set ?_ GE723.out | refine below_set ?_ GE724.out | refine below_set ?_ GE729.out) | exact HB.out)⟩⟩
        · rw [if_neg c13] at H
          have c13b0 : (t728 == 0) = false := beq_eq_false_iff_ne.mpr c13
          have c13b1 : (t728 != 0) = true := bne_iff_ne.mpr c13
          exact absurd ((Option.some.inj H).trans hT.out) (by decide)
      · rw [if_neg c12] at H
        have c12b0 : (t725.toList == t730.toList) = false := beq_eq_false_iff_ne.mpr c12
        have c12b1 : (t725.toList != t730.toList) = true := bne_iff_ne.mpr c12
        exact absurd ((Option.some.inj H).trans hT.out) (by decide)
    · rw [if_neg c8] at H
      have c8b0 : decide (a1_0 ≤ a1_1) = false := decide_eq_false c8
      clear c8
      (first | rw [c8b0] | (simp only [i64_w, i32_w]; rw [c8b0]) | skip)
      have H' := Aside0.mk H
      clear H
      go_wp2
      go_meet
      case rel => exact ⟨_, H', ⟨by first | omega | exact Nat.le_refl _⟩, ⟨by (with_reducible repeat (first | refine blk_drewN ?_ _ | refine blk_drew ?_ | refine blk_alloc ?_ _)); exact BK723.out⟩, ⟨by (with_reducible repeat (first | refine blk_drewN ?_ _ | refine blk_drew ?_ | refine blk_alloc ?_ _)); exact BK724.out⟩, ⟨by repeat (first | (with_reducible first | exact HB.out | apply below_alloc | apply pw_below_drewN | apply below_drew1 | refine below_set ?_ GE723.out | refine below_set ?_ GE724.out) | exact HB.out)⟩⟩
  case rest =>
    clear HC3
    try clear c1
    try clear c2
    try clear p2
    try clear c3
    try clear c5
    try clear c6
    try clear c8
    try clear c8b0
    try clear c12
    try clear c12b0
    try clear c12b1
    try clear c13
    try clear c13b0
    try clear c13b1
    try clear c14
    try clear c14b0
    try clear c15
    try clear c20
    try clear c21
    try clear hcz16_0
    try clear hcz16_1
    try clear hcz22_0
    try clear hcz22_1
    try clear hcz23_0
    try clear hcz23_1
    try clear hcz25_0
    try clear hcz25_1
    try clear hcz26_0
    try clear hcz26_1
    try clear hcz7_0
    try clear hcz7_1
    try clear hfz16_0
    try clear hfz16_1
    try clear hfz22_0
    try clear hfz22_1
    try clear hfz23_0
    try clear hfz23_1
    try clear hfz25_0
    try clear hfz25_1
    try clear hfz26_0
    try clear hfz26_1
    try clear hfz7_0
    try clear hfz7_1
    obtain ⟨kq, HA, HJ2, BK723, BK724, HB⟩ := hcut
    cases kq with
    | zero => exact absurd HA.out (by simp [crossbucklaw03_CidrTexts.j0])
    | succ kj2 =>
      have H := HA.out
      clear HA
      simp only [crossbucklaw03_CidrTexts.j0] at H
      replace H := Option.bind_eq_some_iff.mp H
      obtain ⟨t731, A270, H⟩ := H
      replace H : (if t731 = true then ((cidr_Print.f kj2 a0_0 a0_1).bind fun t733 => ((cidr_Parse.f kj2 t733).bind fun bt734 => ((crossbucklaw03_awake.f kj2).bind fun t738 => (if t738 = true then ((crossbuckref03_Print.f kj2 a0_0 a0_1).bind fun t739 => (if t733.toList = t739.toList then (if bt734.2.2 = 0 then (some (bt734.1 == a0_0 && (bt734.2.1 == a0_1))) else (some false)) else (some false))) else (some false))))) else ((crossbucklaw03_awake.f kj2).bind fun t732 => (some t732))) = some r := H
      have A27 := Aside0.mk A270
      clear A270
      by_cases c28 : t731 = true
      · subst c28
        have H1 : ((cidr_Print.f kj2 a0_0 a0_1).bind fun t733 => ((cidr_Parse.f kj2 t733).bind fun bt734 => ((crossbucklaw03_awake.f kj2).bind fun t738 => (if t738 = true then ((crossbuckref03_Print.f kj2 a0_0 a0_1).bind fun t739 => (if t733.toList = t739.toList then (if bt734.2.2 = 0 then (some (bt734.1 == a0_0 && (bt734.2.1 == a0_1))) else (some false)) else (some false))) else (some false))))) = some r := by rw [if_pos rfl] at H; exact H
        clear H
        have H := H1
        clear H1
        replace H := Option.bind_eq_some_iff.mp H
        obtain ⟨t733, A290, H⟩ := H
        replace H : ((cidr_Parse.f kj2 t733).bind fun bt734 => ((crossbucklaw03_awake.f kj2).bind fun t738 => (if t738 = true then ((crossbuckref03_Print.f kj2 a0_0 a0_1).bind fun t739 => (if t733.toList = t739.toList then (if bt734.2.2 = 0 then (some (bt734.1 == a0_0 && (bt734.2.1 == a0_1))) else (some false)) else (some false))) else (some false)))) = some r := H
        have A29 := Aside0.mk A290
        clear A290
        replace H := Option.bind_eq_some_iff.mp H
        obtain ⟨⟨t734, t735, t736⟩, A300, H⟩ := H
        replace H : ((crossbucklaw03_awake.f kj2).bind fun t738 => (if t738 = true then ((crossbuckref03_Print.f kj2 a0_0 a0_1).bind fun t739 => (if t733.toList = t739.toList then (if t736 = 0 then (some (t734 == a0_0 && (t735 == a0_1))) else (some false)) else (some false))) else (some false))) = some r := H
        have A30 := Aside0.mk A300
        clear A300
        replace H := Option.bind_eq_some_iff.mp H
        obtain ⟨t738, A310, H⟩ := H
        replace H : (if t738 = true then ((crossbuckref03_Print.f kj2 a0_0 a0_1).bind fun t739 => (if t733.toList = t739.toList then (if t736 = 0 then (some (t734 == a0_0 && (t735 == a0_1))) else (some false)) else (some false))) else (some false)) = some r := H
        have A31 := Aside0.mk A310
        clear A310
        by_cases c32 : t738 = true
        · subst c32
          have H1 : ((crossbuckref03_Print.f kj2 a0_0 a0_1).bind fun t739 => (if t733.toList = t739.toList then (if t736 = 0 then (some (t734 == a0_0 && (t735 == a0_1))) else (some false)) else (some false))) = some r := by rw [if_pos rfl] at H; exact H
          clear H
          have H := H1
          clear H1
          replace H := Option.bind_eq_some_iff.mp H
          obtain ⟨t739, A330, H⟩ := H
          replace H : (if t733.toList = t739.toList then (if t736 = 0 then (some (t734 == a0_0 && (t735 == a0_1))) else (some false)) else (some false)) = some r := H
          have A33 := Aside0.mk A330
          clear A330
          by_cases c34 : t733.toList = t739.toList
          · rw [if_pos c34] at H
            have c34b0 : (t733.toList == t739.toList) = true := beq_iff_eq.mpr c34
            have c34b1 : (t733.toList != t739.toList) = false := bne_eq_false_iff_eq.mpr c34
            clear c34
            by_cases c35 : t736 = 0
            · rw [if_pos c35] at H
              have c35b0 : (t736 == 0) = true := beq_iff_eq.mpr c35
              have c35b1 : (t736 != 0) = false := bne_eq_false_iff_eq.mpr c35
              clear c35
              obtain rfl := Option.some.inj H
              have hnb36 := NB723_724.out
              have hnc36 := NB724_723.out
              have hcz37_0 : wc.cell? ⟨gb723, 0, none⟩ = some (.int .u32 a0_0) := (blk_cell BK723.out 0).trans rfl
              have hcz37_1 : wc.cell? ⟨gb723, 1, none⟩ = some (.int .i64 a0_1) := (blk_cell BK723.out 1).trans rfl
              have hfz37_0 := blk_frozen BK723.out 0
              have hfz37_1 := blk_frozen BK723.out 1
              go_wp2_with (first | ((with_reducible refine gate_callee (f := 61) rfl ?_); refine goesL_ (some 37) rfl rfl Tryd.func61 (by kernel_rfl) rfl #[.agg #[.int .u32 a0_0, .int .i64 a0_1]] rfl (by (try simp only [List.map_toArray, List.map_cons, List.map_nil]); first | done | rfl | (simp only [List.length_drop, List.length_take]; rfl)) ?_; (with_reducible refine (crossbuckref03_Right.calls kj2 a0_0 a0_1 true _ A27.out).mono ?_); rintro e w38 ⟨rfl, hb⟩; refine ⟨_, rfl, ?_⟩; have n0_ := Aside0.mk (blk_below (g := gb723) (o := .cells #[.int .u32 a0_0, .int .i64 a0_1] 42 (0, 0)) (by (with_reducible repeat (first | refine blk_drewN ?_ _ | refine blk_drew ?_ | refine blk_alloc ?_ _)); exact BK723.out) hb); have n1_ := Aside0.mk (blk_below (g := gb724) (o := .cells #[.int .u16 a1_0, .int .u16 a1_1] 61 (0, 0)) (by (with_reducible repeat (first | refine blk_drewN ?_ _ | refine blk_drew ?_ | refine blk_alloc ?_ _)); exact BK724.out) hb); have n2_ := Aside0.mk (below_step (by repeat (first | (with_reducible first | exact HB.out | apply below_alloc | apply pw_below_drewN | apply below_drew1 | refine below_set ?_ GE723.out | refine below_set ?_ GE724.out) | exact HB.out)) hb); clear BK723; clear BK724; clear HB; have BK723 := n0_; have BK724 := n1_; have HB := n2_; clear n0_ n1_ n2_; (try clear hb); (try clear hb2); (try clear hk); (try clear hi); have hcz39_0 : w38.cell? ⟨gb723, 0, none⟩ = some (.int .u32 a0_0) := (blk_cell BK723.out 0).trans rfl; have hcz39_1 : w38.cell? ⟨gb723, 1, none⟩ = some (.int .i64 a0_1) := (blk_cell BK723.out 1).trans rfl; have hfz39_0 := blk_frozen BK723.out 0; have hfz39_1 := blk_frozen BK723.out 1) | ((with_reducible refine gate_callee (f := 62) rfl ?_); refine goesL_ (some 41) rfl rfl Tryd.func62 (by kernel_rfl) rfl #[.agg #[.int .u32 a0_0, .int .i64 a0_1]] rfl (by (try simp only [List.map_toArray, List.map_cons, List.map_nil]); first | done | rfl | (simp only [List.length_drop, List.length_take]; rfl)) ?_; (with_reducible refine (cidr_Print.calls kj2 a0_0 a0_1 t733 _ (Hand.Good.below false true hGG.out (by repeat (first | (with_reducible first | exact HB.out | apply below_alloc | apply pw_below_drewN | apply below_drew1 | refine below_set ?_ GE723.out | refine below_set ?_ GE724.out) | exact HB.out)) rfl rfl) A29.out).mono ?_); rintro e w40 ⟨rfl, hb⟩; refine ⟨_, rfl, ?_⟩; have n0_ := Aside0.mk (blk_below (g := gb723) (o := .cells #[.int .u32 a0_0, .int .i64 a0_1] 42 (0, 0)) (by (with_reducible repeat (first | refine blk_drewN ?_ _ | refine blk_drew ?_ | refine blk_alloc ?_ _)); exact BK723.out) hb); have n1_ := Aside0.mk (blk_below (g := gb724) (o := .cells #[.int .u16 a1_0, .int .u16 a1_1] 61 (0, 0)) (by (with_reducible repeat (first | refine blk_drewN ?_ _ | refine blk_drew ?_ | refine blk_alloc ?_ _)); exact BK724.out) hb); have n2_ := Aside0.mk (below_step (by repeat (first | (with_reducible first | exact HB.out | apply below_alloc | apply pw_below_drewN | apply below_drew1 | refine below_set ?_ GE723.out | refine below_set ?_ GE724.out) | exact HB.out)) hb); clear BK723; clear BK724; clear HB; have BK723 := n0_; have BK724 := n1_; have HB := n2_; clear n0_ n1_ n2_; (try clear hb); (try clear hb2); (try clear hk); (try clear hi)) | ((with_reducible refine gate_callee (f := 33) rfl ?_); refine goesL_ (some 44) rfl rfl Tryd.func33 (by kernel_rfl) rfl #[.string t733] rfl (by (try simp only [List.map_toArray, List.map_cons, List.map_nil]); first | done | rfl | (simp only [List.length_drop, List.length_take]; rfl)) ?_; (with_reducible refine (cidr_Parse.calls kj2 t733 t734 t735 t736 _ (Hand.Good.below true false hGG.out (by repeat (first | (with_reducible first | exact HB.out | apply below_alloc | apply pw_below_drewN | apply below_drew1 | refine below_set ?_ GE723.out | refine below_set ?_ GE724.out) | exact HB.out)) rfl rfl) A30.out).mono ?_); rintro e w41 ⟨rfl, hb⟩; refine ⟨_, rfl, ?_⟩; have n0_ := Aside0.mk (blk_below (g := gb723) (o := .cells #[.int .u32 a0_0, .int .i64 a0_1] 42 (0, 0)) (by (with_reducible repeat (first | refine blk_drewN ?_ _ | refine blk_drew ?_ | refine blk_alloc ?_ _)); exact BK723.out) hb); have n1_ := Aside0.mk (blk_below (g := gb724) (o := .cells #[.int .u16 a1_0, .int .u16 a1_1] 61 (0, 0)) (by (with_reducible repeat (first | refine blk_drewN ?_ _ | refine blk_drew ?_ | refine blk_alloc ?_ _)); exact BK724.out) hb); have n2_ := Aside0.mk (below_step (by repeat (first | (with_reducible first | exact HB.out | apply below_alloc | apply pw_below_drewN | apply below_drew1 | refine below_set ?_ GE723.out | refine below_set ?_ GE724.out) | exact HB.out)) hb); clear BK723; clear BK724; clear HB; have BK723 := n0_; have BK724 := n1_; have HB := n2_; clear n0_ n1_ n2_; (try clear hb); (try clear hb2); (try clear hk); (try clear hi)) | ((with_reducible refine gate_dst (N := 9) rfl ?_); refine box_event ?hg (N := 9) ?hd (cs := #[.int .u32 0, .int .i64 0]) (t := 42) ?hr ?_; (case hd => rfl); (case hg => rfl); (case hr => first | (go_simp; done) | (go_simp; rfl)); intro gb737 hg w42 hbox hb; have n0_ := Aside0.mk (blk_below (g := gb723) (o := .cells #[.int .u32 a0_0, .int .i64 a0_1] 42 (0, 0)) (by (with_reducible repeat (first | refine blk_drewN ?_ _ | refine blk_drew ?_ | refine blk_alloc ?_ _)); exact BK723.out) hb); have n1_ := Aside0.mk (blk_below (g := gb724) (o := .cells #[.int .u16 a1_0, .int .u16 a1_1] 61 (0, 0)) (by (with_reducible repeat (first | refine blk_drewN ?_ _ | refine blk_drew ?_ | refine blk_alloc ?_ _)); exact BK724.out) hb); have n2_ := Aside0.mk (below_step (by repeat (first | (with_reducible first | exact HB.out | apply below_alloc | apply pw_below_drewN | apply below_drew1 | refine below_set ?_ GE723.out | refine below_set ?_ GE724.out) | exact HB.out)) hb); have n3_ := Aside0.mk (hbox); have n4_ := Aside0.mk ((by rw [hg]; exact (below_size (by repeat (first | (with_reducible first | exact HB.out | apply below_alloc | apply pw_below_drewN | apply below_drew1 | refine below_set ?_ GE723.out | refine below_set ?_ GE724.out) | exact HB.out))) : w.heap.size ≤ gb737)); have n5_ := Aside0.mk ((by rw [hg]; exact (below_size (by repeat (first | (with_reducible first | exact HB.out | apply below_alloc | apply pw_below_drewN | apply below_drew1 | refine below_set ?_ GE723.out | refine below_set ?_ GE724.out) | exact HB.out))) : w.heap.size ≤ gb737)); have n6_ := Aside0.mk ((by rw [hg]; exact Nat.ne_of_lt (blk_lt (g := gb723) (o := .cells #[.int .u32 a0_0, .int .i64 a0_1] 42 (0, 0)) (by (with_reducible repeat (first | refine blk_drewN ?_ _ | refine blk_drew ?_ | refine blk_alloc ?_ _)); exact BK723.out)) : gb723 ≠ gb737)); have n7_ := Aside0.mk ((by rw [hg]; exact Nat.ne_of_gt (blk_lt (g := gb723) (o := .cells #[.int .u32 a0_0, .int .i64 a0_1] 42 (0, 0)) (by (with_reducible repeat (first | refine blk_drewN ?_ _ | refine blk_drew ?_ | refine blk_alloc ?_ _)); exact BK723.out)) : gb737 ≠ gb723)); have n8_ := Aside0.mk ((by rw [hg]; exact Nat.ne_of_lt (blk_lt (g := gb724) (o := .cells #[.int .u16 a1_0, .int .u16 a1_1] 61 (0, 0)) (by (with_reducible repeat (first | refine blk_drewN ?_ _ | refine blk_drew ?_ | refine blk_alloc ?_ _)); exact BK724.out)) : gb724 ≠ gb737)); have n9_ := Aside0.mk ((by rw [hg]; exact Nat.ne_of_gt (blk_lt (g := gb724) (o := .cells #[.int .u16 a1_0, .int .u16 a1_1] 61 (0, 0)) (by (with_reducible repeat (first | refine blk_drewN ?_ _ | refine blk_drew ?_ | refine blk_alloc ?_ _)); exact BK724.out)) : gb737 ≠ gb724)); clear BK723; clear BK724; clear HB; have BK723 := n0_; have BK724 := n1_; have HB := n2_; have BK737 := n3_; have GW737 := n4_; have GE737 := n5_; have NB723_737 := n6_; have NB737_723 := n7_; have NB724_737 := n8_; have NB737_724 := n9_; clear n0_ n1_ n2_ n3_ n4_ n5_ n6_ n7_ n8_ n9_; clear hb hbox hg; have hnb43 := NB737_723.out; have hnc43 := NB723_737.out; have hnb44 := NB737_724.out; have hnc44 := NB724_737.out; have hcz45_0 : w42.cell? ⟨gb737, 0, none⟩ = some (.int .u32 0) := (blk_cell BK737.out 0).trans rfl; have hcz45_1 : w42.cell? ⟨gb737, 1, none⟩ = some (.int .i64 0) := (blk_cell BK737.out 1).trans rfl; have hfz45_0 := blk_frozen BK737.out 0; have hfz45_1 := blk_frozen BK737.out 1) | ((with_reducible refine gate_callee (f := 32) rfl ?_); refine goesL_ (some 47) rfl rfl Tryd.func32 (by kernel_rfl) rfl #[] rfl (by (try simp only [List.map_toArray, List.map_cons, List.map_nil]); first | done | rfl | (simp only [List.length_drop, List.length_take]; rfl)) ?_; (with_reducible refine (crossbucklaw03_awake.calls kj2  true _ A31.out).mono ?_); rintro e w46 ⟨rfl, hb⟩; refine ⟨_, rfl, ?_⟩; have n0_ := Aside0.mk (blk_below (g := gb723) (o := .cells #[.int .u32 a0_0, .int .i64 a0_1] 42 (0, 0)) (by (with_reducible repeat (first | refine blk_drewN ?_ _ | refine blk_drew ?_ | refine blk_alloc ?_ _)); refine blk_far ?_ NB723_737.out _; (with_reducible repeat (first | refine blk_drewN ?_ _ | refine blk_drew ?_ | refine blk_alloc ?_ _)); refine blk_far ?_ NB723_737.out _; (with_reducible repeat (first | refine blk_drewN ?_ _ | refine blk_drew ?_ | refine blk_alloc ?_ _)); exact BK723.out) hb); have n1_ := Aside0.mk (blk_below (g := gb724) (o := .cells #[.int .u16 a1_0, .int .u16 a1_1] 61 (0, 0)) (by (with_reducible repeat (first | refine blk_drewN ?_ _ | refine blk_drew ?_ | refine blk_alloc ?_ _)); refine blk_far ?_ NB724_737.out _; (with_reducible repeat (first | refine blk_drewN ?_ _ | refine blk_drew ?_ | refine blk_alloc ?_ _)); refine blk_far ?_ NB724_737.out _; (with_reducible repeat (first | refine blk_drewN ?_ _ | refine blk_drew ?_ | refine blk_alloc ?_ _)); exact BK724.out) hb); have n2_ := Aside0.mk (blk_below (g := gb737) (o := .cells #[.int .u32 t734, .int .i64 t735] 42 (0, 0)) (by (with_reducible repeat (first | refine blk_drewN ?_ _ | refine blk_drew ?_ | refine blk_alloc ?_ _)); refine blk_put (cs := #[.int .u32 t734, .int .i64 0]) ?_ 1 _ rfl; (with_reducible repeat (first | refine blk_drewN ?_ _ | refine blk_drew ?_ | refine blk_alloc ?_ _)); refine blk_put (cs := #[.int .u32 0, .int .i64 0]) ?_ 0 _ rfl; (with_reducible repeat (first | refine blk_drewN ?_ _ | refine blk_drew ?_ | refine blk_alloc ?_ _)); exact BK737.out) hb); have n3_ := Aside0.mk (below_step (by repeat (first | (with_reducible first | exact HB.out | apply below_alloc | apply pw_below_drewN | apply below_drew1 | refine below_set ?_ GE723.out | refine below_set ?_ GE724.out | refine below_set ?_ GE737.out) | exact HB.out)) hb); clear BK723; clear BK724; clear BK737; clear HB; have BK723 := n0_; have BK724 := n1_; have BK737 := n2_; have HB := n3_; clear n0_ n1_ n2_ n3_; (try clear hb); (try clear hb2); (try clear hk); (try clear hi); have hcz47_0 : w46.cell? ⟨gb723, 0, none⟩ = some (.int .u32 a0_0) := (blk_cell BK723.out 0).trans rfl; have hcz47_1 : w46.cell? ⟨gb723, 1, none⟩ = some (.int .i64 a0_1) := (blk_cell BK723.out 1).trans rfl; have hfz47_0 := blk_frozen BK723.out 0; have hfz47_1 := blk_frozen BK723.out 1) | (go_at_call 63; (with_reducible refine (crossbuckref03_Print.calls kj2 a0_0 a0_1 t739 _ A33.out).mono ?_); rintro e w48 ⟨rfl, hb⟩; have n0_ := Aside0.mk (blk_below (g := gb723) (o := .cells #[.int .u32 a0_0, .int .i64 a0_1] 42 (0, 0)) (by (with_reducible repeat (first | refine blk_drewN ?_ _ | refine blk_drew ?_ | refine blk_alloc ?_ _)); exact BK723.out) hb); have n1_ := Aside0.mk (blk_below (g := gb724) (o := .cells #[.int .u16 a1_0, .int .u16 a1_1] 61 (0, 0)) (by (with_reducible repeat (first | refine blk_drewN ?_ _ | refine blk_drew ?_ | refine blk_alloc ?_ _)); exact BK724.out) hb); have n2_ := Aside0.mk (blk_below (g := gb737) (o := .cells #[.int .u32 t734, .int .i64 t735] 42 (0, 0)) (by (with_reducible repeat (first | refine blk_drewN ?_ _ | refine blk_drew ?_ | refine blk_alloc ?_ _)); exact BK737.out) hb); have n3_ := Aside0.mk (below_step (by repeat (first | (with_reducible first | exact HB.out | apply below_alloc | apply pw_below_drewN | apply below_drew1 | refine below_set ?_ GE723.out | refine below_set ?_ GE724.out | refine below_set ?_ GE737.out) | exact HB.out)) hb); clear BK723; clear BK724; clear BK737; clear HB; have BK723 := n0_; have BK724 := n1_; have BK737 := n2_; have HB := n3_; clear n0_ n1_ n2_ n3_; (try clear hb); (try clear hb2); (try clear hk); (try clear hi); have hcz49_0 : w48.cell? ⟨gb737, 0, none⟩ = some (.int .u32 t734) := (blk_cell BK737.out 0).trans rfl; have hcz49_1 : w48.cell? ⟨gb737, 1, none⟩ = some (.int .i64 t735) := (blk_cell BK737.out 1).trans rfl; have hfz49_0 := blk_frozen BK737.out 0; have hfz49_1 := blk_frozen BK737.out 1; have hcz50_0 : w48.cell? ⟨gb723, 0, none⟩ = some (.int .u32 a0_0) := (blk_cell BK723.out 0).trans rfl; have hcz50_1 : w48.cell? ⟨gb723, 1, none⟩ = some (.int .i64 a0_1) := (blk_cell BK723.out 1).trans rfl; have hfz50_0 := blk_frozen BK723.out 0; have hfz50_1 := blk_frozen BK723.out 1))
              go_ret
              exact ⟨by first | rfl | (simp [errW_none, errW_some] <;> rfl) | (simp [*, errW_none, errW_some] <;> rfl), by repeat (first | (with_reducible first | exact HB.out | apply below_alloc | apply pw_below_drewN | apply below_drew1 | refine below_set ?_ GE723.out | refine below_set ?_ GE724.out | refine below_set ?_ GE737.out) | exact HB.out)⟩
            · rw [if_neg c35] at H
              have c35b0 : (t736 == 0) = false := beq_eq_false_iff_ne.mpr c35
              have c35b1 : (t736 != 0) = true := bne_iff_ne.mpr c35
              exact absurd ((Option.some.inj H).trans hT.out) (by decide)
          · rw [if_neg c34] at H
            have c34b0 : (t733.toList == t739.toList) = false := beq_eq_false_iff_ne.mpr c34
            have c34b1 : (t733.toList != t739.toList) = true := bne_iff_ne.mpr c34
            exact absurd ((Option.some.inj H).trans hT.out) (by decide)
        · replace c32 := Bool.eq_false_iff.mpr c32
          subst c32
          have H1 : (some false) = some r := by rw [if_neg (show ¬ (false = true) by decide)] at H; exact H
          clear H
          have H := H1
          clear H1
          exact absurd ((Option.some.inj H).trans hT.out) (by decide)
      · replace c28 := Bool.eq_false_iff.mpr c28
        subst c28
        have H1 : ((crossbucklaw03_awake.f kj2).bind fun t732 => (some t732)) = some r := by rw [if_neg (show ¬ (false = true) by decide)] at H; exact H
        clear H
        have H := H1
        clear H1
        replace H := Option.bind_eq_some_iff.mp H
        obtain ⟨t732, A510, H⟩ := H
        replace H : (some t732) = some r := H
        have A51 := Aside0.mk A510
        clear A510
        obtain rfl := Option.some.inj H
        have hnb52 := NB723_724.out
        have hnc52 := NB724_723.out
        have hcz53_0 : wc.cell? ⟨gb723, 0, none⟩ = some (.int .u32 a0_0) := (blk_cell BK723.out 0).trans rfl
        have hcz53_1 : wc.cell? ⟨gb723, 1, none⟩ = some (.int .i64 a0_1) := (blk_cell BK723.out 1).trans rfl
        have hfz53_0 := blk_frozen BK723.out 0
        have hfz53_1 := blk_frozen BK723.out 1
        go_wp2_with (first | ((with_reducible refine gate_callee (f := 61) rfl ?_); refine goesL_ (some 37) rfl rfl Tryd.func61 (by kernel_rfl) rfl #[.agg #[.int .u32 a0_0, .int .i64 a0_1]] rfl (by (try simp only [List.map_toArray, List.map_cons, List.map_nil]); first | done | rfl | (simp only [List.length_drop, List.length_take]; rfl)) ?_; (with_reducible refine (crossbuckref03_Right.calls kj2 a0_0 a0_1 false _ A27.out).mono ?_); rintro e w54 ⟨rfl, hb⟩; refine ⟨_, rfl, ?_⟩; have n0_ := Aside0.mk (blk_below (g := gb723) (o := .cells #[.int .u32 a0_0, .int .i64 a0_1] 42 (0, 0)) (by (with_reducible repeat (first | refine blk_drewN ?_ _ | refine blk_drew ?_ | refine blk_alloc ?_ _)); exact BK723.out) hb); have n1_ := Aside0.mk (blk_below (g := gb724) (o := .cells #[.int .u16 a1_0, .int .u16 a1_1] 61 (0, 0)) (by (with_reducible repeat (first | refine blk_drewN ?_ _ | refine blk_drew ?_ | refine blk_alloc ?_ _)); exact BK724.out) hb); have n2_ := Aside0.mk (below_step (by repeat (first | (with_reducible first | exact HB.out | apply below_alloc | apply pw_below_drewN | apply below_drew1 | refine below_set ?_ GE723.out | refine below_set ?_ GE724.out) | exact HB.out)) hb); clear BK723; clear BK724; clear HB; have BK723 := n0_; have BK724 := n1_; have HB := n2_; clear n0_ n1_ n2_; (try clear hb); (try clear hb2); (try clear hk); (try clear hi)) | ((with_reducible refine gate_callee (f := 32) rfl ?_); refine goesL_ (some 39) rfl rfl Tryd.func32 (by kernel_rfl) rfl #[] rfl (by (try simp only [List.map_toArray, List.map_cons, List.map_nil]); first | done | rfl | (simp only [List.length_drop, List.length_take]; rfl)) ?_; (with_reducible refine (crossbucklaw03_awake.calls kj2  t732 _ A51.out).mono ?_); rintro e w55 ⟨rfl, hb⟩; refine ⟨_, rfl, ?_⟩; have n0_ := Aside0.mk (blk_below (g := gb723) (o := .cells #[.int .u32 a0_0, .int .i64 a0_1] 42 (0, 0)) (by (with_reducible repeat (first | refine blk_drewN ?_ _ | refine blk_drew ?_ | refine blk_alloc ?_ _)); exact BK723.out) hb); have n1_ := Aside0.mk (blk_below (g := gb724) (o := .cells #[.int .u16 a1_0, .int .u16 a1_1] 61 (0, 0)) (by (with_reducible repeat (first | refine blk_drewN ?_ _ | refine blk_drew ?_ | refine blk_alloc ?_ _)); exact BK724.out) hb); have n2_ := Aside0.mk (below_step (by repeat (first | (with_reducible first | exact HB.out | apply below_alloc | apply pw_below_drewN | apply below_drew1 | refine below_set ?_ GE723.out | refine below_set ?_ GE724.out) | exact HB.out)) hb); clear BK723; clear BK724; clear HB; have BK723 := n0_; have BK724 := n1_; have HB := n2_; clear n0_ n1_ n2_; (try clear hb); (try clear hb2); (try clear hk); (try clear hi)))
        go_ret
        exact ⟨by first | rfl | (simp [errW_none, errW_some] <;> rfl) | (simp [*, errW_none, errW_some] <;> rfl), by repeat (first | (with_reducible first | exact HB.out | apply below_alloc | apply pw_below_drewN | apply below_drew1 | refine below_set ?_ GE723.out | refine below_set ?_ GE724.out) | exact HB.out)⟩

end Go.Proofs.YtloclimoffhbhaaDoor.PTxt
