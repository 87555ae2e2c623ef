-- Written by wip/myprint.py and wip/merge.py (this session's own programs); Lean checks it.
-- halved
import Derived.Test.YtloclimoffhbhaaDoorPFxx0
import Derived.Test.YtloclimoffhbhaaDoorPFxx9
namespace Go.Proofs.YtloclimoffhbhaaDoor.PFx
open Go.RowKit Go.Proofs.YtloclimoffhbhaaDoorW.PrintWords Go.Proofs.YtloclimoffhbhaaDoorW.PrintLast Go.Proofs.YtloclimoffhbhaaDoorW.PrintMore
attribute [local go_sem] max2_int min2_int max_two min_two max_three min_three max_four min_four   -- for this text's walks alone
set_option linter.unusedVariables false
set_option linter.unusedSimpArgs false

/-! ### crossbuckref02_Addr: function 55 -/
def crossbuckref02_Addr.f (k : Nat) (a0 : Int) : Option (ByteArray) := (crossbuckref02_Digits.f k ((Int.tdiv a0 16777216) % 4294967296)).bind fun t433 => (if t433.size + 1 ≤ 9223372036854775807 then ((crossbuckref02_Digits.f k ((Int.tdiv a0 65536) % 256)).bind fun t434 => (if (t433 ++ (⟨#[46]⟩ : ByteArray)).size + t434.size ≤ 9223372036854775807 then (if ((t433 ++ (⟨#[46]⟩ : ByteArray)) ++ t434).size + 1 ≤ 9223372036854775807 then ((crossbuckref02_Digits.f k ((Int.tdiv a0 256) % 256)).bind fun t435 => (if (((t433 ++ (⟨#[46]⟩ : ByteArray)) ++ t434) ++ (⟨#[46]⟩ : ByteArray)).size + t435.size ≤ 9223372036854775807 then (if ((((t433 ++ (⟨#[46]⟩ : ByteArray)) ++ t434) ++ (⟨#[46]⟩ : ByteArray)) ++ t435).size + 1 ≤ 9223372036854775807 then ((crossbuckref02_Digits.f k (wrap64 (Int.tmod a0 256))).bind fun t436 => (if (((((t433 ++ (⟨#[46]⟩ : ByteArray)) ++ t434) ++ (⟨#[46]⟩ : ByteArray)) ++ t435) ++ (⟨#[46]⟩ : ByteArray)).size + t436.size ≤ 9223372036854775807 then (some ((((((t433 ++ (⟨#[46]⟩ : ByteArray)) ++ t434) ++ (⟨#[46]⟩ : ByteArray)) ++ t435) ++ (⟨#[46]⟩ : ByteArray)) ++ t436)) else (none))) else (none)) else (none))) else (none)) else (none))) else (none))
theorem crossbuckref02_Addr.mono : ∀ a0 k, LeO (crossbuckref02_Addr.f k a0) (crossbuckref02_Addr.f (k + 1) a0) := by
 intro a0 k
 unfold crossbuckref02_Addr.f
 repeat' first
   | (with_reducible exact crossbuckref02_Digits.mono _ _)
   | (with_reducible exact LeO.refl _)
   | (with_reducible exact LeO.none _)
   | (with_reducible refine LeO.ite ?_ ?_)
   | (with_reducible refine LeO.bind ?_ (fun _ => ?_))
   | exact crossbuckref02_Digits.mono _ _
   | exact LeO.none _
   | refine LeO.ite ?_ ?_
   | refine LeO.bind ?_ (fun _ => ?_)
set_option maxHeartbeats 8000000 in
set_option maxRecDepth 100000 in
theorem crossbuckref02_Addr.calls (k : Nat) (a0 : Int) (r : ByteArray) (w : World) (h : crossbuckref02_Addr.f k a0 = some r) :
  Calls Tryd.prog 55 #[.int .u32 a0] w fun e w' => e = .returned (.string r) ∧ Below w.heap.size w w' := by
 have HB := Aside0.mk (Below.refl w.heap.size w)
 have H : ((crossbuckref02_Digits.f k ((Int.tdiv a0 16777216) % 4294967296)).bind fun t433 => (if t433.size + 1 ≤ 9223372036854775807 then ((crossbuckref02_Digits.f k ((Int.tdiv a0 65536) % 256)).bind fun t434 => (if (t433 ++ (⟨#[46]⟩ : ByteArray)).size + t434.size ≤ 9223372036854775807 then (if ((t433 ++ (⟨#[46]⟩ : ByteArray)) ++ t434).size + 1 ≤ 9223372036854775807 then ((crossbuckref02_Digits.f k ((Int.tdiv a0 256) % 256)).bind fun t435 => (if (((t433 ++ (⟨#[46]⟩ : ByteArray)) ++ t434) ++ (⟨#[46]⟩ : ByteArray)).size + t435.size ≤ 9223372036854775807 then (if ((((t433 ++ (⟨#[46]⟩ : ByteArray)) ++ t434) ++ (⟨#[46]⟩ : ByteArray)) ++ t435).size + 1 ≤ 9223372036854775807 then ((crossbuckref02_Digits.f k (wrap64 (Int.tmod a0 256))).bind fun t436 => (if (((((t433 ++ (⟨#[46]⟩ : ByteArray)) ++ t434) ++ (⟨#[46]⟩ : ByteArray)) ++ t435) ++ (⟨#[46]⟩ : ByteArray)).size + t436.size ≤ 9223372036854775807 then (some ((((((t433 ++ (⟨#[46]⟩ : ByteArray)) ++ t434) ++ (⟨#[46]⟩ : ByteArray)) ++ t435) ++ (⟨#[46]⟩ : ByteArray)) ++ t436)) else (none))) else (none)) else (none))) else (none)) else (none))) else (none))) = some r := h
 clear h
 replace H := Option.bind_eq_some_iff.mp H
 obtain ⟨t433, A20, H⟩ := H
 replace H : (if t433.size + 1 ≤ 9223372036854775807 then ((crossbuckref02_Digits.f k ((Int.tdiv a0 65536) % 256)).bind fun t434 => (if (t433 ++ (⟨#[46]⟩ : ByteArray)).size + t434.size ≤ 9223372036854775807 then (if ((t433 ++ (⟨#[46]⟩ : ByteArray)) ++ t434).size + 1 ≤ 9223372036854775807 then ((crossbuckref02_Digits.f k ((Int.tdiv a0 256) % 256)).bind fun t435 => (if (((t433 ++ (⟨#[46]⟩ : ByteArray)) ++ t434) ++ (⟨#[46]⟩ : ByteArray)).size + t435.size ≤ 9223372036854775807 then (if ((((t433 ++ (⟨#[46]⟩ : ByteArray)) ++ t434) ++ (⟨#[46]⟩ : ByteArray)) ++ t435).size + 1 ≤ 9223372036854775807 then ((crossbuckref02_Digits.f k (wrap64 (Int.tmod a0 256))).bind fun t436 => (if (((((t433 ++ (⟨#[46]⟩ : ByteArray)) ++ t434) ++ (⟨#[46]⟩ : ByteArray)) ++ t435) ++ (⟨#[46]⟩ : ByteArray)).size + t436.size ≤ 9223372036854775807 then (some ((((((t433 ++ (⟨#[46]⟩ : ByteArray)) ++ t434) ++ (⟨#[46]⟩ : ByteArray)) ++ t435) ++ (⟨#[46]⟩ : ByteArray)) ++ t436)) else (none))) else (none)) else (none))) else (none)) else (none))) else (none)) = some r := H
 have A2 := Aside0.mk A20
 clear A20
 by_cases c3 : t433.size + 1 ≤ 9223372036854775807
 ·rw [if_pos c3] at H
  have c3b0 := eq_true c3
  have c3b1 : decide (t433.size + 1 ≤ 9223372036854775807) = true := decide_eq_true c3
  try have c3b2 : (9223372036854775807 < t433.size + 1) = False := eq_false (Nat.not_lt.2 c3)
  replace H := Option.bind_eq_some_iff.mp H
  obtain ⟨t434, A40, H⟩ := H
  replace H : (if (t433 ++ (⟨#[46]⟩ : ByteArray)).size + t434.size ≤ 9223372036854775807 then (if ((t433 ++ (⟨#[46]⟩ : ByteArray)) ++ t434).size + 1 ≤ 9223372036854775807 then ((crossbuckref02_Digits.f k ((Int.tdiv a0 256) % 256)).bind fun t435 => (if (((t433 ++ (⟨#[46]⟩ : ByteArray)) ++ t434) ++ (⟨#[46]⟩ : ByteArray)).size + t435.size ≤ 9223372036854775807 then (if ((((t433 ++ (⟨#[46]⟩ : ByteArray)) ++ t434) ++ (⟨#[46]⟩ : ByteArray)) ++ t435).size + 1 ≤ 9223372036854775807 then ((crossbuckref02_Digits.f k (wrap64 (Int.tmod a0 256))).bind fun t436 => (if (((((t433 ++ (⟨#[46]⟩ : ByteArray)) ++ t434) ++ (⟨#[46]⟩ : ByteArray)) ++ t435) ++ (⟨#[46]⟩ : ByteArray)).size + t436.size ≤ 9223372036854775807 then (some ((((((t433 ++ (⟨#[46]⟩ : ByteArray)) ++ t434) ++ (⟨#[46]⟩ : ByteArray)) ++ t435) ++ (⟨#[46]⟩ : ByteArray)) ++ t436)) else (none))) else (none)) else (none))) else (none)) else (none)) = some r := H
  have A4 := Aside0.mk A40
  clear A40
  by_cases c5 : (t433 ++ (⟨#[46]⟩ : ByteArray)).size + t434.size ≤ 9223372036854775807
  ·rw [if_pos c5] at H
   have c5b0 := eq_true c5
   have c5b1 : decide ((t433 ++ (⟨#[46]⟩ : ByteArray)).size + t434.size ≤ 9223372036854775807) = true := decide_eq_true c5
   try have c5b2 : (9223372036854775807 < (t433 ++ (⟨#[46]⟩ : ByteArray)).size + t434.size) = False := eq_false (Nat.not_lt.2 c5)
   try have c5b3 := c5b2
   try simp only [ByteArray.size_append, Hand.lit_size, List.length_cons, List.length_nil, Nat.zero_add, Nat.reduceAdd] at c5b3
   by_cases c6 : ((t433 ++ (⟨#[46]⟩ : ByteArray)) ++ t434).size + 1 ≤ 9223372036854775807
   ·rw [if_pos c6] at H
    have c6b0 := eq_true c6
    have c6b1 : decide (((t433 ++ (⟨#[46]⟩ : ByteArray)) ++ t434).size + 1 ≤ 9223372036854775807) = true := decide_eq_true c6
    try have c6b2 : (9223372036854775807 < ((t433 ++ (⟨#[46]⟩ : ByteArray)) ++ t434).size + 1) = False := eq_false (Nat.not_lt.2 c6)
    try have c6b3 := c6b2
    try simp only [ByteArray.size_append, Hand.lit_size, List.length_cons, List.length_nil, Nat.zero_add, Nat.reduceAdd] at c6b3
    replace H := Option.bind_eq_some_iff.mp H
    obtain ⟨t435, A70, H⟩ := H
    replace H : (if (((t433 ++ (⟨#[46]⟩ : ByteArray)) ++ t434) ++ (⟨#[46]⟩ : ByteArray)).size + t435.size ≤ 9223372036854775807 then (if ((((t433 ++ (⟨#[46]⟩ : ByteArray)) ++ t434) ++ (⟨#[46]⟩ : ByteArray)) ++ t435).size + 1 ≤ 9223372036854775807 then ((crossbuckref02_Digits.f k (wrap64 (Int.tmod a0 256))).bind fun t436 => (if (((((t433 ++ (⟨#[46]⟩ : ByteArray)) ++ t434) ++ (⟨#[46]⟩ : ByteArray)) ++ t435) ++ (⟨#[46]⟩ : ByteArray)).size + t436.size ≤ 9223372036854775807 then (some ((((((t433 ++ (⟨#[46]⟩ : ByteArray)) ++ t434) ++ (⟨#[46]⟩ : ByteArray)) ++ t435) ++ (⟨#[46]⟩ : ByteArray)) ++ t436)) else (none))) else (none)) else (none)) = some r := H
    have A7 := Aside0.mk A70
    clear A70
    by_cases c8 : (((t433 ++ (⟨#[46]⟩ : ByteArray)) ++ t434) ++ (⟨#[46]⟩ : ByteArray)).size + t435.size ≤ 9223372036854775807
    ·rw [if_pos c8] at H
     have c8b0 := eq_true c8
     have c8b1 : decide ((((t433 ++ (⟨#[46]⟩ : ByteArray)) ++ t434) ++ (⟨#[46]⟩ : ByteArray)).size + t435.size ≤ 9223372036854775807) = true := decide_eq_true c8
     try have c8b2 : (9223372036854775807 < (((t433 ++ (⟨#[46]⟩ : ByteArray)) ++ t434) ++ (⟨#[46]⟩ : ByteArray)).size + t435.size) = False := eq_false (Nat.not_lt.2 c8)
     try have c8b3 := c8b2
     try simp only [ByteArray.size_append, Hand.lit_size, List.length_cons, List.length_nil, Nat.zero_add, Nat.reduceAdd] at c8b3
     by_cases c9 : ((((t433 ++ (⟨#[46]⟩ : ByteArray)) ++ t434) ++ (⟨#[46]⟩ : ByteArray)) ++ t435).size + 1 ≤ 9223372036854775807
     ·rw [if_pos c9] at H
      have c9b0 := eq_true c9
      have c9b1 : decide (((((t433 ++ (⟨#[46]⟩ : ByteArray)) ++ t434) ++ (⟨#[46]⟩ : ByteArray)) ++ t435).size + 1 ≤ 9223372036854775807) = true := decide_eq_true c9
      try have c9b2 : (9223372036854775807 < ((((t433 ++ (⟨#[46]⟩ : ByteArray)) ++ t434) ++ (⟨#[46]⟩ : ByteArray)) ++ t435).size + 1) = False := eq_false (Nat.not_lt.2 c9)
      try have c9b3 := c9b2
      try simp only [ByteArray.size_append, Hand.lit_size, List.length_cons, List.length_nil, Nat.zero_add, Nat.reduceAdd] at c9b3
      replace H := Option.bind_eq_some_iff.mp H
      obtain ⟨t436, A100, H⟩ := H
      replace H : (if (((((t433 ++ (⟨#[46]⟩ : ByteArray)) ++ t434) ++ (⟨#[46]⟩ : ByteArray)) ++ t435) ++ (⟨#[46]⟩ : ByteArray)).size + t436.size ≤ 9223372036854775807 then (some ((((((t433 ++ (⟨#[46]⟩ : ByteArray)) ++ t434) ++ (⟨#[46]⟩ : ByteArray)) ++ t435) ++ (⟨#[46]⟩ : ByteArray)) ++ t436)) else (none)) = some r := H
      have A10 := Aside0.mk A100
      clear A100
      by_cases c11 : (((((t433 ++ (⟨#[46]⟩ : ByteArray)) ++ t434) ++ (⟨#[46]⟩ : ByteArray)) ++ t435) ++ (⟨#[46]⟩ : ByteArray)).size + t436.size ≤ 9223372036854775807
      ·rw [if_pos c11] at H
       have c11b0 := eq_true c11
       have c11b1 : decide ((((((t433 ++ (⟨#[46]⟩ : ByteArray)) ++ t434) ++ (⟨#[46]⟩ : ByteArray)) ++ t435) ++ (⟨#[46]⟩ : ByteArray)).size + t436.size ≤ 9223372036854775807) = true := decide_eq_true c11
       try have c11b2 : (9223372036854775807 < (((((t433 ++ (⟨#[46]⟩ : ByteArray)) ++ t434) ++ (⟨#[46]⟩ : ByteArray)) ++ t435) ++ (⟨#[46]⟩ : ByteArray)).size + t436.size) = False := eq_false (Nat.not_lt.2 c11)
       try have c11b3 := c11b2
       try simp only [ByteArray.size_append, Hand.lit_size, List.length_cons, List.length_nil, Nat.zero_add, Nat.reduceAdd] at c11b3
       obtain rfl := Option.some.inj H
       go_enter Tryd.func55, Tryd.ntmps55
       go_wp2_with (first | ((with_reducible refine gate_callee (f := 99) rfl ?_); refine goesL_ (some 6) rfl rfl Tryd.func99 (by kernel_rfl) rfl #[.int .i64 ((Int.tdiv a0 16777216) % 4294967296)] rfl (by (try simp only [List.map_toArray, List.map_cons, List.map_nil]); first | done | rfl | (simp only [List.length_drop, List.length_take]; rfl)) ?_; (with_reducible refine (crossbuckref02_Digits.calls k ((Int.tdiv a0 16777216) % 4294967296) t433 _ A2.out).mono ?_); rintro e w12 ⟨rfl, hb⟩; refine ⟨_, rfl, ?_⟩; have n0_ := Aside0.mk (below_step (by repeat (first | (with_reducible first | exact HB.out | apply below_alloc | apply pw_below_drewN | apply below_drew1) | exact HB.out)) hb); clear HB; have HB := n0_; clear n0_; (try clear hb); (try clear hb2); (try clear hk); (try clear hi)) | ((with_reducible refine gate_callee (f := 99) rfl ?_); refine goesL_ (some 12) rfl rfl Tryd.func99 (by kernel_rfl) rfl #[.int .i64 ((Int.tdiv a0 65536) % 256)] rfl (by (try simp only [List.map_toArray, List.map_cons, List.map_nil]); first | done | rfl | (simp only [List.length_drop, List.length_take]; rfl)) ?_; (with_reducible refine (crossbuckref02_Digits.calls k ((Int.tdiv a0 65536) % 256) t434 _ A4.out).mono ?_); rintro e w13 ⟨rfl, hb⟩; refine ⟨_, rfl, ?_⟩; have n0_ := Aside0.mk (below_step (by repeat (first | (with_reducible first | exact HB.out | apply below_alloc | apply pw_below_drewN | apply below_drew1) | exact HB.out)) hb); clear HB; have HB := n0_; clear n0_; (try clear hb); (try clear hb2); (try clear hk); (try clear hi)) | ((with_reducible refine gate_callee (f := 99) rfl ?_); refine goesL_ (some 19) rfl rfl Tryd.func99 (by kernel_rfl) rfl #[.int .i64 ((Int.tdiv a0 256) % 256)] rfl (by (try simp only [List.map_toArray, List.map_cons, List.map_nil]); first | done | rfl | (simp only [List.length_drop, List.length_take]; rfl)) ?_; (with_reducible refine (crossbuckref02_Digits.calls k ((Int.tdiv a0 256) % 256) t435 _ A7.out).mono ?_); rintro e w14 ⟨rfl, hb⟩; refine ⟨_, rfl, ?_⟩; have n0_ := Aside0.mk (below_step (by repeat (first | (with_reducible first | exact HB.out | apply below_alloc | apply pw_below_drewN | apply below_drew1) | exact HB.out)) hb); clear HB; have HB := n0_; clear n0_; (try clear hb); (try clear hb2); (try clear hk); (try clear hi)) | ((with_reducible refine gate_callee (f := 99) rfl ?_); refine goesL_ (some 25) rfl rfl Tryd.func99 (by kernel_rfl) rfl #[.int .i64 (wrap64 (Int.tmod a0 256))] rfl (by (try simp only [List.map_toArray, List.map_cons, List.map_nil]); first | done | rfl | (simp only [List.length_drop, List.length_take]; rfl)) ?_; (with_reducible refine (crossbuckref02_Digits.calls k (wrap64 (Int.tmod a0 256)) t436 _ A10.out).mono ?_); rintro e w15 ⟨rfl, hb⟩; refine ⟨_, rfl, ?_⟩; have n0_ := Aside0.mk (below_step (by repeat (first | (with_reducible first | exact HB.out | apply below_alloc | apply pw_below_drewN | apply below_drew1) | exact HB.out)) hb); clear HB; have HB := n0_; clear n0_; (try clear hb); (try clear hb2); (try clear hk); (try clear hi)))
       go_ret
       exact ⟨by first | rfl | (simp [errW_none, errW_some] <;> rfl) | (simp [*, errW_none, errW_some] <;> rfl), by repeat (first | (with_reducible first | exact HB.out | apply below_alloc | apply pw_below_drewN | apply below_drew1) | exact HB.out)⟩
      ·rw [if_neg c11] at H
       exact absurd H (by simp)
     ·rw [if_neg c9] at H
      exact absurd H (by simp)
    ·rw [if_neg c8] at H
     exact absurd H (by simp)
   ·rw [if_neg c6] at H
    exact absurd H (by simp)
  ·rw [if_neg c5] at H
   exact absurd H (by simp)
 ·rw [if_neg c3] at H
  exact absurd H (by simp)

end Go.Proofs.YtloclimoffhbhaaDoor.PFx

namespace Go.Proofs.YtloclimoffhbhaaDoor.PFx
open Go.RowKit Go.Proofs.YtloclimoffhbhaaDoorW.PrintWords Go.Proofs.YtloclimoffhbhaaDoorW.PrintLast Go.Proofs.YtloclimoffhbhaaDoorW.PrintMore
attribute [local go_sem] max2_int min2_int max_two min_two max_three min_three max_four min_four   -- for this text's walks alone
set_option linter.unusedVariables false
set_option linter.unusedSimpArgs false

/-! ### crossbuckref03_Print: function 63 -/
def crossbuckref03_Print.f (k : Nat) (a0_0 : Int) (a0_1 : Int) : Option (ByteArray) := (crossbuckref02_Addr.f k a0_0).bind fun t438 => (if t438.size + 1 ≤ 9223372036854775807 then ((crossbuckref02_Digits.f k a0_1).bind fun t439 => (if (t438 ++ (⟨#[47]⟩ : ByteArray)).size + t439.size ≤ 9223372036854775807 then (some ((t438 ++ (⟨#[47]⟩ : ByteArray)) ++ t439)) else (none))) else (none))
theorem crossbuckref03_Print.mono : ∀ a0 a1 k, LeO (crossbuckref03_Print.f k a0 a1) (crossbuckref03_Print.f (k + 1) a0 a1) := by
 intro a0 a1 k
 unfold crossbuckref03_Print.f
 repeat' first
   | (with_reducible exact crossbuckref02_Addr.mono _ _)
   | (with_reducible exact crossbuckref02_Digits.mono _ _)
   | (with_reducible exact LeO.refl _)
   | (with_reducible exact LeO.none _)
   | (with_reducible refine LeO.ite ?_ ?_)
   | (with_reducible refine LeO.bind ?_ (fun _ => ?_))
   | exact crossbuckref02_Addr.mono _ _
   | exact crossbuckref02_Digits.mono _ _
   | exact LeO.none _
   | refine LeO.ite ?_ ?_
   | refine LeO.bind ?_ (fun _ => ?_)
def crossbuckref03_Print.T1 : Bool × List (List Nat × List Nat) := (true, [([], []), ([0], [0]), ([1], [1]), ([2], [2]), ([], []), ([4], [4]), ([5, 2], [5]), ([3, 6], [3, 6]), ([7, 6, 0, 1, 2, 3, 4, 5, 6, 7], [7])])
def crossbuckref03_Print.B1 : List Nat := [0, 1, 3, 7, 0, 16, 55, 127, 255]
theorem crossbuckref03_Print.tab1 : rtab .any (opsOf Tryd.f63 1) = crossbuckref03_Print.T1 := by kernel_rfl
theorem crossbuckref03_Print.bits1 : waitsOk crossbuckref03_Print.T1.2 crossbuckref03_Print.B1 = true := by kernel_rfl
set_option maxHeartbeats 8000000 in
set_option maxRecDepth 100000 in
theorem crossbuckref03_Print.calls (k : Nat) (a0_0 : Int) (a0_1 : Int) (r : ByteArray) (w : World) (h : crossbuckref03_Print.f k a0_0 a0_1 = some r) :
  Calls Tryd.prog 63 #[.agg #[.int .u32 a0_0, .int .i64 a0_1]] w fun e w' => e = .returned (.string r) ∧ Below w.heap.size w w' := by
 have hu42 := Tryd.underlying42
 have HB := Aside0.mk (Below.refl w.heap.size w)
 have H : ((crossbuckref02_Addr.f k a0_0).bind fun t438 => (if t438.size + 1 ≤ 9223372036854775807 then ((crossbuckref02_Digits.f k a0_1).bind fun t439 => (if (t438 ++ (⟨#[47]⟩ : ByteArray)).size + t439.size ≤ 9223372036854775807 then (some ((t438 ++ (⟨#[47]⟩ : ByteArray)) ++ t439)) else (none))) else (none))) = some r := h
 clear h
 replace H := Option.bind_eq_some_iff.mp H
 obtain ⟨t438, A20, H⟩ := H
 replace H : (if t438.size + 1 ≤ 9223372036854775807 then ((crossbuckref02_Digits.f k a0_1).bind fun t439 => (if (t438 ++ (⟨#[47]⟩ : ByteArray)).size + t439.size ≤ 9223372036854775807 then (some ((t438 ++ (⟨#[47]⟩ : ByteArray)) ++ t439)) else (none))) else (none)) = some r := H
 have A2 := Aside0.mk A20
 clear A20
 by_cases c3 : t438.size + 1 ≤ 9223372036854775807
 ·rw [if_pos c3] at H
  have c3b0 := eq_true c3
  have c3b1 : decide (t438.size + 1 ≤ 9223372036854775807) = true := decide_eq_true c3
  try have c3b2 : (9223372036854775807 < t438.size + 1) = False := eq_false (Nat.not_lt.2 c3)
  replace H := Option.bind_eq_some_iff.mp H
  obtain ⟨t439, A40, H⟩ := H
  replace H : (if (t438 ++ (⟨#[47]⟩ : ByteArray)).size + t439.size ≤ 9223372036854775807 then (some ((t438 ++ (⟨#[47]⟩ : ByteArray)) ++ t439)) else (none)) = some r := H
  have A4 := Aside0.mk A40
  clear A40
  by_cases c5 : (t438 ++ (⟨#[47]⟩ : ByteArray)).size + t439.size ≤ 9223372036854775807
  ·rw [if_pos c5] at H
   have c5b0 := eq_true c5
   have c5b1 : decide ((t438 ++ (⟨#[47]⟩ : ByteArray)).size + t439.size ≤ 9223372036854775807) = true := decide_eq_true c5
   try have c5b2 : (9223372036854775807 < (t438 ++ (⟨#[47]⟩ : ByteArray)).size + t439.size) = False := eq_false (Nat.not_lt.2 c5)
   try have c5b3 := c5b2
   try simp only [ByteArray.size_append, Hand.lit_size, List.length_cons, List.length_nil, Nat.zero_add, Nat.reduceAdd] at c5b3
   obtain rfl := Option.some.inj H
   go_enter Tryd.func63, Tryd.ntmps63
   try go_wp2_with (first | ((with_reducible refine gate_dst (N := 1) rfl ?_); refine box_event ?hg (N := 1) ?hd (cs := #[.int .u32 a0_0, .int .i64 a0_1]) (t := 42) ?hr ?_; (case hd => rfl); (case hg => rfl); (case hr => first | (go_simp; done) | (go_simp; rfl)); intro gb437 hg w6 hbox hb; have n0_ := Aside0.mk (below_step (by repeat (first | (with_reducible first | exact HB.out | apply below_alloc | apply pw_below_drewN | apply below_drew1) | exact HB.out)) hb); have n1_ := Aside0.mk (hbox); have n2_ := Aside0.mk ((by rw [hg]; exact (below_size (by repeat (first | (with_reducible first | exact HB.out | apply below_alloc | apply pw_below_drewN | apply below_drew1) | exact HB.out))) : w.heap.size ≤ gb437)); have n3_ := Aside0.mk ((by rw [hg]; exact (below_size (by repeat (first | (with_reducible first | exact HB.out | apply below_alloc | apply pw_below_drewN | apply below_drew1) | exact HB.out))) : w.heap.size ≤ gb437)); clear HB; have HB := n0_; have BK437 := n1_; have GW437 := n2_; have GE437 := n3_; clear n0_ n1_ n2_ n3_; clear hb hbox hg))
   have n0_ := Aside0.mk (blk_drew BK437.out)
   have n1_ := Aside0.mk (below_drew1 HB.out)
   clear BK437
   clear HB
   have BK437 := n0_
   have HB := n1_
   clear n0_ n1_
   refine start_ (n := 9) (S := fun w' => w'.cell? ⟨gb437, 0, none⟩ = some (.int .u32 a0_0) ∧ w'.cell? ⟨gb437, 1, none⟩ = some (.int .i64 a0_1)) (ds := []) #[false, false, false, false, false, false, false, false, false] (by kernel_rfl) rfl rfl ⟨(blk_cell BK437.out 0).trans rfl, (blk_cell BK437.out 1).trans rfl⟩ (fun hHeld => ?_); refine with_tabW crossbuckref03_Print.tab1 crossbuckref03_Print.bits1 (fun HT_ HW_ => ?_)
   generalize w6.drew = w7 at BK437 HB hHeld ⊢
   refine pure_ (i := 0) (N := some 3) (v := ?_) (a' := ?_) #[true, false, false, false, false, false, false, false, false] rfl rfl (any_of HT_.out (by kernel_rfl)) (fun _ _ _ h => h) (Or.inl ⟨by rfl, ?_⟩) ?_ ?_
   rotate_left
   ·intro w'
    go_simp
    with_reducible rfl
   rotate_left
   ·simp only [Act.put, List.setIfInBounds_toArray, List.set_cons_zero, List.set_cons_succ, i64_w, i32_w]
    rfl
   refine pure_ (i := 4) (N := some 7) (v := ?_) (a' := ?_) #[true, false, false, false, true, false, false, false, false] rfl rfl (any_of HT_.out (by kernel_rfl)) (fun _ _ _ h => h) (Or.inl ⟨by rfl, ?_⟩) ?_ ?_
   rotate_left
   ·intro w'
    go_simp
    with_reducible rfl
   rotate_left
   ·simp only [Act.put, List.setIfInBounds_toArray, List.set_cons_zero, List.set_cons_succ, i64_w, i32_w]
    rfl
   refine take_ (i := 1) (N := some 4) (v := ?_) (a' := ?_) #[true, true, false, false, true, false, false, false, false] rfl rfl (take_ofW HT_.out HW_.out (by kernel_rfl)) (fun _ _ _ h => h) (Or.inl ⟨by rfl, ?_⟩) hHeld ?_ ?_
   rotate_left
   ·rintro w' ⟨s0, s1⟩
    go_simp
    with_reducible rfl
   rotate_left
   ·simp only [Act.put, List.setIfInBounds_toArray, List.set_cons_zero, List.set_cons_succ, i64_w, i32_w]
    rfl
   refine take_ (i := 5) (N := some 8) (v := ?_) (a' := ?_) #[true, true, false, false, true, true, false, false, false] rfl rfl (take_ofW HT_.out HW_.out (by kernel_rfl)) (fun _ _ _ h => h) (Or.inl ⟨by rfl, ?_⟩) hHeld ?_ ?_
   rotate_left
   ·rintro w' ⟨s0, s1⟩
    go_simp
    with_reducible rfl
   rotate_left
   ·simp only [Act.put, List.setIfInBounds_toArray, List.set_cons_zero, List.set_cons_succ, i64_w, i32_w]
    rfl
   refine one_ (i := 2) (N := some 5) #[true, true, true, false, true, true, false, false, false] rfl rfl (one_of HT_.out (by kernel_rfl)) (by decide) (fun K hK => ?_)
   refine goes_ Tryd.func55 (by kernel_rfl) rfl #[.int .u32 a0_0] (by rfl) rfl rfl (by (try simp only [List.map_toArray, List.map_cons, List.map_nil]); first | done | rfl | (simp only [List.length_drop, List.length_take]; rfl)) ?_
   with_reducible refine (crossbuckref02_Addr.calls k a0_0 t438 _ A2.out).mono ?_
   rintro e w8 ⟨rfl, hb⟩
   refine ⟨_, rfl, ?_⟩
   have n0_ := Aside0.mk (blk_below (g := gb437) (o := .cells #[.int .u32 a0_0, .int .i64 a0_1] 42 (0, 0)) (by (with_reducible repeat (first | refine blk_drewN ?_ _ | refine blk_drew ?_ | refine blk_alloc ?_ _)); exact BK437.out) hb)
   have n1_ := Aside0.mk (below_step (by repeat (first | (with_reducible first | exact HB.out | apply below_alloc | apply pw_below_drewN | apply below_drew1 | refine below_set ?_ GE437.out) | exact HB.out)) hb)
   clear BK437
   clear HB
   have BK437 := n0_
   have HB := n1_
   clear n0_ n1_
   (try clear hb)
   (try clear hb2)
   (try clear hk)
   (try clear hi)
   refine hK.out _ _ ⟨(blk_cell BK437.out 0).trans rfl, (blk_cell BK437.out 1).trans rfl⟩ (fun hHeld => ?_)
   clear hK K
   refine norm_ (a' := ?_) ?_ ?_
   rotate_left
   ·show Act.put _ (some 5) _ = _
    simp only [Act.put, List.setIfInBounds_toArray, List.set_cons_zero, List.set_cons_succ, i64_w, i32_w]
    rfl
   refine pure_ (i := 3) (N := some 6) (v := ?_) (a' := ?_) #[true, true, true, true, true, true, false, false, false] rfl rfl (any_of HT_.out (by kernel_rfl)) (fun _ _ _ h => h) (Or.inl ⟨by rfl, ?_⟩) ?_ ?_
   rotate_left
   ·intro w'
    go_simp
    with_reducible rfl
   rotate_left
   ·simp only [Act.put, List.setIfInBounds_toArray, List.set_cons_zero, List.set_cons_succ, i64_w, i32_w]
    rfl
   refine one_ (i := 6) (N := some 9) #[true, true, true, true, true, true, true, false, false] rfl rfl (one_of HT_.out (by kernel_rfl)) (by decide) (fun K hK => ?_)
   refine goes_ Tryd.func99 (by kernel_rfl) rfl #[.int .i64 a0_1] (by rfl) rfl rfl (by (try simp only [List.map_toArray, List.map_cons, List.map_nil]); first | done | rfl | (simp only [List.length_drop, List.length_take]; rfl)) ?_
   with_reducible refine (crossbuckref02_Digits.calls k a0_1 t439 _ A4.out).mono ?_
   rintro e w9 ⟨rfl, hb⟩
   refine ⟨_, rfl, ?_⟩
   have n0_ := Aside0.mk (blk_below (g := gb437) (o := .cells #[.int .u32 a0_0, .int .i64 a0_1] 42 (0, 0)) (by (with_reducible repeat (first | refine blk_drewN ?_ _ | refine blk_drew ?_ | refine blk_alloc ?_ _)); exact BK437.out) hb)
   have n1_ := Aside0.mk (below_step (by repeat (first | (with_reducible first | exact HB.out | apply below_alloc | apply pw_below_drewN | apply below_drew1 | refine below_set ?_ GE437.out) | exact HB.out)) hb)
   clear BK437
   clear HB
   have BK437 := n0_
   have HB := n1_
   clear n0_ n1_
   (try clear hb)
   (try clear hb2)
   (try clear hk)
   (try clear hi)
   refine hK.out _ _ ⟨(blk_cell BK437.out 0).trans rfl, (blk_cell BK437.out 1).trans rfl⟩ (fun hHeld => ?_)
   clear hK K
   refine norm_ (a' := ?_) ?_ ?_
   rotate_left
   ·show Act.put _ (some 9) _ = _
    simp only [Act.put, List.setIfInBounds_toArray, List.set_cons_zero, List.set_cons_succ, i64_w, i32_w]
    rfl
   refine pure_ (i := 7) (N := some 10) (v := ?_) (a' := ?_) #[true, true, true, true, true, true, true, true, false] rfl rfl (any_of HT_.out (by kernel_rfl)) (fun _ _ _ h => h) (Or.inl ⟨by rfl, ?_⟩) ?_ ?_
   rotate_left
   ·intro w'
    go_simp
    with_reducible rfl
   rotate_left
   ·simp only [Act.put, List.setIfInBounds_toArray, List.set_cons_zero, List.set_cons_succ, i64_w, i32_w]
    rfl
   refine pure_ (i := 8) (N := some 2) (v := ?_) (a' := ?_) #[true, true, true, true, true, true, true, true, true] rfl rfl (any_of HT_.out (by kernel_rfl)) (fun _ _ _ h => h) (Or.inl ⟨by rfl, ?_⟩) ?_ ?_
   rotate_left
   ·intro w'
    go_simp
    with_reducible rfl
   rotate_left
   ·simp only [Act.put, List.setIfInBounds_toArray, List.set_cons_zero, List.set_cons_succ, i64_w, i32_w]
    rfl
   refine done_ (done_of HT_.out (by kernel_rfl)) ?_
   try go_wp2
   go_ret
   exact ⟨by first | rfl | (simp [errW_none, errW_some] <;> rfl) | (simp [*, errW_none, errW_some] <;> rfl), by repeat (first | (with_reducible first | exact HB.out | apply below_alloc | apply pw_below_drewN | apply below_drew1 | refine below_set ?_ GE437.out) | exact HB.out)⟩
  ·rw [if_neg c5] at H
   exact absurd H (by simp)
 ·rw [if_neg c3] at H
  exact absurd H (by simp)

end Go.Proofs.YtloclimoffhbhaaDoor.PFx

namespace Go.Proofs.YtloclimoffhbhaaDoor.PFx
open Go.RowKit Go.Proofs.YtloclimoffhbhaaDoorW.PrintWords Go.Proofs.YtloclimoffhbhaaDoorW.PrintLast Go.Proofs.YtloclimoffhbhaaDoorW.PrintMore
attribute [local go_sem] max2_int min2_int max_two min_two max_three min_three max_four min_four   -- for this text's walks alone
set_option linter.unusedVariables false
set_option linter.unusedSimpArgs false

/-! ### crossbuckref04_Print: function 67 -/
def crossbuckref04_Print.j0 : Nat → ByteArray → Int → Int → Int → Int → Int → Int → Int → Int → Int → Option (ByteArray)
 | 0, _, _, _, _, _, _, _, _, _, _ => none
 | k + 1, x3, x441000, x441001, x441002, x441003, x441004, x441005, x441006, x441007, x441008 => (crossbuckref03_Print.f k x441000 x441001).bind fun t442 => (if t442.size + 1 ≤ 9223372036854775807 then ((crossbuckref03_Print.f k x441002 x441003).bind fun t443 => (if (t442 ++ (⟨#[32]⟩ : ByteArray)).size + t443.size ≤ 9223372036854775807 then (if ((t442 ++ (⟨#[32]⟩ : ByteArray)) ++ t443).size + 1 ≤ 9223372036854775807 then (if (((t442 ++ (⟨#[32]⟩ : ByteArray)) ++ t443) ++ (⟨#[32]⟩ : ByteArray)).size + x3.size ≤ 9223372036854775807 then (if ((((t442 ++ (⟨#[32]⟩ : ByteArray)) ++ t443) ++ (⟨#[32]⟩ : ByteArray)) ++ x3).size + 1 ≤ 9223372036854775807 then ((crossbuckref03_PrintRange.f k x441005 x441006).bind fun t444 => (if (((((t442 ++ (⟨#[32]⟩ : ByteArray)) ++ t443) ++ (⟨#[32]⟩ : ByteArray)) ++ x3) ++ (⟨#[32]⟩ : ByteArray)).size + t444.size ≤ 9223372036854775807 then (if ((((((t442 ++ (⟨#[32]⟩ : ByteArray)) ++ t443) ++ (⟨#[32]⟩ : ByteArray)) ++ x3) ++ (⟨#[32]⟩ : ByteArray)) ++ t444).size + 1 ≤ 9223372036854775807 then ((crossbuckref03_PrintRange.f k x441007 x441008).bind fun t445 => (if (((((((t442 ++ (⟨#[32]⟩ : ByteArray)) ++ t443) ++ (⟨#[32]⟩ : ByteArray)) ++ x3) ++ (⟨#[32]⟩ : ByteArray)) ++ t444) ++ (⟨#[32]⟩ : ByteArray)).size + t445.size ≤ 9223372036854775807 then (some ((((((((t442 ++ (⟨#[32]⟩ : ByteArray)) ++ t443) ++ (⟨#[32]⟩ : ByteArray)) ++ x3) ++ (⟨#[32]⟩ : ByteArray)) ++ t444) ++ (⟨#[32]⟩ : ByteArray)) ++ t445)) else (none))) else (none)) else (none))) else (none)) else (none)) else (none)) else (none))) else (none))
def crossbuckref04_Print.f (k : Nat) (a0_0 : Int) (a0_1 : Int) (a0_2 : Int) (a0_3 : Int) (a0_4 : Int) (a0_5 : Int) (a0_6 : Int) (a0_7 : Int) (a0_8 : Int) : Option (ByteArray) := if a0_4 ≥ 0 then ((crossbuckref02_Digits.f k a0_4).bind fun t441 => (crossbuckref04_Print.j0 k t441 a0_0 a0_1 a0_2 a0_3 a0_4 a0_5 a0_6 a0_7 a0_8)) else (crossbuckref04_Print.j0 k (⟨#[97, 110, 121]⟩ : ByteArray) a0_0 a0_1 a0_2 a0_3 a0_4 a0_5 a0_6 a0_7 a0_8)
theorem crossbuckref04_Print.mono_l : ∀ k, (∀ y0 y1 y2 y3 y4 y5 y6 y7 y8 y9, LeO (crossbuckref04_Print.j0 k y0 y1 y2 y3 y4 y5 y6 y7 y8 y9) (crossbuckref04_Print.j0 (k + 1) y0 y1 y2 y3 y4 y5 y6 y7 y8 y9))
 | 0 => fun _ _ _ _ _ _ _ _ _ _ r h => by simp [crossbuckref04_Print.j0] at h
 | k + 1 => by
  have ih0 := crossbuckref04_Print.mono_l k
  ·intro y0 y1 y2 y3 y4 y5 y6 y7 y8 y9
   unfold crossbuckref04_Print.j0
   repeat' first
   | (with_reducible exact ih0 _ _ _ _ _ _ _ _ _ _)
   | (with_reducible exact crossbuckref02_Digits.mono _ _)
   | (with_reducible exact crossbuckref03_Print.mono _ _ _)
   | (with_reducible exact crossbuckref03_PrintRange.mono _ _ _)
   | (with_reducible exact LeO.refl _)
   | (with_reducible exact LeO.none _)
   | (with_reducible refine LeO.ite ?_ ?_)
   | (with_reducible refine LeO.bind ?_ (fun _ => ?_))
   | exact ih0 _ _ _ _ _ _ _ _ _ _
   | exact crossbuckref02_Digits.mono _ _
   | exact crossbuckref03_Print.mono _ _ _
   | exact crossbuckref03_PrintRange.mono _ _ _
   | exact LeO.none _
   | refine LeO.ite ?_ ?_
   | refine LeO.bind ?_ (fun _ => ?_)
theorem crossbuckref04_Print.mono : ∀ a0 a1 a2 a3 a4 a5 a6 a7 a8 k, LeO (crossbuckref04_Print.f k a0 a1 a2 a3 a4 a5 a6 a7 a8) (crossbuckref04_Print.f (k + 1) a0 a1 a2 a3 a4 a5 a6 a7 a8) := by
 intro a0 a1 a2 a3 a4 a5 a6 a7 a8 k
 have ih0 := crossbuckref04_Print.mono_l k
 unfold crossbuckref04_Print.f
 repeat' first
   | (with_reducible exact ih0 _ _ _ _ _ _ _ _ _ _)
   | (with_reducible exact crossbuckref02_Digits.mono _ _)
   | (with_reducible exact crossbuckref03_Print.mono _ _ _)
   | (with_reducible exact crossbuckref03_PrintRange.mono _ _ _)
   | (with_reducible exact LeO.refl _)
   | (with_reducible exact LeO.none _)
   | (with_reducible refine LeO.ite ?_ ?_)
   | (with_reducible refine LeO.bind ?_ (fun _ => ?_))
   | exact ih0 _ _ _ _ _ _ _ _ _ _
   | exact crossbuckref02_Digits.mono _ _
   | exact crossbuckref03_Print.mono _ _ _
   | exact crossbuckref03_PrintRange.mono _ _ _
   | exact LeO.none _
   | refine LeO.ite ?_ ?_
   | refine LeO.bind ?_ (fun _ => ?_)
def crossbuckref04_Print.T4 : Bool × List (List Nat × List Nat) := (true, [([], []), ([0], [0]), ([1], [1]), ([2], [2]), ([], []), ([4], [4]), ([5, 2], [5]), ([3, 6], [3, 6]), ([7], [7]), ([], []), ([8, 9], [8, 9]), ([10], [10]), ([], []), ([12], [12]), ([13, 6], [13]), ([11, 14], [11, 14]), ([15], [15]), ([], []), ([17], [17]), ([18, 14], [18]), ([16, 19], [16, 19]), ([20, 19, 0, 1, 2, 3, 4, 5, 6, 7, 8, 9, 10, 11, 12, 13, 14, 15, 16, 17, 18, 19, 20], [20])])
def crossbuckref04_Print.B4 : List Nat := [0, 1, 3, 7, 0, 16, 55, 127, 255, 0, 1023, 2047, 0, 4096, 12407, 32767, 65535, 0, 131072, 422007, 1048575, 2097151]
theorem crossbuckref04_Print.tab4 : rtab .any (opsOf Tryd.f67 4) = crossbuckref04_Print.T4 := by kernel_rfl
theorem crossbuckref04_Print.bits4 : waitsOk crossbuckref04_Print.T4.2 crossbuckref04_Print.B4 = true := by kernel_rfl
set_option maxHeartbeats 8000000 in
set_option maxRecDepth 100000 in
theorem crossbuckref04_Print.calls (k : Nat) (a0_0 : Int) (a0_1 : Int) (a0_2 : Int) (a0_3 : Int) (a0_4 : Int) (a0_5 : Int) (a0_6 : Int) (a0_7 : Int) (a0_8 : Int) (r : ByteArray) (w : World) (h : crossbuckref04_Print.f k a0_0 a0_1 a0_2 a0_3 a0_4 a0_5 a0_6 a0_7 a0_8 = some r) :
  Calls Tryd.prog 67 #[.agg #[.int .u32 a0_0, .int .i64 a0_1, .int .u32 a0_2, .int .i64 a0_3, .int .i64 a0_4, .int .u16 a0_5, .int .u16 a0_6, .int .u16 a0_7, .int .u16 a0_8]] w fun e w' => e = .returned (.string r) ∧ Below w.heap.size w w' := by
 have hu77 := Tryd.underlying77
 have hu42 := Tryd.underlying42
 have hu61 := Tryd.underlying61
 have HB := Aside0.mk (Below.refl w.heap.size w)
 have H : (if a0_4 ≥ 0 then ((crossbuckref02_Digits.f k a0_4).bind fun t441 => (crossbuckref04_Print.j0 k t441 a0_0 a0_1 a0_2 a0_3 a0_4 a0_5 a0_6 a0_7 a0_8)) else (crossbuckref04_Print.j0 k (⟨#[97, 110, 121]⟩ : ByteArray) a0_0 a0_1 a0_2 a0_3 a0_4 a0_5 a0_6 a0_7 a0_8)) = some r := h
 clear h
 have HC2 := Aside0.mk H
 clear H
 go_enter Tryd.func67, Tryd.ntmps67
 go_upto_if 6 with (first | ((with_reducible refine gate_dst (N := 1) rfl ?_); refine box_event ?hg (N := 1) ?hd (cs := #[.int .u32 a0_0, .int .i64 a0_1, .int .u32 a0_2, .int .i64 a0_3, .int .i64 a0_4, .int .u16 a0_5, .int .u16 a0_6, .int .u16 a0_7, .int .u16 a0_8]) (t := 77) ?hr ?_; (case hd => rfl); (case hg => rfl); (case hr => first | (go_simp; done) | (go_simp; rfl)); intro gb440 hg w3 hbox hb; have n0_ := Aside0.mk (below_step (by repeat (first | (with_reducible first | exact HB.out | apply below_alloc | apply pw_below_drewN | apply below_drew1) | exact HB.out)) hb); have n1_ := Aside0.mk (hbox); have n2_ := Aside0.mk ((by rw [hg]; exact (below_size (by repeat (first | (with_reducible first | exact HB.out | apply below_alloc | apply pw_below_drewN | apply below_drew1) | exact HB.out))) : w.heap.size ≤ gb440)); have n3_ := Aside0.mk ((by rw [hg]; exact (below_size (by repeat (first | (with_reducible first | exact HB.out | apply below_alloc | apply pw_below_drewN | apply below_drew1) | exact HB.out))) : w.heap.size ≤ gb440)); clear HB; have HB := n0_; have BK440 := n1_; have GW440 := n2_; have GE440 := n3_; clear n0_ n1_ n2_ n3_; clear hb hbox hg; have hcz4_0 : w3.cell? ⟨gb440, 0, none⟩ = some (.int .u32 a0_0) := (blk_cell BK440.out 0).trans rfl; have hcz4_1 : w3.cell? ⟨gb440, 1, none⟩ = some (.int .i64 a0_1) := (blk_cell BK440.out 1).trans rfl; have hcz4_2 : w3.cell? ⟨gb440, 2, none⟩ = some (.int .u32 a0_2) := (blk_cell BK440.out 2).trans rfl; have hcz4_3 : w3.cell? ⟨gb440, 3, none⟩ = some (.int .i64 a0_3) := (blk_cell BK440.out 3).trans rfl; have hcz4_4 : w3.cell? ⟨gb440, 4, none⟩ = some (.int .i64 a0_4) := (blk_cell BK440.out 4).trans rfl; have hcz4_5 : w3.cell? ⟨gb440, 5, none⟩ = some (.int .u16 a0_5) := (blk_cell BK440.out 5).trans rfl; have hcz4_6 : w3.cell? ⟨gb440, 6, none⟩ = some (.int .u16 a0_6) := (blk_cell BK440.out 6).trans rfl; have hcz4_7 : w3.cell? ⟨gb440, 7, none⟩ = some (.int .u16 a0_7) := (blk_cell BK440.out 7).trans rfl; have hcz4_8 : w3.cell? ⟨gb440, 8, none⟩ = some (.int .u16 a0_8) := (blk_cell BK440.out 8).trans rfl; have hfz4_0 := blk_frozen BK440.out 0; have hfz4_1 := blk_frozen BK440.out 1; have hfz4_2 := blk_frozen BK440.out 2; have hfz4_3 := blk_frozen BK440.out 3; have hfz4_4 := blk_frozen BK440.out 4; have hfz4_5 := blk_frozen BK440.out 5; have hfz4_6 := blk_frozen BK440.out 6; have hfz4_7 := blk_frozen BK440.out 7; have hfz4_8 := blk_frozen BK440.out 8))
 (try simp only [Act.put, List.setIfInBounds_toArray, List.set_cons_zero, List.set_cons_succ])
 go_cut [3] (fun v3 wc => ∃ (kq : Nat) (x3_1 : ByteArray), v3 = .string x3_1 ∧ Aside0 (crossbuckref04_Print.j0 kq x3_1 a0_0 a0_1 a0_2 a0_3 a0_4 a0_5 a0_6 a0_7 a0_8 = some r) ∧ Aside0 (kq ≤ k) ∧ Aside0 (wc.heap[gb440]? = some (.cells #[.int .u32 a0_0, .int .i64 a0_1, .int .u32 a0_2, .int .i64 a0_3, .int .i64 a0_4, .int .u16 a0_5, .int .u16 a0_6, .int .u16 a0_7, .int .u16 a0_8] 77 (0, 0))) ∧ Aside0 (Below w.heap.size w wc))
 case first =>
  have H := HC2.out
  clear HC2
  by_cases c5 : a0_4 ≥ 0
  ·rw [if_pos c5] at H
   have c5b0 : decide (0 ≤ a0_4) = true := decide_eq_true c5
   clear c5
   (first | rw [c5b0] | (simp only [i64_w, i32_w]; rw [c5b0]) | skip)
   replace H := Option.bind_eq_some_iff.mp H
   obtain ⟨t441, A60, H⟩ := H
   replace H : (crossbuckref04_Print.j0 k t441 a0_0 a0_1 a0_2 a0_3 a0_4 a0_5 a0_6 a0_7 a0_8) = some r := H
   have A6 := Aside0.mk A60
   clear A60
   have H' := Aside0.mk H
   clear H
   have hcz7_0 : w3.cell? ⟨gb440, 0, none⟩ = some (.int .u32 a0_0) := (blk_cell BK440.out 0).trans rfl
   have hcz7_1 : w3.cell? ⟨gb440, 1, none⟩ = some (.int .i64 a0_1) := (blk_cell BK440.out 1).trans rfl
   have hcz7_2 : w3.cell? ⟨gb440, 2, none⟩ = some (.int .u32 a0_2) := (blk_cell BK440.out 2).trans rfl
   have hcz7_3 : w3.cell? ⟨gb440, 3, none⟩ = some (.int .i64 a0_3) := (blk_cell BK440.out 3).trans rfl
   have hcz7_4 : w3.cell? ⟨gb440, 4, none⟩ = some (.int .i64 a0_4) := (blk_cell BK440.out 4).trans rfl
   have hcz7_5 : w3.cell? ⟨gb440, 5, none⟩ = some (.int .u16 a0_5) := (blk_cell BK440.out 5).trans rfl
   have hcz7_6 : w3.cell? ⟨gb440, 6, none⟩ = some (.int .u16 a0_6) := (blk_cell BK440.out 6).trans rfl
   have hcz7_7 : w3.cell? ⟨gb440, 7, none⟩ = some (.int .u16 a0_7) := (blk_cell BK440.out 7).trans rfl
   have hcz7_8 : w3.cell? ⟨gb440, 8, none⟩ = some (.int .u16 a0_8) := (blk_cell BK440.out 8).trans rfl
   have hfz7_0 := blk_frozen BK440.out 0
   have hfz7_1 := blk_frozen BK440.out 1
   have hfz7_2 := blk_frozen BK440.out 2
   have hfz7_3 := blk_frozen BK440.out 3
   have hfz7_4 := blk_frozen BK440.out 4
   have hfz7_5 := blk_frozen BK440.out 5
   have hfz7_6 := blk_frozen BK440.out 6
   have hfz7_7 := blk_frozen BK440.out 7
   have hfz7_8 := blk_frozen BK440.out 8
   go_wp2_with (first | ((with_reducible refine gate_callee (f := 99) rfl ?_); refine goesL_ (some 9) rfl rfl Tryd.func99 (by kernel_rfl) rfl #[.int .i64 a0_4] rfl (by (try simp only [List.map_toArray, List.map_cons, List.map_nil]); first | done | rfl | (simp only [List.length_drop, List.length_take]; rfl)) ?_; (with_reducible refine (crossbuckref02_Digits.calls k a0_4 t441 _ A6.out).mono ?_); rintro e w8 ⟨rfl, hb⟩; refine ⟨_, rfl, ?_⟩; have n0_ := Aside0.mk (blk_below (g := gb440) (o := .cells #[.int .u32 a0_0, .int .i64 a0_1, .int .u32 a0_2, .int .i64 a0_3, .int .i64 a0_4, .int .u16 a0_5, .int .u16 a0_6, .int .u16 a0_7, .int .u16 a0_8] 77 (0, 0)) (by (with_reducible repeat (first | refine blk_drewN ?_ _ | refine blk_drew ?_ | refine blk_alloc ?_ _)); exact BK440.out) hb); have n1_ := Aside0.mk (below_step (by repeat (first | (with_reducible first | exact HB.out | apply below_alloc | apply pw_below_drewN | apply below_drew1 | refine below_set ?_ GE440.out) | exact HB.out)) hb); clear BK440; clear HB; have BK440 := n0_; have HB := n1_; clear n0_ n1_; (try clear hb); (try clear hb2); (try clear hk); (try clear hi)))
   go_meet
   case rel => exact ⟨_, (t441), (by first | rfl | (simp; done) | (simp [*]; done)), H', ⟨by first | omega | exact Nat.le_refl _⟩, ⟨by (with_reducible repeat (first | refine blk_drewN ?_ _ | refine blk_drew ?_ | refine blk_alloc ?_ _)); exact BK440.out⟩, ⟨by repeat (first | (with_reducible first | exact HB.out | apply below_alloc | apply pw_below_drewN | apply below_drew1 | refine below_set ?_ GE440.out) | exact HB.out)⟩⟩
  ·rw [if_neg c5] at H
   have c5b0 : decide (0 ≤ a0_4) = false := decide_eq_false c5
   clear c5
   (first | rw [c5b0] | (simp only [i64_w, i32_w]; rw [c5b0]) | skip)
   have H' := Aside0.mk H
   clear H
   go_wp2
   go_meet
   case rel => exact ⟨_, ((⟨#[97, 110, 121]⟩ : ByteArray)), (by first | rfl | (simp; done) | (simp [*]; done)), H', ⟨by first | omega | exact Nat.le_refl _⟩, ⟨by (with_reducible repeat (first | refine blk_drewN ?_ _ | refine blk_drew ?_ | refine blk_alloc ?_ _)); exact BK440.out⟩, ⟨by repeat (first | (with_reducible first | exact HB.out | apply below_alloc | apply pw_below_drewN | apply below_drew1 | refine below_set ?_ GE440.out) | exact HB.out)⟩⟩
 case rest =>
  clear HC2
  try clear p2
  try clear c5
  try clear c5b0
  try clear c6
  try clear hcz4_0
  try clear hcz4_1
  try clear hcz4_2
  try clear hcz4_3
  try clear hcz4_4
  try clear hcz4_5
  try clear hcz4_6
  try clear hcz4_7
  try clear hcz4_8
  try clear hcz7_0
  try clear hcz7_1
  try clear hcz7_2
  try clear hcz7_3
  try clear hcz7_4
  try clear hcz7_5
  try clear hcz7_6
  try clear hcz7_7
  try clear hcz7_8
  try clear hfz4_0
  try clear hfz4_1
  try clear hfz4_2
  try clear hfz4_3
  try clear hfz4_4
  try clear hfz4_5
  try clear hfz4_6
  try clear hfz4_7
  try clear hfz4_8
  try clear hfz7_0
  try clear hfz7_1
  try clear hfz7_2
  try clear hfz7_3
  try clear hfz7_4
  try clear hfz7_5
  try clear hfz7_6
  try clear hfz7_7
  try clear hfz7_8
  obtain ⟨kq, x3_1, rfl, HA, HJ1, BK440, HB⟩ := hcut
  cases kq with
  | zero => exact absurd HA.out (by simp [crossbuckref04_Print.j0])
  | succ kj1 =>
   have H := HA.out
   clear HA
   simp only [crossbuckref04_Print.j0] at H
   replace H := Option.bind_eq_some_iff.mp H
   obtain ⟨t442, A90, H⟩ := H
   replace H : (if t442.size + 1 ≤ 9223372036854775807 then ((crossbuckref03_Print.f kj1 a0_2 a0_3).bind fun t443 => (if (t442 ++ (⟨#[32]⟩ : ByteArray)).size + t443.size ≤ 9223372036854775807 then (if ((t442 ++ (⟨#[32]⟩ : ByteArray)) ++ t443).size + 1 ≤ 9223372036854775807 then (if (((t442 ++ (⟨#[32]⟩ : ByteArray)) ++ t443) ++ (⟨#[32]⟩ : ByteArray)).size + x3_1.size ≤ 9223372036854775807 then (if ((((t442 ++ (⟨#[32]⟩ : ByteArray)) ++ t443) ++ (⟨#[32]⟩ : ByteArray)) ++ x3_1).size + 1 ≤ 9223372036854775807 then ((crossbuckref03_PrintRange.f kj1 a0_5 a0_6).bind fun t444 => (if (((((t442 ++ (⟨#[32]⟩ : ByteArray)) ++ t443) ++ (⟨#[32]⟩ : ByteArray)) ++ x3_1) ++ (⟨#[32]⟩ : ByteArray)).size + t444.size ≤ 9223372036854775807 then (if ((((((t442 ++ (⟨#[32]⟩ : ByteArray)) ++ t443) ++ (⟨#[32]⟩ : ByteArray)) ++ x3_1) ++ (⟨#[32]⟩ : ByteArray)) ++ t444).size + 1 ≤ 9223372036854775807 then ((crossbuckref03_PrintRange.f kj1 a0_7 a0_8).bind fun t445 => (if (((((((t442 ++ (⟨#[32]⟩ : ByteArray)) ++ t443) ++ (⟨#[32]⟩ : ByteArray)) ++ x3_1) ++ (⟨#[32]⟩ : ByteArray)) ++ t444) ++ (⟨#[32]⟩ : ByteArray)).size + t445.size ≤ 9223372036854775807 then (some ((((((((t442 ++ (⟨#[32]⟩ : ByteArray)) ++ t443) ++ (⟨#[32]⟩ : ByteArray)) ++ x3_1) ++ (⟨#[32]⟩ : ByteArray)) ++ t444) ++ (⟨#[32]⟩ : ByteArray)) ++ t445)) else (none))) else (none)) else (none))) else (none)) else (none)) else (none)) else (none))) else (none)) = some r := H
   have A9 := Aside0.mk A90
   clear A90
   by_cases c10 : t442.size + 1 ≤ 9223372036854775807
   ·rw [if_pos c10] at H
    have c10b0 := eq_true c10
    have c10b1 : decide (t442.size + 1 ≤ 9223372036854775807) = true := decide_eq_true c10
    try have c10b2 : (9223372036854775807 < t442.size + 1) = False := eq_false (Nat.not_lt.2 c10)
    replace H := Option.bind_eq_some_iff.mp H
    obtain ⟨t443, A110, H⟩ := H
    replace H : (if (t442 ++ (⟨#[32]⟩ : ByteArray)).size + t443.size ≤ 9223372036854775807 then (if ((t442 ++ (⟨#[32]⟩ : ByteArray)) ++ t443).size + 1 ≤ 9223372036854775807 then (if (((t442 ++ (⟨#[32]⟩ : ByteArray)) ++ t443) ++ (⟨#[32]⟩ : ByteArray)).size + x3_1.size ≤ 9223372036854775807 then (if ((((t442 ++ (⟨#[32]⟩ : ByteArray)) ++ t443) ++ (⟨#[32]⟩ : ByteArray)) ++ x3_1).size + 1 ≤ 9223372036854775807 then ((crossbuckref03_PrintRange.f kj1 a0_5 a0_6).bind fun t444 => (if (((((t442 ++ (⟨#[32]⟩ : ByteArray)) ++ t443) ++ (⟨#[32]⟩ : ByteArray)) ++ x3_1) ++ (⟨#[32]⟩ : ByteArray)).size + t444.size ≤ 9223372036854775807 then (if ((((((t442 ++ (⟨#[32]⟩ : ByteArray)) ++ t443) ++ (⟨#[32]⟩ : ByteArray)) ++ x3_1) ++ (⟨#[32]⟩ : ByteArray)) ++ t444).size + 1 ≤ 9223372036854775807 then ((crossbuckref03_PrintRange.f kj1 a0_7 a0_8).bind fun t445 => (if (((((((t442 ++ (⟨#[32]⟩ : ByteArray)) ++ t443) ++ (⟨#[32]⟩ : ByteArray)) ++ x3_1) ++ (⟨#[32]⟩ : ByteArray)) ++ t444) ++ (⟨#[32]⟩ : ByteArray)).size + t445.size ≤ 9223372036854775807 then (some ((((((((t442 ++ (⟨#[32]⟩ : ByteArray)) ++ t443) ++ (⟨#[32]⟩ : ByteArray)) ++ x3_1) ++ (⟨#[32]⟩ : ByteArray)) ++ t444) ++ (⟨#[32]⟩ : ByteArray)) ++ t445)) else (none))) else (none)) else (none))) else (none)) else (none)) else (none)) else (none)) = some r := H
    have A11 := Aside0.mk A110
    clear A110
    by_cases c12 : (t442 ++ (⟨#[32]⟩ : ByteArray)).size + t443.size ≤ 9223372036854775807
    ·rw [if_pos c12] at H
     have c12b0 := eq_true c12
     have c12b1 : decide ((t442 ++ (⟨#[32]⟩ : ByteArray)).size + t443.size ≤ 9223372036854775807) = true := decide_eq_true c12
     try have c12b2 : (9223372036854775807 < (t442 ++ (⟨#[32]⟩ : ByteArray)).size + t443.size) = False := eq_false (Nat.not_lt.2 c12)
     try have c12b3 := c12b2
     try simp only [ByteArray.size_append, Hand.lit_size, List.length_cons, List.length_nil, Nat.zero_add, Nat.reduceAdd] at c12b3
     by_cases c13 : ((t442 ++ (⟨#[32]⟩ : ByteArray)) ++ t443).size + 1 ≤ 9223372036854775807
     ·rw [if_pos c13] at H
      have c13b0 := eq_true c13
      have c13b1 : decide (((t442 ++ (⟨#[32]⟩ : ByteArray)) ++ t443).size + 1 ≤ 9223372036854775807) = true := decide_eq_true c13
      try have c13b2 : (9223372036854775807 < ((t442 ++ (⟨#[32]⟩ : ByteArray)) ++ t443).size + 1) = False := eq_false (Nat.not_lt.2 c13)
      try have c13b3 := c13b2
      try simp only [ByteArray.size_append, Hand.lit_size, List.length_cons, List.length_nil, Nat.zero_add, Nat.reduceAdd] at c13b3
      by_cases c14 : (((t442 ++ (⟨#[32]⟩ : ByteArray)) ++ t443) ++ (⟨#[32]⟩ : ByteArray)).size + x3_1.size ≤ 9223372036854775807
      ·rw [if_pos c14] at H
       have c14b0 := eq_true c14
       have c14b1 : decide ((((t442 ++ (⟨#[32]⟩ : ByteArray)) ++ t443) ++ (⟨#[32]⟩ : ByteArray)).size + x3_1.size ≤ 9223372036854775807) = true := decide_eq_true c14
       try have c14b2 : (9223372036854775807 < (((t442 ++ (⟨#[32]⟩ : ByteArray)) ++ t443) ++ (⟨#[32]⟩ : ByteArray)).size + x3_1.size) = False := eq_false (Nat.not_lt.2 c14)
       try have c14b3 := c14b2
       try simp only [ByteArray.size_append, Hand.lit_size, List.length_cons, List.length_nil, Nat.zero_add, Nat.reduceAdd] at c14b3
       by_cases c15 : ((((t442 ++ (⟨#[32]⟩ : ByteArray)) ++ t443) ++ (⟨#[32]⟩ : ByteArray)) ++ x3_1).size + 1 ≤ 9223372036854775807
       ·rw [if_pos c15] at H
        have c15b0 := eq_true c15
        have c15b1 : decide (((((t442 ++ (⟨#[32]⟩ : ByteArray)) ++ t443) ++ (⟨#[32]⟩ : ByteArray)) ++ x3_1).size + 1 ≤ 9223372036854775807) = true := decide_eq_true c15
        try have c15b2 : (9223372036854775807 < ((((t442 ++ (⟨#[32]⟩ : ByteArray)) ++ t443) ++ (⟨#[32]⟩ : ByteArray)) ++ x3_1).size + 1) = False := eq_false (Nat.not_lt.2 c15)
        try have c15b3 := c15b2
        try simp only [ByteArray.size_append, Hand.lit_size, List.length_cons, List.length_nil, Nat.zero_add, Nat.reduceAdd] at c15b3
        replace H := Option.bind_eq_some_iff.mp H
        obtain ⟨t444, A160, H⟩ := H
        replace H : (if (((((t442 ++ (⟨#[32]⟩ : ByteArray)) ++ t443) ++ (⟨#[32]⟩ : ByteArray)) ++ x3_1) ++ (⟨#[32]⟩ : ByteArray)).size + t444.size ≤ 9223372036854775807 then (if ((((((t442 ++ (⟨#[32]⟩ : ByteArray)) ++ t443) ++ (⟨#[32]⟩ : ByteArray)) ++ x3_1) ++ (⟨#[32]⟩ : ByteArray)) ++ t444).size + 1 ≤ 9223372036854775807 then ((crossbuckref03_PrintRange.f kj1 a0_7 a0_8).bind fun t445 => (if (((((((t442 ++ (⟨#[32]⟩ : ByteArray)) ++ t443) ++ (⟨#[32]⟩ : ByteArray)) ++ x3_1) ++ (⟨#[32]⟩ : ByteArray)) ++ t444) ++ (⟨#[32]⟩ : ByteArray)).size + t445.size ≤ 9223372036854775807 then (some ((((((((t442 ++ (⟨#[32]⟩ : ByteArray)) ++ t443) ++ (⟨#[32]⟩ : ByteArray)) ++ x3_1) ++ (⟨#[32]⟩ : ByteArray)) ++ t444) ++ (⟨#[32]⟩ : ByteArray)) ++ t445)) else (none))) else (none)) else (none)) = some r := H
        have A16 := Aside0.mk A160
        clear A160
        by_cases c17 : (((((t442 ++ (⟨#[32]⟩ : ByteArray)) ++ t443) ++ (⟨#[32]⟩ : ByteArray)) ++ x3_1) ++ (⟨#[32]⟩ : ByteArray)).size + t444.size ≤ 9223372036854775807
        ·rw [if_pos c17] at H
         have c17b0 := eq_true c17
         have c17b1 : decide ((((((t442 ++ (⟨#[32]⟩ : ByteArray)) ++ t443) ++ (⟨#[32]⟩ : ByteArray)) ++ x3_1) ++ (⟨#[32]⟩ : ByteArray)).size + t444.size ≤ 9223372036854775807) = true := decide_eq_true c17
         try have c17b2 : (9223372036854775807 < (((((t442 ++ (⟨#[32]⟩ : ByteArray)) ++ t443) ++ (⟨#[32]⟩ : ByteArray)) ++ x3_1) ++ (⟨#[32]⟩ : ByteArray)).size + t444.size) = False := eq_false (Nat.not_lt.2 c17)
         try have c17b3 := c17b2
         try simp only [ByteArray.size_append, Hand.lit_size, List.length_cons, List.length_nil, Nat.zero_add, Nat.reduceAdd] at c17b3
         by_cases c18 : ((((((t442 ++ (⟨#[32]⟩ : ByteArray)) ++ t443) ++ (⟨#[32]⟩ : ByteArray)) ++ x3_1) ++ (⟨#[32]⟩ : ByteArray)) ++ t444).size + 1 ≤ 9223372036854775807
         ·rw [if_pos c18] at H
          have c18b0 := eq_true c18
          have c18b1 : decide (((((((t442 ++ (⟨#[32]⟩ : ByteArray)) ++ t443) ++ (⟨#[32]⟩ : ByteArray)) ++ x3_1) ++ (⟨#[32]⟩ : ByteArray)) ++ t444).size + 1 ≤ 9223372036854775807) = true := decide_eq_true c18
          try have c18b2 : (9223372036854775807 < ((((((t442 ++ (⟨#[32]⟩ : ByteArray)) ++ t443) ++ (⟨#[32]⟩ : ByteArray)) ++ x3_1) ++ (⟨#[32]⟩ : ByteArray)) ++ t444).size + 1) = False := eq_false (Nat.not_lt.2 c18)
          try have c18b3 := c18b2
          try simp only [ByteArray.size_append, Hand.lit_size, List.length_cons, List.length_nil, Nat.zero_add, Nat.reduceAdd] at c18b3
          replace H := Option.bind_eq_some_iff.mp H
          obtain ⟨t445, A190, H⟩ := H
          replace H : (if (((((((t442 ++ (⟨#[32]⟩ : ByteArray)) ++ t443) ++ (⟨#[32]⟩ : ByteArray)) ++ x3_1) ++ (⟨#[32]⟩ : ByteArray)) ++ t444) ++ (⟨#[32]⟩ : ByteArray)).size + t445.size ≤ 9223372036854775807 then (some ((((((((t442 ++ (⟨#[32]⟩ : ByteArray)) ++ t443) ++ (⟨#[32]⟩ : ByteArray)) ++ x3_1) ++ (⟨#[32]⟩ : ByteArray)) ++ t444) ++ (⟨#[32]⟩ : ByteArray)) ++ t445)) else (none)) = some r := H
          have A19 := Aside0.mk A190
          clear A190
          by_cases c20 : (((((((t442 ++ (⟨#[32]⟩ : ByteArray)) ++ t443) ++ (⟨#[32]⟩ : ByteArray)) ++ x3_1) ++ (⟨#[32]⟩ : ByteArray)) ++ t444) ++ (⟨#[32]⟩ : ByteArray)).size + t445.size ≤ 9223372036854775807
          ·rw [if_pos c20] at H
           have c20b0 := eq_true c20
           have c20b1 : decide ((((((((t442 ++ (⟨#[32]⟩ : ByteArray)) ++ t443) ++ (⟨#[32]⟩ : ByteArray)) ++ x3_1) ++ (⟨#[32]⟩ : ByteArray)) ++ t444) ++ (⟨#[32]⟩ : ByteArray)).size + t445.size ≤ 9223372036854775807) = true := decide_eq_true c20
           try have c20b2 : (9223372036854775807 < (((((((t442 ++ (⟨#[32]⟩ : ByteArray)) ++ t443) ++ (⟨#[32]⟩ : ByteArray)) ++ x3_1) ++ (⟨#[32]⟩ : ByteArray)) ++ t444) ++ (⟨#[32]⟩ : ByteArray)).size + t445.size) = False := eq_false (Nat.not_lt.2 c20)
           try have c20b3 := c20b2
           try simp only [ByteArray.size_append, Hand.lit_size, List.length_cons, List.length_nil, Nat.zero_add, Nat.reduceAdd] at c20b3
           obtain rfl := Option.some.inj H
           try go_wp2
           have n0_ := Aside0.mk (blk_drew BK440.out)
           have n1_ := Aside0.mk (below_drew1 HB.out)
           clear BK440
           clear HB
           have BK440 := n0_
           have HB := n1_
           clear n0_ n1_
           refine start_ (n := 22) (S := fun w' => w'.cell? ⟨gb440, 0, none⟩ = some (.int .u32 a0_0) ∧ w'.cell? ⟨gb440, 1, none⟩ = some (.int .i64 a0_1) ∧ w'.cell? ⟨gb440, 2, none⟩ = some (.int .u32 a0_2) ∧ w'.cell? ⟨gb440, 3, none⟩ = some (.int .i64 a0_3) ∧ w'.cell? ⟨gb440, 4, none⟩ = some (.int .i64 a0_4) ∧ w'.cell? ⟨gb440, 5, none⟩ = some (.int .u16 a0_5) ∧ w'.cell? ⟨gb440, 6, none⟩ = some (.int .u16 a0_6) ∧ w'.cell? ⟨gb440, 7, none⟩ = some (.int .u16 a0_7) ∧ w'.cell? ⟨gb440, 8, none⟩ = some (.int .u16 a0_8)) (ds := []) #[false, false, false, false, false, false, false, false, false, false, false, false, false, false, false, false, false, false, false, false, false, false] (by kernel_rfl) rfl rfl ⟨(blk_cell BK440.out 0).trans rfl, (blk_cell BK440.out 1).trans rfl, (blk_cell BK440.out 2).trans rfl, (blk_cell BK440.out 3).trans rfl, (blk_cell BK440.out 4).trans rfl, (blk_cell BK440.out 5).trans rfl, (blk_cell BK440.out 6).trans rfl, (blk_cell BK440.out 7).trans rfl, (blk_cell BK440.out 8).trans rfl⟩ (fun hHeld => ?_); refine with_tabW crossbuckref04_Print.tab4 crossbuckref04_Print.bits4 (fun HT_ HW_ => ?_)
           generalize wc.drew = w21 at BK440 HB hHeld ⊢
           refine pure_ (i := 0) (N := some 10) (v := ?_) (a' := ?_) #[true, false, false, false, false, false, false, false, false, false, false, false, false, false, false, false, false, false, false, false, false, false] rfl rfl (any_of HT_.out (by kernel_rfl)) (fun _ _ _ h => h) (Or.inl ⟨by rfl, ?_⟩) ?_ ?_
           rotate_left
           ·intro w'
            go_simp
            with_reducible rfl
           rotate_left
           ·simp only [Act.put, List.setIfInBounds_toArray, List.set_cons_zero, List.set_cons_succ, i64_w, i32_w]
            rfl
           refine pure_ (i := 4) (N := some 14) (v := ?_) (a' := ?_) #[true, false, false, false, true, false, false, false, false, false, false, false, false, false, false, false, false, false, false, false, false, false] rfl rfl (any_of HT_.out (by kernel_rfl)) (fun _ _ _ h => h) (Or.inl ⟨by rfl, ?_⟩) ?_ ?_
           rotate_left
           ·intro w'
            go_simp
            with_reducible rfl
           rotate_left
           ·simp only [Act.put, List.setIfInBounds_toArray, List.set_cons_zero, List.set_cons_succ, i64_w, i32_w]
            rfl
           refine pure_ (i := 9) (N := some 19) (v := ?_) (a' := ?_) #[true, false, false, false, true, false, false, false, false, true, false, false, false, false, false, false, false, false, false, false, false, false] rfl rfl (any_of HT_.out (by kernel_rfl)) (fun _ _ _ h => h) (Or.inl ⟨by rfl, ?_⟩) ?_ ?_
           rotate_left
           ·intro w'
            go_simp
            with_reducible rfl
           rotate_left
           ·simp only [Act.put, List.setIfInBounds_toArray, List.set_cons_zero, List.set_cons_succ, i64_w, i32_w]
            rfl
           refine pure_ (i := 12) (N := some 22) (v := ?_) (a' := ?_) #[true, false, false, false, true, false, false, false, false, true, false, false, true, false, false, false, false, false, false, false, false, false] rfl rfl (any_of HT_.out (by kernel_rfl)) (fun _ _ _ h => h) (Or.inl ⟨by rfl, ?_⟩) ?_ ?_
           rotate_left
           ·intro w'
            go_simp
            with_reducible rfl
           rotate_left
           ·simp only [Act.put, List.setIfInBounds_toArray, List.set_cons_zero, List.set_cons_succ, i64_w, i32_w]
            rfl
           refine pure_ (i := 17) (N := some 27) (v := ?_) (a' := ?_) #[true, false, false, false, true, false, false, false, false, true, false, false, true, false, false, false, false, true, false, false, false, false] rfl rfl (any_of HT_.out (by kernel_rfl)) (fun _ _ _ h => h) (Or.inl ⟨by rfl, ?_⟩) ?_ ?_
           rotate_left
           ·intro w'
            go_simp
            with_reducible rfl
           rotate_left
           ·simp only [Act.put, List.setIfInBounds_toArray, List.set_cons_zero, List.set_cons_succ, i64_w, i32_w]
            rfl
           refine take_ (i := 1) (N := some 11) (v := ?_) (a' := ?_) #[true, true, false, false, true, false, false, false, false, true, false, false, true, false, false, false, false, true, false, false, false, false] rfl rfl (take_ofW HT_.out HW_.out (by kernel_rfl)) (fun _ _ _ h => h) (Or.inl ⟨by rfl, ?_⟩) hHeld ?_ ?_
           rotate_left
           ·rintro w' ⟨s0, s1, s2, s3, s4, s5, s6, s7, s8⟩
            go_simp
            with_reducible rfl
           rotate_left
           ·simp only [Act.put, List.setIfInBounds_toArray, List.set_cons_zero, List.set_cons_succ, i64_w, i32_w]
            rfl
           refine take_ (i := 5) (N := some 15) (v := ?_) (a' := ?_) #[true, true, false, false, true, true, false, false, false, true, false, false, true, false, false, false, false, true, false, false, false, false] rfl rfl (take_ofW HT_.out HW_.out (by kernel_rfl)) (fun _ _ _ h => h) (Or.inl ⟨by rfl, ?_⟩) hHeld ?_ ?_
           rotate_left
           ·rintro w' ⟨s0, s1, s2, s3, s4, s5, s6, s7, s8⟩
            go_simp
            with_reducible rfl
           rotate_left
           ·simp only [Act.put, List.setIfInBounds_toArray, List.set_cons_zero, List.set_cons_succ, i64_w, i32_w]
            rfl
           refine take_ (i := 13) (N := some 23) (v := ?_) (a' := ?_) #[true, true, false, false, true, true, false, false, false, true, false, false, true, true, false, false, false, true, false, false, false, false] rfl rfl (take_ofW HT_.out HW_.out (by kernel_rfl)) (fun _ _ _ h => h) (Or.inl ⟨by rfl, ?_⟩) hHeld ?_ ?_
           rotate_left
           ·rintro w' ⟨s0, s1, s2, s3, s4, s5, s6, s7, s8⟩
            go_simp
            with_reducible rfl
           rotate_left
           ·simp only [Act.put, List.setIfInBounds_toArray, List.set_cons_zero, List.set_cons_succ, i64_w, i32_w]
            rfl
           refine take_ (i := 18) (N := some 28) (v := ?_) (a' := ?_) #[true, true, false, false, true, true, false, false, false, true, false, false, true, true, false, false, false, true, true, false, false, false] rfl rfl (take_ofW HT_.out HW_.out (by kernel_rfl)) (fun _ _ _ h => h) (Or.inl ⟨by rfl, ?_⟩) hHeld ?_ ?_
           rotate_left
           ·rintro w' ⟨s0, s1, s2, s3, s4, s5, s6, s7, s8⟩
            go_simp
            with_reducible rfl
           rotate_left
           ·simp only [Act.put, List.setIfInBounds_toArray, List.set_cons_zero, List.set_cons_succ, i64_w, i32_w]
            rfl
           refine one_ (i := 2) (N := some 12) #[true, true, true, false, true, true, false, false, false, true, false, false, true, true, false, false, false, true, true, false, false, false] rfl rfl (one_of HT_.out (by kernel_rfl)) (by decide) (fun K hK => ?_)
           refine goes_ Tryd.func63 (by kernel_rfl) rfl #[.agg #[.int .u32 a0_0, .int .i64 a0_1]] (by rfl) rfl rfl (by (try simp only [List.map_toArray, List.map_cons, List.map_nil]); first | done | rfl | (simp only [List.length_drop, List.length_take]; rfl)) ?_
           with_reducible refine (crossbuckref03_Print.calls kj1 a0_0 a0_1 t442 _ A9.out).mono ?_
           rintro e w22 ⟨rfl, hb⟩
           refine ⟨_, rfl, ?_⟩
           have n0_ := Aside0.mk (blk_below (g := gb440) (o := .cells #[.int .u32 a0_0, .int .i64 a0_1, .int .u32 a0_2, .int .i64 a0_3, .int .i64 a0_4, .int .u16 a0_5, .int .u16 a0_6, .int .u16 a0_7, .int .u16 a0_8] 77 (0, 0)) (by (with_reducible repeat (first | refine blk_drewN ?_ _ | refine blk_drew ?_ | refine blk_alloc ?_ _)); exact BK440.out) hb)
           have n1_ := Aside0.mk (below_step (by repeat (first | (with_reducible first | exact HB.out | apply below_alloc | apply pw_below_drewN | apply below_drew1 | refine below_set ?_ GE440.out) | exact HB.out)) hb)
           clear BK440
           clear HB
           have BK440 := n0_
           have HB := n1_
           clear n0_ n1_
           (try clear hb)
           (try clear hb2)
           (try clear hk)
           (try clear hi)
           refine hK.out _ _ ⟨(blk_cell BK440.out 0).trans rfl, (blk_cell BK440.out 1).trans rfl, (blk_cell BK440.out 2).trans rfl, (blk_cell BK440.out 3).trans rfl, (blk_cell BK440.out 4).trans rfl, (blk_cell BK440.out 5).trans rfl, (blk_cell BK440.out 6).trans rfl, (blk_cell BK440.out 7).trans rfl, (blk_cell BK440.out 8).trans rfl⟩ (fun hHeld => ?_)
           clear hK K
           refine norm_ (a' := ?_) ?_ ?_
           rotate_left
           ·show Act.put _ (some 12) _ = _
            simp only [Act.put, List.setIfInBounds_toArray, List.set_cons_zero, List.set_cons_succ, i64_w, i32_w]
            rfl
           refine pure_ (i := 3) (N := some 13) (v := ?_) (a' := ?_) #[true, true, true, true, true, true, false, false, false, true, false, false, true, true, false, false, false, true, true, false, false, false] rfl rfl (any_of HT_.out (by kernel_rfl)) (fun _ _ _ h => h) (Or.inl ⟨by rfl, ?_⟩) ?_ ?_
           rotate_left
           ·intro w'
            go_simp
            with_reducible rfl
           rotate_left
           ·simp only [Act.put, List.setIfInBounds_toArray, List.set_cons_zero, List.set_cons_succ, i64_w, i32_w]
            rfl
           refine one_ (i := 6) (N := some 16) #[true, true, true, true, true, true, true, false, false, true, false, false, true, true, false, false, false, true, true, false, false, false] rfl rfl (one_of HT_.out (by kernel_rfl)) (by decide) (fun K hK => ?_)
           refine goes_ Tryd.func63 (by kernel_rfl) rfl #[.agg #[.int .u32 a0_2, .int .i64 a0_3]] (by rfl) rfl rfl (by (try simp only [List.map_toArray, List.map_cons, List.map_nil]); first | done | rfl | (simp only [List.length_drop, List.length_take]; rfl)) ?_
           with_reducible refine (crossbuckref03_Print.calls kj1 a0_2 a0_3 t443 _ A11.out).mono ?_
           rintro e w23 ⟨rfl, hb⟩
           refine ⟨_, rfl, ?_⟩
           have n0_ := Aside0.mk (blk_below (g := gb440) (o := .cells #[.int .u32 a0_0, .int .i64 a0_1, .int .u32 a0_2, .int .i64 a0_3, .int .i64 a0_4, .int .u16 a0_5, .int .u16 a0_6, .int .u16 a0_7, .int .u16 a0_8] 77 (0, 0)) (by (with_reducible repeat (first | refine blk_drewN ?_ _ | refine blk_drew ?_ | refine blk_alloc ?_ _)); exact BK440.out) hb)
           have n1_ := Aside0.mk (below_step (by repeat (first | (with_reducible first | exact HB.out | apply below_alloc | apply pw_below_drewN | apply below_drew1 | refine below_set ?_ GE440.out) | exact HB.out)) hb)
           clear BK440
           clear HB
           have BK440 := n0_
           have HB := n1_
           clear n0_ n1_
           (try clear hb)
           (try clear hb2)
           (try clear hk)
           (try clear hi)
           refine hK.out _ _ ⟨(blk_cell BK440.out 0).trans rfl, (blk_cell BK440.out 1).trans rfl, (blk_cell BK440.out 2).trans rfl, (blk_cell BK440.out 3).trans rfl, (blk_cell BK440.out 4).trans rfl, (blk_cell BK440.out 5).trans rfl, (blk_cell BK440.out 6).trans rfl, (blk_cell BK440.out 7).trans rfl, (blk_cell BK440.out 8).trans rfl⟩ (fun hHeld => ?_)
           clear hK K
           refine norm_ (a' := ?_) ?_ ?_
           rotate_left
           ·show Act.put _ (some 16) _ = _
            simp only [Act.put, List.setIfInBounds_toArray, List.set_cons_zero, List.set_cons_succ, i64_w, i32_w]
            rfl
           refine pure_ (i := 7) (N := some 17) (v := ?_) (a' := ?_) #[true, true, true, true, true, true, true, true, false, true, false, false, true, true, false, false, false, true, true, false, false, false] rfl rfl (any_of HT_.out (by kernel_rfl)) (fun _ _ _ h => h) (Or.inl ⟨by rfl, ?_⟩) ?_ ?_
           rotate_left
           ·intro w'
            go_simp
            with_reducible rfl
           rotate_left
           ·simp only [Act.put, List.setIfInBounds_toArray, List.set_cons_zero, List.set_cons_succ, i64_w, i32_w]
            rfl
           refine pure_ (i := 8) (N := some 18) (v := ?_) (a' := ?_) #[true, true, true, true, true, true, true, true, true, true, false, false, true, true, false, false, false, true, true, false, false, false] rfl rfl (any_of HT_.out (by kernel_rfl)) (fun _ _ _ h => h) (Or.inl ⟨by rfl, ?_⟩) ?_ ?_
           rotate_left
           ·intro w'
            go_simp
            with_reducible rfl
           rotate_left
           ·simp only [Act.put, List.setIfInBounds_toArray, List.set_cons_zero, List.set_cons_succ, i64_w, i32_w]
            rfl
           refine pure_ (i := 10) (N := some 20) (v := ?_) (a' := ?_) #[true, true, true, true, true, true, true, true, true, true, true, false, true, true, false, false, false, true, true, false, false, false] rfl rfl (any_of HT_.out (by kernel_rfl)) (fun _ _ _ h => h) (Or.inl ⟨by rfl, ?_⟩) ?_ ?_
           rotate_left
           ·intro w'
            go_simp
            with_reducible rfl
           rotate_left
           ·simp only [Act.put, List.setIfInBounds_toArray, List.set_cons_zero, List.set_cons_succ, i64_w, i32_w]
            rfl
           refine pure_ (i := 11) (N := some 21) (v := ?_) (a' := ?_) #[true, true, true, true, true, true, true, true, true, true, true, true, true, true, false, false, false, true, true, false, false, false] rfl rfl (any_of HT_.out (by kernel_rfl)) (fun _ _ _ h => h) (Or.inl ⟨by rfl, ?_⟩) ?_ ?_
           rotate_left
           ·intro w'
            go_simp
            with_reducible rfl
           rotate_left
           ·simp only [Act.put, List.setIfInBounds_toArray, List.set_cons_zero, List.set_cons_succ, i64_w, i32_w]
            rfl
           refine one_ (i := 14) (N := some 24) #[true, true, true, true, true, true, true, true, true, true, true, true, true, true, true, false, false, true, true, false, false, false] rfl rfl (one_of HT_.out (by kernel_rfl)) (by decide) (fun K hK => ?_)
           refine goes_ Tryd.func60 (by kernel_rfl) rfl #[.agg #[.int .u16 a0_5, .int .u16 a0_6]] (by rfl) rfl rfl (by (try simp only [List.map_toArray, List.map_cons, List.map_nil]); first | done | rfl | (simp only [List.length_drop, List.length_take]; rfl)) ?_
           with_reducible refine (crossbuckref03_PrintRange.calls kj1 a0_5 a0_6 t444 _ A16.out).mono ?_
           rintro e w24 ⟨rfl, hb⟩
           refine ⟨_, rfl, ?_⟩
           have n0_ := Aside0.mk (blk_below (g := gb440) (o := .cells #[.int .u32 a0_0, .int .i64 a0_1, .int .u32 a0_2, .int .i64 a0_3, .int .i64 a0_4, .int .u16 a0_5, .int .u16 a0_6, .int .u16 a0_7, .int .u16 a0_8] 77 (0, 0)) (by (with_reducible repeat (first | refine blk_drewN ?_ _ | refine blk_drew ?_ | refine blk_alloc ?_ _)); exact BK440.out) hb)
           have n1_ := Aside0.mk (below_step (by repeat (first | (with_reducible first | exact HB.out | apply below_alloc | apply pw_below_drewN | apply below_drew1 | refine below_set ?_ GE440.out) | exact HB.out)) hb)
           clear BK440
           clear HB
           have BK440 := n0_
           have HB := n1_
           clear n0_ n1_
           (try clear hb)
           (try clear hb2)
           (try clear hk)
           (try clear hi)
           refine hK.out _ _ ⟨(blk_cell BK440.out 0).trans rfl, (blk_cell BK440.out 1).trans rfl, (blk_cell BK440.out 2).trans rfl, (blk_cell BK440.out 3).trans rfl, (blk_cell BK440.out 4).trans rfl, (blk_cell BK440.out 5).trans rfl, (blk_cell BK440.out 6).trans rfl, (blk_cell BK440.out 7).trans rfl, (blk_cell BK440.out 8).trans rfl⟩ (fun hHeld => ?_)
           clear hK K
           refine norm_ (a' := ?_) ?_ ?_
           rotate_left
           ·show Act.put _ (some 24) _ = _
            simp only [Act.put, List.setIfInBounds_toArray, List.set_cons_zero, List.set_cons_succ, i64_w, i32_w]
            rfl
           refine pure_ (i := 15) (N := some 25) (v := ?_) (a' := ?_) #[true, true, true, true, true, true, true, true, true, true, true, true, true, true, true, true, false, true, true, false, false, false] rfl rfl (any_of HT_.out (by kernel_rfl)) (fun _ _ _ h => h) (Or.inl ⟨by rfl, ?_⟩) ?_ ?_
           rotate_left
           ·intro w'
            go_simp
            with_reducible rfl
           rotate_left
           ·simp only [Act.put, List.setIfInBounds_toArray, List.set_cons_zero, List.set_cons_succ, i64_w, i32_w]
            rfl
           refine pure_ (i := 16) (N := some 26) (v := ?_) (a' := ?_) #[true, true, true, true, true, true, true, true, true, true, true, true, true, true, true, true, true, true, true, false, false, false] rfl rfl (any_of HT_.out (by kernel_rfl)) (fun _ _ _ h => h) (Or.inl ⟨by rfl, ?_⟩) ?_ ?_
           rotate_left
           ·intro w'
            go_simp
            with_reducible rfl
           rotate_left
           ·simp only [Act.put, List.setIfInBounds_toArray, List.set_cons_zero, List.set_cons_succ, i64_w, i32_w]
            rfl
           refine one_ (i := 19) (N := some 29) #[true, true, true, true, true, true, true, true, true, true, true, true, true, true, true, true, true, true, true, true, false, false] rfl rfl (one_of HT_.out (by kernel_rfl)) (by decide) (fun K hK => ?_)
           refine goes_ Tryd.func60 (by kernel_rfl) rfl #[.agg #[.int .u16 a0_7, .int .u16 a0_8]] (by rfl) rfl rfl (by (try simp only [List.map_toArray, List.map_cons, List.map_nil]); first | done | rfl | (simp only [List.length_drop, List.length_take]; rfl)) ?_
           with_reducible refine (crossbuckref03_PrintRange.calls kj1 a0_7 a0_8 t445 _ A19.out).mono ?_
           rintro e w25 ⟨rfl, hb⟩
           refine ⟨_, rfl, ?_⟩
           have n0_ := Aside0.mk (blk_below (g := gb440) (o := .cells #[.int .u32 a0_0, .int .i64 a0_1, .int .u32 a0_2, .int .i64 a0_3, .int .i64 a0_4, .int .u16 a0_5, .int .u16 a0_6, .int .u16 a0_7, .int .u16 a0_8] 77 (0, 0)) (by (with_reducible repeat (first | refine blk_drewN ?_ _ | refine blk_drew ?_ | refine blk_alloc ?_ _)); exact BK440.out) hb)
           have n1_ := Aside0.mk (below_step (by repeat (first | (with_reducible first | exact HB.out | apply below_alloc | apply pw_below_drewN | apply below_drew1 | refine below_set ?_ GE440.out) | exact HB.out)) hb)
           clear BK440
           clear HB
           have BK440 := n0_
           have HB := n1_
           clear n0_ n1_
           (try clear hb)
           (try clear hb2)
           (try clear hk)
           (try clear hi)
           refine hK.out _ _ ⟨(blk_cell BK440.out 0).trans rfl, (blk_cell BK440.out 1).trans rfl, (blk_cell BK440.out 2).trans rfl, (blk_cell BK440.out 3).trans rfl, (blk_cell BK440.out 4).trans rfl, (blk_cell BK440.out 5).trans rfl, (blk_cell BK440.out 6).trans rfl, (blk_cell BK440.out 7).trans rfl, (blk_cell BK440.out 8).trans rfl⟩ (fun hHeld => ?_)
           clear hK K
           refine norm_ (a' := ?_) ?_ ?_
           rotate_left
           ·show Act.put _ (some 29) _ = _
            simp only [Act.put, List.setIfInBounds_toArray, List.set_cons_zero, List.set_cons_succ, i64_w, i32_w]
            rfl
           refine pure_ (i := 20) (N := some 30) (v := ?_) (a' := ?_) #[true, true, true, true, true, true, true, true, true, true, true, true, true, true, true, true, true, true, true, true, true, false] rfl rfl (any_of HT_.out (by kernel_rfl)) (fun _ _ _ h => h) (Or.inl ⟨by rfl, ?_⟩) ?_ ?_
           rotate_left
           ·intro w'
            go_simp
            with_reducible rfl
           rotate_left
           ·simp only [Act.put, List.setIfInBounds_toArray, List.set_cons_zero, List.set_cons_succ, i64_w, i32_w]
            rfl
           refine pure_ (i := 21) (N := some 2) (v := ?_) (a' := ?_) #[true, true, true, true, true, true, true, true, true, true, true, true, true, true, true, true, true, true, true, true, true, true] rfl rfl (any_of HT_.out (by kernel_rfl)) (fun _ _ _ h => h) (Or.inl ⟨by rfl, ?_⟩) ?_ ?_
           rotate_left
           ·intro w'
            go_simp
            with_reducible rfl
           rotate_left
           ·simp only [Act.put, List.setIfInBounds_toArray, List.set_cons_zero, List.set_cons_succ, i64_w, i32_w]
            rfl
           refine done_ (done_of HT_.out (by kernel_rfl)) ?_
           try go_wp2
           go_ret
           exact ⟨by first | rfl | (simp [errW_none, errW_some] <;> rfl) | (simp [*, errW_none, errW_some] <;> rfl), by repeat (first | (with_reducible first | exact HB.out | apply below_alloc | apply pw_below_drewN | apply below_drew1 | refine below_set ?_ GE440.out) | exact HB.out)⟩
          ·rw [if_neg c20] at H
           exact absurd H (by simp)
         ·rw [if_neg c18] at H
          exact absurd H (by simp)
        ·rw [if_neg c17] at H
         exact absurd H (by simp)
       ·rw [if_neg c15] at H
        exact absurd H (by simp)
      ·rw [if_neg c14] at H
       exact absurd H (by simp)
     ·rw [if_neg c13] at H
      exact absurd H (by simp)
    ·rw [if_neg c12] at H
     exact absurd H (by simp)
   ·rw [if_neg c10] at H
    exact absurd H (by simp)

end Go.Proofs.YtloclimoffhbhaaDoor.PFx
