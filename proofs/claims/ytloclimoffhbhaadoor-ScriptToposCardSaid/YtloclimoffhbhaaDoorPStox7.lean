-- Written by wip/myprint.py and wip/merge.py (this session's own programs); Lean checks it.
-- halved
import Derived.Test.YtloclimoffhbhaaDoorSq6
import Derived.Test.YtloclimoffhbhaaDoorPStox0
import Derived.Test.YtloclimoffhbhaaDoorPStox6
namespace Go.Proofs.YtloclimoffhbhaaDoor.PSto
open Go.RowKit Go.Proofs.YtloclimoffhbhaaDoorW.PrintWords Go.Proofs.YtloclimoffhbhaaDoorW.PrintLast Go.Proofs.YtloclimoffhbhaaDoorW.PrintMore Go.Proofs.YtloclimoffhbhaaDoorW.PrintSq List
attribute [local go_sem] max2_int min2_int max_two min_two max_three min_three max_four min_four   -- for this text's walks alone
set_option linter.unusedVariables false
set_option linter.unusedSimpArgs false

/-! ### crossbuckref02_Addr: function 55 -/
def crossbuckref02_Addr.f (k : Nat) (a0 : Int) : Option (ByteArray) := (crossbuckref02_Digits.f k ((Int.tdiv a0 16777216) % 4294967296)).bind fun t302 => (if t302.size + 1 ≤ 9223372036854775807 then ((crossbuckref02_Digits.f k ((Int.tdiv a0 65536) % 256)).bind fun t303 => (if (t302 ++ (⟨#[46]⟩ : ByteArray)).size + t303.size ≤ 9223372036854775807 then (if ((t302 ++ (⟨#[46]⟩ : ByteArray)) ++ t303).size + 1 ≤ 9223372036854775807 then ((crossbuckref02_Digits.f k ((Int.tdiv a0 256) % 256)).bind fun t304 => (if (((t302 ++ (⟨#[46]⟩ : ByteArray)) ++ t303) ++ (⟨#[46]⟩ : ByteArray)).size + t304.size ≤ 9223372036854775807 then (if ((((t302 ++ (⟨#[46]⟩ : ByteArray)) ++ t303) ++ (⟨#[46]⟩ : ByteArray)) ++ t304).size + 1 ≤ 9223372036854775807 then ((crossbuckref02_Digits.f k (wrap64 (Int.tmod a0 256))).bind fun t305 => (if (((((t302 ++ (⟨#[46]⟩ : ByteArray)) ++ t303) ++ (⟨#[46]⟩ : ByteArray)) ++ t304) ++ (⟨#[46]⟩ : ByteArray)).size + t305.size ≤ 9223372036854775807 then (some ((((((t302 ++ (⟨#[46]⟩ : ByteArray)) ++ t303) ++ (⟨#[46]⟩ : ByteArray)) ++ t304) ++ (⟨#[46]⟩ : ByteArray)) ++ t305)) else (none))) else (none)) else (none))) else (none)) else (none))) else (none))
set_option maxHeartbeats 8000000 in
set_option maxRecDepth 100000 in
theorem crossbuckref02_Addr.calls (k : Nat) (a0 : Int) (r : ByteArray) (w : World) (h : crossbuckref02_Addr.f k a0 = some r) :
  Calls Tryd.prog 55 #[.int .u32 a0] w fun e w' => e = .returned (.string r) ∧ Below w.heap.size w w' := by
 have HB := Aside0.mk (Below.refl w.heap.size w)
 have H : ((crossbuckref02_Digits.f k ((Int.tdiv a0 16777216) % 4294967296)).bind fun t302 => (if t302.size + 1 ≤ 9223372036854775807 then ((crossbuckref02_Digits.f k ((Int.tdiv a0 65536) % 256)).bind fun t303 => (if (t302 ++ (⟨#[46]⟩ : ByteArray)).size + t303.size ≤ 9223372036854775807 then (if ((t302 ++ (⟨#[46]⟩ : ByteArray)) ++ t303).size + 1 ≤ 9223372036854775807 then ((crossbuckref02_Digits.f k ((Int.tdiv a0 256) % 256)).bind fun t304 => (if (((t302 ++ (⟨#[46]⟩ : ByteArray)) ++ t303) ++ (⟨#[46]⟩ : ByteArray)).size + t304.size ≤ 9223372036854775807 then (if ((((t302 ++ (⟨#[46]⟩ : ByteArray)) ++ t303) ++ (⟨#[46]⟩ : ByteArray)) ++ t304).size + 1 ≤ 9223372036854775807 then ((crossbuckref02_Digits.f k (wrap64 (Int.tmod a0 256))).bind fun t305 => (if (((((t302 ++ (⟨#[46]⟩ : ByteArray)) ++ t303) ++ (⟨#[46]⟩ : ByteArray)) ++ t304) ++ (⟨#[46]⟩ : ByteArray)).size + t305.size ≤ 9223372036854775807 then (some ((((((t302 ++ (⟨#[46]⟩ : ByteArray)) ++ t303) ++ (⟨#[46]⟩ : ByteArray)) ++ t304) ++ (⟨#[46]⟩ : ByteArray)) ++ t305)) else (none))) else (none)) else (none))) else (none)) else (none))) else (none))) = some r := h
 clear h;replace H := Option.bind_eq_some_iff.mp H;obtain ⟨t302, A20, H⟩ := H
 replace H : (if t302.size + 1 ≤ 9223372036854775807 then ((crossbuckref02_Digits.f k ((Int.tdiv a0 65536) % 256)).bind fun t303 => (if (t302 ++ (⟨#[46]⟩ : ByteArray)).size + t303.size ≤ 9223372036854775807 then (if ((t302 ++ (⟨#[46]⟩ : ByteArray)) ++ t303).size + 1 ≤ 9223372036854775807 then ((crossbuckref02_Digits.f k ((Int.tdiv a0 256) % 256)).bind fun t304 => (if (((t302 ++ (⟨#[46]⟩ : ByteArray)) ++ t303) ++ (⟨#[46]⟩ : ByteArray)).size + t304.size ≤ 9223372036854775807 then (if ((((t302 ++ (⟨#[46]⟩ : ByteArray)) ++ t303) ++ (⟨#[46]⟩ : ByteArray)) ++ t304).size + 1 ≤ 9223372036854775807 then ((crossbuckref02_Digits.f k (wrap64 (Int.tmod a0 256))).bind fun t305 => (if (((((t302 ++ (⟨#[46]⟩ : ByteArray)) ++ t303) ++ (⟨#[46]⟩ : ByteArray)) ++ t304) ++ (⟨#[46]⟩ : ByteArray)).size + t305.size ≤ 9223372036854775807 then (some ((((((t302 ++ (⟨#[46]⟩ : ByteArray)) ++ t303) ++ (⟨#[46]⟩ : ByteArray)) ++ t304) ++ (⟨#[46]⟩ : ByteArray)) ++ t305)) else (none))) else (none)) else (none))) else (none)) else (none))) else (none)) = some r := H
 have A2 := Aside0.mk A20;clear A20
 by_cases c3 : t302.size + 1 ≤ 9223372036854775807
 ·rw [if_pos c3] at H
  have c3b0 := eq_true c3;have c3b1 : decide (t302.size + 1 ≤ 9223372036854775807) = true := decide_eq_true c3
  try have c3b2 : (9223372036854775807 < t302.size + 1) = False := eq_false (Nat.not_lt.2 c3)
  replace H := Option.bind_eq_some_iff.mp H;obtain ⟨t303, A40, H⟩ := H
  replace H : (if (t302 ++ (⟨#[46]⟩ : ByteArray)).size + t303.size ≤ 9223372036854775807 then (if ((t302 ++ (⟨#[46]⟩ : ByteArray)) ++ t303).size + 1 ≤ 9223372036854775807 then ((crossbuckref02_Digits.f k ((Int.tdiv a0 256) % 256)).bind fun t304 => (if (((t302 ++ (⟨#[46]⟩ : ByteArray)) ++ t303) ++ (⟨#[46]⟩ : ByteArray)).size + t304.size ≤ 9223372036854775807 then (if ((((t302 ++ (⟨#[46]⟩ : ByteArray)) ++ t303) ++ (⟨#[46]⟩ : ByteArray)) ++ t304).size + 1 ≤ 9223372036854775807 then ((crossbuckref02_Digits.f k (wrap64 (Int.tmod a0 256))).bind fun t305 => (if (((((t302 ++ (⟨#[46]⟩ : ByteArray)) ++ t303) ++ (⟨#[46]⟩ : ByteArray)) ++ t304) ++ (⟨#[46]⟩ : ByteArray)).size + t305.size ≤ 9223372036854775807 then (some ((((((t302 ++ (⟨#[46]⟩ : ByteArray)) ++ t303) ++ (⟨#[46]⟩ : ByteArray)) ++ t304) ++ (⟨#[46]⟩ : ByteArray)) ++ t305)) else (none))) else (none)) else (none))) else (none)) else (none)) = some r := H
  have A4 := Aside0.mk A40;clear A40
  by_cases c5 : (t302 ++ (⟨#[46]⟩ : ByteArray)).size + t303.size ≤ 9223372036854775807
  ·rw [if_pos c5] at H
   have c5b0 := eq_true c5;have c5b1 : decide ((t302 ++ (⟨#[46]⟩ : ByteArray)).size + t303.size ≤ 9223372036854775807) = true := decide_eq_true c5
   try have c5b2 : (9223372036854775807 < (t302 ++ (⟨#[46]⟩ : ByteArray)).size + t303.size) = False := eq_false (Nat.not_lt.2 c5)
   try have c5b3 := c5b2
   try simp only [ByteArray.size_append, Hand.lit_size, List.length_cons, List.length_nil, Nat.zero_add, Nat.reduceAdd] at c5b3
   by_cases c6 : ((t302 ++ (⟨#[46]⟩ : ByteArray)) ++ t303).size + 1 ≤ 9223372036854775807
   ·rw [if_pos c6] at H
    have c6b0 := eq_true c6;have c6b1 : decide (((t302 ++ (⟨#[46]⟩ : ByteArray)) ++ t303).size + 1 ≤ 9223372036854775807) = true := decide_eq_true c6
    try have c6b2 : (9223372036854775807 < ((t302 ++ (⟨#[46]⟩ : ByteArray)) ++ t303).size + 1) = False := eq_false (Nat.not_lt.2 c6)
    try have c6b3 := c6b2
    try simp only [ByteArray.size_append, Hand.lit_size, List.length_cons, List.length_nil, Nat.zero_add, Nat.reduceAdd] at c6b3
    replace H := Option.bind_eq_some_iff.mp H;obtain ⟨t304, A70, H⟩ := H
    replace H : (if (((t302 ++ (⟨#[46]⟩ : ByteArray)) ++ t303) ++ (⟨#[46]⟩ : ByteArray)).size + t304.size ≤ 9223372036854775807 then (if ((((t302 ++ (⟨#[46]⟩ : ByteArray)) ++ t303) ++ (⟨#[46]⟩ : ByteArray)) ++ t304).size + 1 ≤ 9223372036854775807 then ((crossbuckref02_Digits.f k (wrap64 (Int.tmod a0 256))).bind fun t305 => (if (((((t302 ++ (⟨#[46]⟩ : ByteArray)) ++ t303) ++ (⟨#[46]⟩ : ByteArray)) ++ t304) ++ (⟨#[46]⟩ : ByteArray)).size + t305.size ≤ 9223372036854775807 then (some ((((((t302 ++ (⟨#[46]⟩ : ByteArray)) ++ t303) ++ (⟨#[46]⟩ : ByteArray)) ++ t304) ++ (⟨#[46]⟩ : ByteArray)) ++ t305)) else (none))) else (none)) else (none)) = some r := H
    have A7 := Aside0.mk A70;clear A70
    by_cases c8 : (((t302 ++ (⟨#[46]⟩ : ByteArray)) ++ t303) ++ (⟨#[46]⟩ : ByteArray)).size + t304.size ≤ 9223372036854775807
    ·rw [if_pos c8] at H
     have c8b0 := eq_true c8;have c8b1 : decide ((((t302 ++ (⟨#[46]⟩ : ByteArray)) ++ t303) ++ (⟨#[46]⟩ : ByteArray)).size + t304.size ≤ 9223372036854775807) = true := decide_eq_true c8
     try have c8b2 : (9223372036854775807 < (((t302 ++ (⟨#[46]⟩ : ByteArray)) ++ t303) ++ (⟨#[46]⟩ : ByteArray)).size + t304.size) = False := eq_false (Nat.not_lt.2 c8)
     try have c8b3 := c8b2
     try simp only [ByteArray.size_append, Hand.lit_size, List.length_cons, List.length_nil, Nat.zero_add, Nat.reduceAdd] at c8b3
     by_cases c9 : ((((t302 ++ (⟨#[46]⟩ : ByteArray)) ++ t303) ++ (⟨#[46]⟩ : ByteArray)) ++ t304).size + 1 ≤ 9223372036854775807
     ·rw [if_pos c9] at H
      have c9b0 := eq_true c9;have c9b1 : decide (((((t302 ++ (⟨#[46]⟩ : ByteArray)) ++ t303) ++ (⟨#[46]⟩ : ByteArray)) ++ t304).size + 1 ≤ 9223372036854775807) = true := decide_eq_true c9
      try have c9b2 : (9223372036854775807 < ((((t302 ++ (⟨#[46]⟩ : ByteArray)) ++ t303) ++ (⟨#[46]⟩ : ByteArray)) ++ t304).size + 1) = False := eq_false (Nat.not_lt.2 c9)
      try have c9b3 := c9b2
      try simp only [ByteArray.size_append, Hand.lit_size, List.length_cons, List.length_nil, Nat.zero_add, Nat.reduceAdd] at c9b3
      replace H := Option.bind_eq_some_iff.mp H;obtain ⟨t305, A100, H⟩ := H;replace H : (if (((((t302 ++ (⟨#[46]⟩ : ByteArray)) ++ t303) ++ (⟨#[46]⟩ : ByteArray)) ++ t304) ++ (⟨#[46]⟩ : ByteArray)).size + t305.size ≤ 9223372036854775807 then (some ((((((t302 ++ (⟨#[46]⟩ : ByteArray)) ++ t303) ++ (⟨#[46]⟩ : ByteArray)) ++ t304) ++ (⟨#[46]⟩ : ByteArray)) ++ t305)) else (none)) = some r := H;have A10 := Aside0.mk A100;clear A100
      by_cases c11 : (((((t302 ++ (⟨#[46]⟩ : ByteArray)) ++ t303) ++ (⟨#[46]⟩ : ByteArray)) ++ t304) ++ (⟨#[46]⟩ : ByteArray)).size + t305.size ≤ 9223372036854775807
      ·rw [if_pos c11] at H
       have c11b0 := eq_true c11;have c11b1 : decide ((((((t302 ++ (⟨#[46]⟩ : ByteArray)) ++ t303) ++ (⟨#[46]⟩ : ByteArray)) ++ t304) ++ (⟨#[46]⟩ : ByteArray)).size + t305.size ≤ 9223372036854775807) = true := decide_eq_true c11
       try have c11b2 : (9223372036854775807 < (((((t302 ++ (⟨#[46]⟩ : ByteArray)) ++ t303) ++ (⟨#[46]⟩ : ByteArray)) ++ t304) ++ (⟨#[46]⟩ : ByteArray)).size + t305.size) = False := eq_false (Nat.not_lt.2 c11)
       try have c11b3 := c11b2
       try simp only [ByteArray.size_append, Hand.lit_size, List.length_cons, List.length_nil, Nat.zero_add, Nat.reduceAdd] at c11b3
       obtain rfl := Option.some.inj H;go_enter Tryd.func55, Tryd.ntmps55
       go_wp2_with (first | ((with_reducible refine gate_callee (f := 99) rfl ?_); refine goesL_ (some 6) rfl rfl Tryd.func99 (by kernel_rfl) rfl #[.int .i64 ((Int.tdiv a0 16777216) % 4294967296)] rfl aok ?_; (with_reducible refine (crossbuckref02_Digits.calls k ((Int.tdiv a0 16777216) % 4294967296) t302 _ A2.out).mono ?_); rintro e w12 ⟨rfl, hb⟩; refine ⟨_, rfl, ?_⟩; have n0_ := Aside0.mk (below_step (bel HB) hb); clear HB; have HB := n0_; clear n0_; (try clear hb); (try clear hb2); (try clear hk); (try clear hi)) | ((with_reducible refine gate_callee (f := 99) rfl ?_); refine goesL_ (some 12) rfl rfl Tryd.func99 (by kernel_rfl) rfl #[.int .i64 ((Int.tdiv a0 65536) % 256)] rfl aok ?_; (with_reducible refine (crossbuckref02_Digits.calls k ((Int.tdiv a0 65536) % 256) t303 _ A4.out).mono ?_); rintro e w13 ⟨rfl, hb⟩; refine ⟨_, rfl, ?_⟩; have n0_ := Aside0.mk (below_step (bel HB) hb); clear HB; have HB := n0_; clear n0_; (try clear hb); (try clear hb2); (try clear hk); (try clear hi)) | ((with_reducible refine gate_callee (f := 99) rfl ?_); refine goesL_ (some 19) rfl rfl Tryd.func99 (by kernel_rfl) rfl #[.int .i64 ((Int.tdiv a0 256) % 256)] rfl aok ?_; (with_reducible refine (crossbuckref02_Digits.calls k ((Int.tdiv a0 256) % 256) t304 _ A7.out).mono ?_); rintro e w14 ⟨rfl, hb⟩; refine ⟨_, rfl, ?_⟩; have n0_ := Aside0.mk (below_step (bel HB) hb); clear HB; have HB := n0_; clear n0_; (try clear hb); (try clear hb2); (try clear hk); (try clear hi)) | ((with_reducible refine gate_callee (f := 99) rfl ?_); refine goesL_ (some 25) rfl rfl Tryd.func99 (by kernel_rfl) rfl #[.int .i64 (wrap64 (Int.tmod a0 256))] rfl aok ?_; (with_reducible refine (crossbuckref02_Digits.calls k (wrap64 (Int.tmod a0 256)) t305 _ A10.out).mono ?_); rintro e w15 ⟨rfl, hb⟩; refine ⟨_, rfl, ?_⟩; have n0_ := Aside0.mk (below_step (bel HB) hb); clear HB; have HB := n0_; clear n0_; (try clear hb); (try clear hb2); (try clear hk); (try clear hi)))
       go_ret
       exact ⟨fin, bel HB⟩
      ·rw [if_neg c11] at H
       exact absurd H (by simp)
     ·rw [if_neg c9] at H
      exact absurd H (by simp)
    ·rw [if_neg c8] at H
     exact absurd H (by simp)
   ·rw [if_neg c6] at H
    exact absurd H (by simp)
  ·rw [if_neg c5] at H
   exact absurd H (by simp)
 ·rw [if_neg c3] at H
  exact absurd H (by simp)

end Go.Proofs.YtloclimoffhbhaaDoor.PSto

namespace Go.Proofs.YtloclimoffhbhaaDoor.PSto
open Go.RowKit Go.Proofs.YtloclimoffhbhaaDoorW.PrintWords Go.Proofs.YtloclimoffhbhaaDoorW.PrintLast Go.Proofs.YtloclimoffhbhaaDoorW.PrintMore Go.Proofs.YtloclimoffhbhaaDoorW.PrintSq List
attribute [local go_sem] max2_int min2_int max_two min_two max_three min_three max_four min_four   -- for this text's walks alone
set_option linter.unusedVariables false
set_option linter.unusedSimpArgs false

/-! ### crossbuckref03_Print: function 63 -/
def crossbuckref03_Print.f (k : Nat) (a0_0 : Int) (a0_1 : Int) : Option (ByteArray) := (crossbuckref02_Addr.f k a0_0).bind fun t307 => (if t307.size + 1 ≤ 9223372036854775807 then ((crossbuckref02_Digits.f k a0_1).bind fun t308 => (if (t307 ++ (⟨#[47]⟩ : ByteArray)).size + t308.size ≤ 9223372036854775807 then (some ((t307 ++ (⟨#[47]⟩ : ByteArray)) ++ t308)) else (none))) else (none))
def crossbuckref03_Print.T1 : Bool × List (List Nat × List Nat) := (true, [([], []), ([0], [0]), ([1], [1]), ([2], [2]), ([], []), ([4], [4]), ([5, 2], [5]), ([3, 6], [3, 6]), ([7, 6, 0, 1, 2, 3, 4, 5, 6, 7], [7])])
def crossbuckref03_Print.B1 : List Nat := [0, 1, 3, 7, 0, 16, 55, 127, 255]
theorem crossbuckref03_Print.tab1 : rtab .any (opsOf Tryd.f63 1) = crossbuckref03_Print.T1 := by kernel_rfl
theorem crossbuckref03_Print.bits1 : waitsOk crossbuckref03_Print.T1.2 crossbuckref03_Print.B1 = true := by kernel_rfl
set_option maxHeartbeats 8000000 in
set_option maxRecDepth 100000 in
theorem crossbuckref03_Print.calls (k : Nat) (a0_0 : Int) (a0_1 : Int) (r : ByteArray) (w : World) (h : crossbuckref03_Print.f k a0_0 a0_1 = some r) :
  Calls Tryd.prog 63 #[.agg #[.int .u32 a0_0, .int .i64 a0_1]] w fun e w' => e = .returned (.string r) ∧ Below w.heap.size w w' := by
 have hu42 := Tryd.underlying42;have HB := Aside0.mk (Below.refl w.heap.size w)
 have H : ((crossbuckref02_Addr.f k a0_0).bind fun t307 => (if t307.size + 1 ≤ 9223372036854775807 then ((crossbuckref02_Digits.f k a0_1).bind fun t308 => (if (t307 ++ (⟨#[47]⟩ : ByteArray)).size + t308.size ≤ 9223372036854775807 then (some ((t307 ++ (⟨#[47]⟩ : ByteArray)) ++ t308)) else (none))) else (none))) = some r := h
 clear h;replace H := Option.bind_eq_some_iff.mp H;obtain ⟨t307, A20, H⟩ := H
 replace H : (if t307.size + 1 ≤ 9223372036854775807 then ((crossbuckref02_Digits.f k a0_1).bind fun t308 => (if (t307 ++ (⟨#[47]⟩ : ByteArray)).size + t308.size ≤ 9223372036854775807 then (some ((t307 ++ (⟨#[47]⟩ : ByteArray)) ++ t308)) else (none))) else (none)) = some r := H
 have A2 := Aside0.mk A20;clear A20
 by_cases c3 : t307.size + 1 ≤ 9223372036854775807
 ·rw [if_pos c3] at H
  have c3b0 := eq_true c3;have c3b1 : decide (t307.size + 1 ≤ 9223372036854775807) = true := decide_eq_true c3
  try have c3b2 : (9223372036854775807 < t307.size + 1) = False := eq_false (Nat.not_lt.2 c3)
  replace H := Option.bind_eq_some_iff.mp H;obtain ⟨t308, A40, H⟩ := H;replace H : (if (t307 ++ (⟨#[47]⟩ : ByteArray)).size + t308.size ≤ 9223372036854775807 then (some ((t307 ++ (⟨#[47]⟩ : ByteArray)) ++ t308)) else (none)) = some r := H;have A4 := Aside0.mk A40;clear A40
  by_cases c5 : (t307 ++ (⟨#[47]⟩ : ByteArray)).size + t308.size ≤ 9223372036854775807
  ·rw [if_pos c5] at H
   have c5b0 := eq_true c5;have c5b1 : decide ((t307 ++ (⟨#[47]⟩ : ByteArray)).size + t308.size ≤ 9223372036854775807) = true := decide_eq_true c5
   try have c5b2 : (9223372036854775807 < (t307 ++ (⟨#[47]⟩ : ByteArray)).size + t308.size) = False := eq_false (Nat.not_lt.2 c5)
   try have c5b3 := c5b2
   try simp only [ByteArray.size_append, Hand.lit_size, List.length_cons, List.length_nil, Nat.zero_add, Nat.reduceAdd] at c5b3
   obtain rfl := Option.some.inj H;go_enter Tryd.func63, Tryd.ntmps63
   try go_wp2_with (first | ((with_reducible refine gate_dst (N := 1) rfl ?_); refine box_event rfl (N := 1) rfl (cs := #[.int .u32 a0_0, .int .i64 a0_1]) (t := 42) gs ?_; intro gb306 hg w6 hbox hb; have n0_ := Aside0.mk (below_step (bel HB) hb); have n1_ := Aside0.mk (hbox); have n2_ := gew HB hg; have n3_ := gew HB hg; clear HB; have HB := n0_; have BK306 := n1_; have GW306 := n2_; have GE306 := n3_; clear n0_ n1_ n2_ n3_; clear hb hbox hg))
   replace BK306 := Aside0.mk (blk_drew BK306.out);replace HB := Aside0.mk (below_drew1 HB.out)
   refine start_ (n := 9) (S := fun w' => w'.cell? ⟨gb306, 0, none⟩ = some (.int .u32 a0_0) ∧ w'.cell? ⟨gb306, 1, none⟩ = some (.int .i64 a0_1)) (ds := []) #[F,F,F,F,F,F,F,F,F] (by kernel_rfl) rfl rfl ⟨(blk_cell BK306.out 0).trans rfl, (blk_cell BK306.out 1).trans rfl⟩ (fun hHeld => ?_); refine with_tabW crossbuckref03_Print.tab1 crossbuckref03_Print.bits1 (fun HT_ HW_ => ?_)
   generalize w6.drew = w7 at BK306 HB hHeld ⊢
   refine pu 0 (some 3) #[T,F,F,F,F,F,F,F,F] (any_of HT_.out (by kernel_rfl)) ?_
   refine pu 4 (some 7) #[T,F,F,F,T,F,F,F,F] (any_of HT_.out (by kernel_rfl)) ?_
   refine take_ (i := 1) (N := some 4) (v := ?_) (a' := ?_) #[T,T,F,F,T,F,F,F,F] rfl rfl (take_ofW HT_.out HW_.out (by kernel_rfl)) (fun _ _ _ h => h) (Or.inl ⟨by rfl, ?_⟩) hHeld ?_ ?_
   rotate_left
   ·rintro w' ⟨s0, s1⟩
    go_simp;with_reducible rfl
   rotate_left;·simp only [Act.put, setIfInBounds_toArray, set_cons_zero, set_cons_succ, i64_w, i32_w];rfl
   refine take_ (i := 5) (N := some 8) (v := ?_) (a' := ?_) #[T,T,F,F,T,T,F,F,F] rfl rfl (take_ofW HT_.out HW_.out (by kernel_rfl)) (fun _ _ _ h => h) (Or.inl ⟨by rfl, ?_⟩) hHeld ?_ ?_
   rotate_left
   ·rintro w' ⟨s0, s1⟩
    go_simp;with_reducible rfl
   rotate_left;·simp only [Act.put, setIfInBounds_toArray, set_cons_zero, set_cons_succ, i64_w, i32_w];rfl
   refine one_ (i := 2) (N := some 5) #[T,T,T,F,T,T,F,F,F] rfl rfl (one_of HT_.out (by kernel_rfl)) (by decide) (fun K hK => ?_)
   refine goes_ Tryd.func55 (by kernel_rfl) rfl #[.int .u32 a0_0] (by rfl) rfl rfl aok ?_
   with_reducible refine (crossbuckref02_Addr.calls k a0_0 t307 _ A2.out).mono ?_;rintro e w8 ⟨rfl, hb⟩;refine ⟨_, rfl, ?_⟩;replace BK306 := Aside0.mk (bb BK306.out hb)
   replace HB := Aside0.mk (below_step (bel HB) hb)
   (try clear hb);(try clear hb2);(try clear hk);(try clear hi)
   refine hK.out _ _ ⟨(blk_cell BK306.out 0).trans rfl, (blk_cell BK306.out 1).trans rfl⟩ (fun hHeld => ?_)
   clear hK K
   refine nput ?_
   refine pu 3 (some 6) #[T,T,T,T,T,T,F,F,F] (any_of HT_.out (by kernel_rfl)) ?_
   refine one_ (i := 6) (N := some 9) #[T,T,T,T,T,T,T,F,F] rfl rfl (one_of HT_.out (by kernel_rfl)) (by decide) (fun K hK => ?_)
   refine goes_ Tryd.func99 (by kernel_rfl) rfl #[.int .i64 a0_1] (by rfl) rfl rfl aok ?_
   with_reducible refine (crossbuckref02_Digits.calls k a0_1 t308 _ A4.out).mono ?_;rintro e w9 ⟨rfl, hb⟩;refine ⟨_, rfl, ?_⟩;replace BK306 := Aside0.mk (bb BK306.out hb)
   replace HB := Aside0.mk (below_step (bel HB) hb)
   (try clear hb);(try clear hb2);(try clear hk);(try clear hi)
   refine hK.out _ _ ⟨(blk_cell BK306.out 0).trans rfl, (blk_cell BK306.out 1).trans rfl⟩ (fun hHeld => ?_)
   clear hK K
   refine nput ?_
   refine pu 7 (some 10) #[T,T,T,T,T,T,T,T,F] (any_of HT_.out (by kernel_rfl)) ?_
   refine pu 8 (some 2) #[T,T,T,T,T,T,T,T,T] (any_of HT_.out (by kernel_rfl)) ?_
   refine done_ (done_of HT_.out (by kernel_rfl)) ?_
   try go_wp2
   go_ret
   exact ⟨fin, bel HB⟩
  ·rw [if_neg c5] at H
   exact absurd H (by simp)
 ·rw [if_neg c3] at H
  exact absurd H (by simp)

end Go.Proofs.YtloclimoffhbhaaDoor.PSto

namespace Go.Proofs.YtloclimoffhbhaaDoor.PSto
open Go.RowKit Go.Proofs.YtloclimoffhbhaaDoorW.PrintWords Go.Proofs.YtloclimoffhbhaaDoorW.PrintLast Go.Proofs.YtloclimoffhbhaaDoorW.PrintMore Go.Proofs.YtloclimoffhbhaaDoorW.PrintSq List
attribute [local go_sem] max2_int min2_int max_two min_two max_three min_three max_four min_four   -- for this text's walks alone
set_option linter.unusedVariables false
set_option linter.unusedSimpArgs false

/-! ### crossbuckref25_n: function 78 -/
def crossbuckref25_n.f (k : Nat) (a0 : Int) : Option (ByteArray) := (crossbuckref02_Digits.f k a0).bind fun t309 => (some t309)
set_option maxHeartbeats 8000000 in
set_option maxRecDepth 100000 in
theorem crossbuckref25_n.calls (k : Nat) (a0 : Int) (r : ByteArray) (w : World) (h : crossbuckref25_n.f k a0 = some r) :
  Calls Tryd.prog 78 #[.int .i64 a0] w fun e w' => e = .returned (.string r) ∧ Below w.heap.size w w' := by
 have HB := Aside0.mk (Below.refl w.heap.size w)
 have H : ((crossbuckref02_Digits.f k a0).bind fun t309 => (some t309)) = some r := h
 clear h;replace H := Option.bind_eq_some_iff.mp H;obtain ⟨t309, A20, H⟩ := H;replace H : (some t309) = some r := H;have A2 := Aside0.mk A20;clear A20;obtain rfl := Option.some.inj H;go_enter Tryd.func78, Tryd.ntmps78
 go_wp2_with (first | ((with_reducible refine gate_callee (f := 99) rfl ?_); refine goesL_ (some 4) rfl rfl Tryd.func99 (by kernel_rfl) rfl #[.int .i64 a0] rfl aok ?_; (with_reducible refine (crossbuckref02_Digits.calls k a0 t309 _ A2.out).mono ?_); rintro e w3 ⟨rfl, hb⟩; refine ⟨_, rfl, ?_⟩; have n0_ := Aside0.mk (below_step (bel HB) hb); clear HB; have HB := n0_; clear n0_; (try clear hb); (try clear hb2); (try clear hk); (try clear hi)))
 go_ret
 exact ⟨fin, bel HB⟩

end Go.Proofs.YtloclimoffhbhaaDoor.PSto

namespace Go.Proofs.YtloclimoffhbhaaDoor.PSto
open Go.RowKit Go.Proofs.YtloclimoffhbhaaDoorW.PrintWords Go.Proofs.YtloclimoffhbhaaDoorW.PrintLast Go.Proofs.YtloclimoffhbhaaDoorW.PrintMore Go.Proofs.YtloclimoffhbhaaDoorW.PrintSq List
attribute [local go_sem] max2_int min2_int max_two min_two max_three min_three max_four min_four   -- for this text's walks alone
set_option linter.unusedVariables false
set_option linter.unusedSimpArgs false

/-! ### strconv_Itoa_76: function 76 (by hand) -/
def strconv_Itoa_76.f (a0 : Int) : Option ByteArray := if -9223372036854775808 ≤ a0 ∧ a0 ≤ 9223372036854775807 then some ⟨(Lib.itoa a0).toArray⟩ else none
theorem strconv_Itoa_76.calls (a0 : Int) (r : ByteArray) (w : World) (hG : Hand.Good false true w) (h : strconv_Itoa_76.f a0 = some r) :
  Calls Tryd.prog 76 #[.int .i64 a0] w fun e w' => e = .returned (.string r) ∧ Below w.heap.size w w' := by
 unfold strconv_Itoa_76.f at h
 by_cases c : -9223372036854775808 ≤ a0 ∧ a0 ≤ 9223372036854775807
 ·rw [if_pos c] at h
  obtain rfl := Option.some.inj h;exact Hand.itoa_calls a0 w hG c.1 c.2
 ·rw [if_neg c] at h; cases h

end Go.Proofs.YtloclimoffhbhaaDoor.PSto

namespace Go.Proofs.YtloclimoffhbhaaDoor.PSto
open Go.RowKit Go.Proofs.YtloclimoffhbhaaDoorW.PrintWords Go.Proofs.YtloclimoffhbhaaDoorW.PrintLast Go.Proofs.YtloclimoffhbhaaDoorW.PrintMore Go.Proofs.YtloclimoffhbhaaDoorW.PrintSq List
attribute [local go_sem] max2_int min2_int max_two min_two max_three min_three max_four min_four   -- for this text's walks alone
set_option linter.unusedVariables false
set_option linter.unusedSimpArgs false

/-! ### hdr_Addr: function 53 -/
def hdr_Addr.l0 : Nat → Int → List ByteArray → Int → Option (ByteArray)
 | 0, _, _, _ => none
 | k + 1, x0, x3, x4 => if x4 ≥ 0 then (if 0 ≤ x4 then ((strconv_Itoa_76.f (wrap64 (Go.bits .and .u32 (shr .u32 x0 x4) 255))).bind fun t245 => (if x3.length < 8796093022208 then (hdr_Addr.l0 k x0 (x3 ++ [t245]) (wrap64 (x4 - 8))) else (none))) else (none)) else ((strings_Join.f x3 (⟨#[46]⟩ : ByteArray)).bind fun t249 => (some t249))
def hdr_Addr.f (k : Nat) (a0 : Int) : Option (ByteArray) := hdr_Addr.l0 k a0 ([] : List ByteArray) 24
set_option maxHeartbeats 8000000 in
set_option maxRecDepth 100000 in
theorem hdr_Addr.calls (k : Nat) (a0 : Int) (r : ByteArray) (w : World) (hG : Hand.Good false true w) (h : hdr_Addr.f k a0 = some r) :
  Calls Tryd.prog 53 #[.int .u32 a0] w fun e w' => e = .returned (.string r) ∧ Below w.heap.size w w' := by
 have HB := Aside0.mk (Below.refl w.heap.size w);have hGG := Aside0.mk hG;clear hG;have H : (hdr_Addr.l0 k a0 ([] : List ByteArray) 24) = some r := h;clear h;have H' := Aside0.mk H;clear H;go_enter Tryd.func53, Tryd.ntmps53;go_wp2
 go_loopg [3, 4] k (fun kq v3 v4 w' => ∃ (x3_1 : List ByteArray) (x4_1 : Int), v4 = .int .i64 x4_1 ∧ Aside0 (hdr_Addr.l0 kq a0 x3_1 x4_1 = some r) ∧ Aside0 (kq ≤ k) ∧ Aside0 (Kd.R Kd.string 9 w' w.heap.size (fun _ => True) v3 x3_1) ∧ Aside0 (Below w.heap.size w w'))
 case atStart => exact ⟨(([] : List ByteArray)), (24), (by first | rfl | (simp; done) | (simp [*]; done)), H', ⟨Nat.le_refl _⟩, ⟨by first | exact Kd.R_nil _ _ _ _ _ | exact Kd.N_nil _ _ _ _ _ | exact Kd.V_nil _ _ _ _ _ | exact Kd.Q_nil _ _ _ _ _ | exact Kd.S_nil _ _ _ _ _⟩, ⟨by repeat (first | (with_reducible first | exact HB.out | apply below_alloc | apply pw_below_drewN | apply below_drew1) | exact HB.out)⟩⟩
 case round =>
  clear H';obtain ⟨x3_1, x4_1, rfl, HA, HK1, HO_3, HB⟩ := hrel
  cases gk with
  | zero => exact absurd HA.out (by simp [hdr_Addr.l0])
  | succ k1 =>
   have H := HA.out;clear HA;simp only [hdr_Addr.l0] at H
   by_cases c2 : x4_1 ≥ 0
   ·rw [if_pos c2] at H
    have c2b0 : decide (0 ≤ x4_1) = true := decide_eq_true c2;clear c2
    by_cases c3 : 0 ≤ x4_1
    ·rw [if_pos c3] at H
     have c3b0 := eq_true c3;have c3b1 : decide (0 ≤ x4_1) = true := decide_eq_true c3;clear c3;obtain ⟨ji4, hji4⟩ : ∃ j_ : Int, (shr .u32 a0 x4_1) = j_ := ⟨_, rfl⟩
     replace H : ((strconv_Itoa_76.f (wrap64 (Go.bits .and .u32 (ji4) 255))).bind fun t245 => (if x3_1.length < 8796093022208 then (hdr_Addr.l0 k1 a0 (x3_1 ++ [t245]) (wrap64 (x4_1 - 8))) else (none))) = some r := by first | (rw [hji4] at H; exact H) | (simp only [hji4] at H ⊢; exact H)
     have hji4_ : (a0 / 2 ^ min x4_1.toNat 32) = ji4 := hji4;have hji4z : x4_1 ≤ 32 → (a0 / 2 ^ x4_1.toNat) = ji4 := shr_small hji4;replace H := Option.bind_eq_some_iff.mp H;obtain ⟨t245, A50, H⟩ := H;replace H : (if x3_1.length < 8796093022208 then (hdr_Addr.l0 k1 a0 (x3_1 ++ [t245]) (wrap64 (x4_1 - 8))) else (none)) = some r := H;have A5 := Aside0.mk A50;clear A50
     by_cases c6 : x3_1.length < 8796093022208
     ·rw [if_pos c6] at H
      have LMc6 := Aside0.mk c6;clear c6;obtain ⟨y246, hy246⟩ : ∃ y_ : List ByteArray, y_ = (x3_1 ++ [t245]) := ⟨_, rfl⟩
      replace H : (hdr_Addr.l0 k1 a0 y246 (wrap64 (x4_1 - 8))) = some r := by first | (rw [hy246]; with_reducible exact H) | (have H2_ := (Option.bind_some _ _).symm.trans H; rw [hy246]; with_reducible exact H2_) | (have H2_ := (Option.bind_some _ _).symm.trans H; with_reducible exact H2_) | with_reducible exact H | (rw [hy246]; exact H) | exact H
      have Ny246 := Aside0.mk hy246;clear hy246;have H' := Aside0.mk H;clear H
      go_wp2_with (first | ((with_reducible refine gate_callee (f := 76) rfl ?_); refine goesL_ (some 15) rfl rfl Tryd.func76 (by kernel_rfl) rfl #[.int .i64 (wrap64 (Go.bits .and .u32 (ji4) 255))] rfl (by (try simp only [List.map_toArray, List.map_cons, List.map_nil]); first | done | (simp only [hji4]; rfl) | rfl | (simp only [List.length_drop, List.length_take]; rfl)) ?_; (with_reducible refine (strconv_Itoa_76.calls (wrap64 (Go.bits .and .u32 (ji4) 255)) t245 _ (Hand.Good.below false true hGG.out (bel HB) rfl rfl) A5.out).mono ?_); rintro e w7 ⟨rfl, hb⟩; refine ⟨_, rfl, ?_⟩; have n0_ := Aside0.mk (Kd.R_below (rp HO_3) hb); have n1_ := Aside0.mk (below_step (bel HB) hb); clear HO_3; clear HB; have HO_3 := n0_; have HB := n1_; clear n0_ n1_; (try clear hb); (try clear hb2); (try clear hk); (try clear hi)) | ((with_reducible refine gate_builtin (b := .append) (xs := #[.tmp 9, .tmp 16]) rfl ?_); at_builtin; refine Kd.R_append Kd.string (w0 := w) w.heap.size rfl (.tmp 9) (.tmp 16) 30 9 (.string ⟨#[]⟩) 16 rfl Tryd.underlying30 info9 rfl (by decide) (by omega) u3 x3_1 t245 [.string t245] (fun _ => True) (fun _ => False) rfl rfl ?aP (fun _ hk => hk.elim) ?aF ?aO ?aB ?aS ?aL ?_; (case aP => exact rfl); (case aB => exact (bel HB)); (case aF => exact (fun _ _ => trivial)); (case aO => exact (rp HO_3)); (case aS => exact (below_size (bel HB))); (case aL => have := LMc6.out; omega); intro v247 w8 ho hb hg hat; rw [← Ny246.out] at ho; have n0_ := Aside0.mk (hb); have n1_ := Aside0.mk (ho); clear HB; clear HO_3; have HB := n0_; have HO248 := n1_; clear n0_ n1_; clear ho hb hg hat))
      go_roundg k1
      case measure => have := HK1.out; omega
      case rel => exact ⟨(y246), (wrap64 (x4_1 - 8)), (by first | rfl | (simp; done) | (simp [*]; done)), H', ⟨by have := HK1.out; omega⟩, ⟨rp HO248⟩, ⟨by repeat (first | (with_reducible first | exact HB.out | apply below_alloc | apply pw_below_drewN | apply below_drew1) | exact HB.out)⟩⟩
     ·rw [if_neg c6] at H
      exact absurd H (by simp)
    ·rw [if_neg c3] at H
     exact absurd H (by simp)
   ·rw [if_neg c2] at H
    have c2b0 : decide (0 ≤ x4_1) = false := decide_eq_false c2;clear c2;replace H := Option.bind_eq_some_iff.mp H;obtain ⟨t249, A90, H⟩ := H;replace H : (some t249) = some r := H;have A9 := Aside0.mk A90;clear A90;obtain rfl := Option.some.inj H;obtain ⟨Ao10, co10, eo10⟩ := Kd.R_slice HO_3.out;subst eo10
    go_wp2_with (first | ((with_reducible refine gate_callee (f := 77) rfl ?_); refine goesL_ (some 19) rfl rfl Tryd.func77 (by kernel_rfl) rfl #[.slice Ao10 x3_1.length co10, .string (⟨#[46]⟩ : ByteArray)] rfl aok ?_; (with_reducible refine (strings_Join.calls _ _ x3_1 (⟨#[46]⟩ : ByteArray) t249 _ ?side1 ?side2 A9.out).mono ?_); (case side1 => repeat (first | exact (Kd.R_reads' HO_3.out).2.2 | (with_reducible refine Kd.C_alloc ?_ _) | (with_reducible refine Kd.C_drewN ?_ _) | (with_reducible refine Kd.C_drew ?_))); (case side2 => exact (Kd.R_reads' HO_3.out).2.1); rintro e w11 ⟨rfl, hb⟩; refine ⟨_, rfl, ?_⟩; have n0_ := Aside0.mk (Kd.R_below (rp HO_3) hb); have n1_ := Aside0.mk (below_step (bel HB) hb); clear HO_3; clear HB; have HO_3 := n0_; have HB := n1_; clear n0_ n1_; (try clear hb); (try clear hb2); (try clear hk); (try clear hi)))
    go_ret
    exact ⟨fin, bel HB⟩

end Go.Proofs.YtloclimoffhbhaaDoor.PSto

namespace Go.Proofs.YtloclimoffhbhaaDoor.PSto
open Go.RowKit Go.Proofs.YtloclimoffhbhaaDoorW.PrintWords Go.Proofs.YtloclimoffhbhaaDoorW.PrintLast Go.Proofs.YtloclimoffhbhaaDoorW.PrintMore Go.Proofs.YtloclimoffhbhaaDoorW.PrintSq List
attribute [local go_sem] max2_int min2_int max_two min_two max_three min_three max_four min_four   -- for this text's walks alone
set_option linter.unusedVariables false
set_option linter.unusedSimpArgs false

/-! ### cidr_Print: function 62 -/
def cidr_Print.f (k : Nat) (a0_0 : Int) (a0_1 : Int) : Option (ByteArray) := (hdr_Addr.f k a0_0).bind fun t251 => (if t251.size + 1 ≤ 9223372036854775807 then ((strconv_Itoa_76.f a0_1).bind fun t252 => (if (t251 ++ (⟨#[47]⟩ : ByteArray)).size + t252.size ≤ 9223372036854775807 then (some ((t251 ++ (⟨#[47]⟩ : ByteArray)) ++ t252)) else (none))) else (none))
def cidr_Print.T1 : Bool × List (List Nat × List Nat) := (true, [([], []), ([0], [0]), ([1], [1]), ([2], [2]), ([], []), ([4], [4]), ([5, 2], [5]), ([3, 6], [3, 6]), ([7, 6, 0, 1, 2, 3, 4, 5, 6, 7], [7])])
def cidr_Print.B1 : List Nat := [0, 1, 3, 7, 0, 16, 55, 127, 255]
theorem cidr_Print.tab1 : rtab .any (opsOf Tryd.f62 1) = cidr_Print.T1 := by kernel_rfl
theorem cidr_Print.bits1 : waitsOk cidr_Print.T1.2 cidr_Print.B1 = true := by kernel_rfl
set_option maxHeartbeats 8000000 in
set_option maxRecDepth 100000 in
theorem cidr_Print.calls (k : Nat) (a0_0 : Int) (a0_1 : Int) (r : ByteArray) (w : World) (hG : Hand.Good false true w) (h : cidr_Print.f k a0_0 a0_1 = some r) :
  Calls Tryd.prog 62 #[.agg #[.int .u32 a0_0, .int .i64 a0_1]] w fun e w' => e = .returned (.string r) ∧ Below w.heap.size w w' := by
 have hu42 := Tryd.underlying42;have HB := Aside0.mk (Below.refl w.heap.size w);have hGG := Aside0.mk hG;clear hG
 have H : ((hdr_Addr.f k a0_0).bind fun t251 => (if t251.size + 1 ≤ 9223372036854775807 then ((strconv_Itoa_76.f a0_1).bind fun t252 => (if (t251 ++ (⟨#[47]⟩ : ByteArray)).size + t252.size ≤ 9223372036854775807 then (some ((t251 ++ (⟨#[47]⟩ : ByteArray)) ++ t252)) else (none))) else (none))) = some r := h
 clear h;replace H := Option.bind_eq_some_iff.mp H;obtain ⟨t251, A20, H⟩ := H
 replace H : (if t251.size + 1 ≤ 9223372036854775807 then ((strconv_Itoa_76.f a0_1).bind fun t252 => (if (t251 ++ (⟨#[47]⟩ : ByteArray)).size + t252.size ≤ 9223372036854775807 then (some ((t251 ++ (⟨#[47]⟩ : ByteArray)) ++ t252)) else (none))) else (none)) = some r := H
 have A2 := Aside0.mk A20;clear A20
 by_cases c3 : t251.size + 1 ≤ 9223372036854775807
 ·rw [if_pos c3] at H
  have c3b0 := eq_true c3;have c3b1 : decide (t251.size + 1 ≤ 9223372036854775807) = true := decide_eq_true c3
  try have c3b2 : (9223372036854775807 < t251.size + 1) = False := eq_false (Nat.not_lt.2 c3)
  replace H := Option.bind_eq_some_iff.mp H;obtain ⟨t252, A40, H⟩ := H;replace H : (if (t251 ++ (⟨#[47]⟩ : ByteArray)).size + t252.size ≤ 9223372036854775807 then (some ((t251 ++ (⟨#[47]⟩ : ByteArray)) ++ t252)) else (none)) = some r := H;have A4 := Aside0.mk A40;clear A40
  by_cases c5 : (t251 ++ (⟨#[47]⟩ : ByteArray)).size + t252.size ≤ 9223372036854775807
  ·rw [if_pos c5] at H
   have c5b0 := eq_true c5;have c5b1 : decide ((t251 ++ (⟨#[47]⟩ : ByteArray)).size + t252.size ≤ 9223372036854775807) = true := decide_eq_true c5
   try have c5b2 : (9223372036854775807 < (t251 ++ (⟨#[47]⟩ : ByteArray)).size + t252.size) = False := eq_false (Nat.not_lt.2 c5)
   try have c5b3 := c5b2
   try simp only [ByteArray.size_append, Hand.lit_size, List.length_cons, List.length_nil, Nat.zero_add, Nat.reduceAdd] at c5b3
   obtain rfl := Option.some.inj H;go_enter Tryd.func62, Tryd.ntmps62
   try go_wp2_with (first | ((with_reducible refine gate_dst (N := 1) rfl ?_); refine box_event rfl (N := 1) rfl (cs := #[.int .u32 a0_0, .int .i64 a0_1]) (t := 42) gs ?_; intro gb250 hg w6 hbox hb; have n0_ := Aside0.mk (below_step (bel HB) hb); have n1_ := Aside0.mk (hbox); have n2_ := gew HB hg; have n3_ := gew HB hg; clear HB; have HB := n0_; have BK250 := n1_; have GW250 := n2_; have GE250 := n3_; clear n0_ n1_ n2_ n3_; clear hb hbox hg))
   replace BK250 := Aside0.mk (blk_drew BK250.out);replace HB := Aside0.mk (below_drew1 HB.out)
   refine start_ (n := 9) (S := fun w' => w'.cell? ⟨gb250, 0, none⟩ = some (.int .u32 a0_0) ∧ w'.cell? ⟨gb250, 1, none⟩ = some (.int .i64 a0_1)) (ds := []) #[F,F,F,F,F,F,F,F,F] (by kernel_rfl) rfl rfl ⟨(blk_cell BK250.out 0).trans rfl, (blk_cell BK250.out 1).trans rfl⟩ (fun hHeld => ?_); refine with_tabW cidr_Print.tab1 cidr_Print.bits1 (fun HT_ HW_ => ?_)
   generalize w6.drew = w7 at BK250 HB hHeld ⊢
   refine pu 0 (some 3) #[T,F,F,F,F,F,F,F,F] (any_of HT_.out (by kernel_rfl)) ?_
   refine pu 4 (some 7) #[T,F,F,F,T,F,F,F,F] (any_of HT_.out (by kernel_rfl)) ?_
   refine take_ (i := 1) (N := some 4) (v := ?_) (a' := ?_) #[T,T,F,F,T,F,F,F,F] rfl rfl (take_ofW HT_.out HW_.out (by kernel_rfl)) (fun _ _ _ h => h) (Or.inl ⟨by rfl, ?_⟩) hHeld ?_ ?_
   rotate_left
   ·rintro w' ⟨s0, s1⟩
    go_simp;with_reducible rfl
   rotate_left;·simp only [Act.put, setIfInBounds_toArray, set_cons_zero, set_cons_succ, i64_w, i32_w];rfl
   refine take_ (i := 5) (N := some 8) (v := ?_) (a' := ?_) #[T,T,F,F,T,T,F,F,F] rfl rfl (take_ofW HT_.out HW_.out (by kernel_rfl)) (fun _ _ _ h => h) (Or.inl ⟨by rfl, ?_⟩) hHeld ?_ ?_
   rotate_left
   ·rintro w' ⟨s0, s1⟩
    go_simp;with_reducible rfl
   rotate_left;·simp only [Act.put, setIfInBounds_toArray, set_cons_zero, set_cons_succ, i64_w, i32_w];rfl
   refine one_ (i := 2) (N := some 5) #[T,T,T,F,T,T,F,F,F] rfl rfl (one_of HT_.out (by kernel_rfl)) (by decide) (fun K hK => ?_)
   refine goes_ Tryd.func53 (by kernel_rfl) rfl #[.int .u32 a0_0] (by rfl) rfl rfl aok ?_
   with_reducible refine (hdr_Addr.calls k a0_0 t251 _ (Hand.Good.below false true hGG.out (bel HB) rfl rfl) A2.out).mono ?_
   rintro e w8 ⟨rfl, hb⟩;refine ⟨_, rfl, ?_⟩;replace BK250 := Aside0.mk (bb BK250.out hb)
   replace HB := Aside0.mk (below_step (bel HB) hb)
   (try clear hb);(try clear hb2);(try clear hk);(try clear hi)
   refine hK.out _ _ ⟨(blk_cell BK250.out 0).trans rfl, (blk_cell BK250.out 1).trans rfl⟩ (fun hHeld => ?_)
   clear hK K
   refine nput ?_
   refine pu 3 (some 6) #[T,T,T,T,T,T,F,F,F] (any_of HT_.out (by kernel_rfl)) ?_
   refine one_ (i := 6) (N := some 9) #[T,T,T,T,T,T,T,F,F] rfl rfl (one_of HT_.out (by kernel_rfl)) (by decide) (fun K hK => ?_)
   refine goes_ Tryd.func76 (by kernel_rfl) rfl #[.int .i64 a0_1] (by rfl) rfl rfl aok ?_
   with_reducible refine (strconv_Itoa_76.calls a0_1 t252 _ (Hand.Good.below false true hGG.out (bel HB) rfl rfl) A4.out).mono ?_
   rintro e w9 ⟨rfl, hb⟩;refine ⟨_, rfl, ?_⟩;replace BK250 := Aside0.mk (bb BK250.out hb)
   replace HB := Aside0.mk (below_step (bel HB) hb)
   (try clear hb);(try clear hb2);(try clear hk);(try clear hi)
   refine hK.out _ _ ⟨(blk_cell BK250.out 0).trans rfl, (blk_cell BK250.out 1).trans rfl⟩ (fun hHeld => ?_)
   clear hK K
   refine nput ?_
   refine pu 7 (some 10) #[T,T,T,T,T,T,T,T,F] (any_of HT_.out (by kernel_rfl)) ?_
   refine pu 8 (some 2) #[T,T,T,T,T,T,T,T,T] (any_of HT_.out (by kernel_rfl)) ?_
   refine done_ (done_of HT_.out (by kernel_rfl)) ?_
   try go_wp2
   go_ret
   exact ⟨fin, bel HB⟩
  ·rw [if_neg c5] at H
   exact absurd H (by simp)
 ·rw [if_neg c3] at H
  exact absurd H (by simp)

end Go.Proofs.YtloclimoffhbhaaDoor.PSto

namespace Go.Proofs.YtloclimoffhbhaaDoor.PSto
open Go.RowKit Go.Proofs.YtloclimoffhbhaaDoorW.PrintWords Go.Proofs.YtloclimoffhbhaaDoorW.PrintLast Go.Proofs.YtloclimoffhbhaaDoorW.PrintMore Go.Proofs.YtloclimoffhbhaaDoorW.PrintSq List
attribute [local go_sem] max2_int min2_int max_two min_two max_three min_three max_four min_four   -- for this text's walks alone
set_option linter.unusedVariables false
set_option linter.unusedSimpArgs false

/-! ### cidr_PrintRange: function 59 -/
def cidr_PrintRange.f (a0_0 : Int) (a0_1 : Int) : Option (ByteArray) := (strconv_Itoa_76.f (wrap64 (a0_0))).bind fun t337 => (if t337.size + 1 ≤ 9223372036854775807 then ((strconv_Itoa_76.f (wrap64 (a0_1))).bind fun t338 => (if (t337 ++ (⟨#[45]⟩ : ByteArray)).size + t338.size ≤ 9223372036854775807 then (some ((t337 ++ (⟨#[45]⟩ : ByteArray)) ++ t338)) else (none))) else (none))
def cidr_PrintRange.T1 : Bool × List (List Nat × List Nat) := (true, [([], []), ([0], [0]), ([1], [1]), ([2], [2]), ([3], [3]), ([], []), ([5], [5]), ([6], [6]), ([7, 3], [7]), ([4, 8], [4, 8]), ([9, 8, 0, 1, 2, 3, 4, 5, 6, 7, 8, 9], [9])])
def cidr_PrintRange.B1 : List Nat := [0, 1, 3, 7, 15, 0, 32, 96, 239, 511, 1023]
theorem cidr_PrintRange.tab1 : rtab .any (opsOf Tryd.f59 1) = cidr_PrintRange.T1 := by kernel_rfl
theorem cidr_PrintRange.bits1 : waitsOk cidr_PrintRange.T1.2 cidr_PrintRange.B1 = true := by kernel_rfl
set_option maxHeartbeats 8000000 in
set_option maxRecDepth 100000 in
theorem cidr_PrintRange.calls (a0_0 : Int) (a0_1 : Int) (r : ByteArray) (w : World) (hG : Hand.Good false true w) (h : cidr_PrintRange.f a0_0 a0_1 = some r) :
  Calls Tryd.prog 59 #[.agg #[.int .u16 a0_0, .int .u16 a0_1]] w fun e w' => e = .returned (.string r) ∧ Below w.heap.size w w' := by
 have hu61 := Tryd.underlying61;have HB := Aside0.mk (Below.refl w.heap.size w);have hGG := Aside0.mk hG;clear hG
 have H : ((strconv_Itoa_76.f (wrap64 (a0_0))).bind fun t337 => (if t337.size + 1 ≤ 9223372036854775807 then ((strconv_Itoa_76.f (wrap64 (a0_1))).bind fun t338 => (if (t337 ++ (⟨#[45]⟩ : ByteArray)).size + t338.size ≤ 9223372036854775807 then (some ((t337 ++ (⟨#[45]⟩ : ByteArray)) ++ t338)) else (none))) else (none))) = some r := h
 clear h;replace H := Option.bind_eq_some_iff.mp H;obtain ⟨t337, A20, H⟩ := H
 replace H : (if t337.size + 1 ≤ 9223372036854775807 then ((strconv_Itoa_76.f (wrap64 (a0_1))).bind fun t338 => (if (t337 ++ (⟨#[45]⟩ : ByteArray)).size + t338.size ≤ 9223372036854775807 then (some ((t337 ++ (⟨#[45]⟩ : ByteArray)) ++ t338)) else (none))) else (none)) = some r := H
 have A2 := Aside0.mk A20;clear A20
 by_cases c3 : t337.size + 1 ≤ 9223372036854775807
 ·rw [if_pos c3] at H
  have c3b0 := eq_true c3;have c3b1 : decide (t337.size + 1 ≤ 9223372036854775807) = true := decide_eq_true c3
  try have c3b2 : (9223372036854775807 < t337.size + 1) = False := eq_false (Nat.not_lt.2 c3)
  replace H := Option.bind_eq_some_iff.mp H;obtain ⟨t338, A40, H⟩ := H;replace H : (if (t337 ++ (⟨#[45]⟩ : ByteArray)).size + t338.size ≤ 9223372036854775807 then (some ((t337 ++ (⟨#[45]⟩ : ByteArray)) ++ t338)) else (none)) = some r := H;have A4 := Aside0.mk A40;clear A40
  by_cases c5 : (t337 ++ (⟨#[45]⟩ : ByteArray)).size + t338.size ≤ 9223372036854775807
  ·rw [if_pos c5] at H
   have c5b0 := eq_true c5;have c5b1 : decide ((t337 ++ (⟨#[45]⟩ : ByteArray)).size + t338.size ≤ 9223372036854775807) = true := decide_eq_true c5
   try have c5b2 : (9223372036854775807 < (t337 ++ (⟨#[45]⟩ : ByteArray)).size + t338.size) = False := eq_false (Nat.not_lt.2 c5)
   try have c5b3 := c5b2
   try simp only [ByteArray.size_append, Hand.lit_size, List.length_cons, List.length_nil, Nat.zero_add, Nat.reduceAdd] at c5b3
   obtain rfl := Option.some.inj H;go_enter Tryd.func59, Tryd.ntmps59
   try go_wp2_with (first | ((with_reducible refine gate_dst (N := 1) rfl ?_); refine box_event rfl (N := 1) rfl (cs := #[.int .u16 a0_0, .int .u16 a0_1]) (t := 61) gs ?_; intro gb336 hg w6 hbox hb; have n0_ := Aside0.mk (below_step (bel HB) hb); have n1_ := Aside0.mk (hbox); have n2_ := gew HB hg; have n3_ := gew HB hg; clear HB; have HB := n0_; have BK336 := n1_; have GW336 := n2_; have GE336 := n3_; clear n0_ n1_ n2_ n3_; clear hb hbox hg))
   replace BK336 := Aside0.mk (blk_drew BK336.out);replace HB := Aside0.mk (below_drew1 HB.out)
   refine start_ (n := 11) (S := fun w' => w'.cell? ⟨gb336, 0, none⟩ = some (.int .u16 a0_0) ∧ w'.cell? ⟨gb336, 1, none⟩ = some (.int .u16 a0_1)) (ds := []) #[F,F,F,F,F,F,F,F,F,F,F] (by kernel_rfl) rfl rfl ⟨(blk_cell BK336.out 0).trans rfl, (blk_cell BK336.out 1).trans rfl⟩ (fun hHeld => ?_); refine with_tabW cidr_PrintRange.tab1 cidr_PrintRange.bits1 (fun HT_ HW_ => ?_)
   generalize w6.drew = w7 at BK336 HB hHeld ⊢
   refine pu 0 (some 3) #[T,F,F,F,F,F,F,F,F,F,F] (any_of HT_.out (by kernel_rfl)) ?_
   refine pu 5 (some 8) #[T,F,F,F,F,T,F,F,F,F,F] (any_of HT_.out (by kernel_rfl)) ?_
   refine take_ (i := 1) (N := some 4) (v := ?_) (a' := ?_) #[T,T,F,F,F,T,F,F,F,F,F] rfl rfl (take_ofW HT_.out HW_.out (by kernel_rfl)) (fun _ _ _ h => h) (Or.inl ⟨by rfl, ?_⟩) hHeld ?_ ?_
   rotate_left
   ·rintro w' ⟨s0, s1⟩
    go_simp;with_reducible rfl
   rotate_left;·simp only [Act.put, setIfInBounds_toArray, set_cons_zero, set_cons_succ, i64_w, i32_w];rfl
   refine pu 2 (some 5) #[T,T,T,F,F,T,F,F,F,F,F] (any_of HT_.out (by kernel_rfl)) ?_
   refine take_ (i := 6) (N := some 9) (v := ?_) (a' := ?_) #[T,T,T,F,F,T,T,F,F,F,F] rfl rfl (take_ofW HT_.out HW_.out (by kernel_rfl)) (fun _ _ _ h => h) (Or.inl ⟨by rfl, ?_⟩) hHeld ?_ ?_
   rotate_left
   ·rintro w' ⟨s0, s1⟩
    go_simp;with_reducible rfl
   rotate_left;·simp only [Act.put, setIfInBounds_toArray, set_cons_zero, set_cons_succ, i64_w, i32_w];rfl
   refine pu 7 (some 10) #[T,T,T,F,F,T,T,T,F,F,F] (any_of HT_.out (by kernel_rfl)) ?_
   refine one_ (i := 3) (N := some 6) #[T,T,T,T,F,T,T,T,F,F,F] rfl rfl (one_of HT_.out (by kernel_rfl)) (by decide) (fun K hK => ?_)
   refine goes_ Tryd.func76 (by kernel_rfl) rfl #[.int .i64 (wrap64 (a0_0))] (by rfl) rfl rfl aok ?_
   with_reducible refine (strconv_Itoa_76.calls (wrap64 (a0_0)) t337 _ (Hand.Good.below false true hGG.out (bel HB) rfl rfl) A2.out).mono ?_
   rintro e w8 ⟨rfl, hb⟩;refine ⟨_, rfl, ?_⟩;replace BK336 := Aside0.mk (bb BK336.out hb)
   replace HB := Aside0.mk (below_step (bel HB) hb)
   (try clear hb);(try clear hb2);(try clear hk);(try clear hi)
   refine hK.out _ _ ⟨(blk_cell BK336.out 0).trans rfl, (blk_cell BK336.out 1).trans rfl⟩ (fun hHeld => ?_)
   clear hK K
   refine nput ?_
   refine pu 4 (some 7) #[T,T,T,T,T,T,T,T,F,F,F] (any_of HT_.out (by kernel_rfl)) ?_
   refine one_ (i := 8) (N := some 11) #[T,T,T,T,T,T,T,T,T,F,F] rfl rfl (one_of HT_.out (by kernel_rfl)) (by decide) (fun K hK => ?_)
   refine goes_ Tryd.func76 (by kernel_rfl) rfl #[.int .i64 (wrap64 (a0_1))] (by rfl) rfl rfl aok ?_
   with_reducible refine (strconv_Itoa_76.calls (wrap64 (a0_1)) t338 _ (Hand.Good.below false true hGG.out (bel HB) rfl rfl) A4.out).mono ?_
   rintro e w9 ⟨rfl, hb⟩;refine ⟨_, rfl, ?_⟩;replace BK336 := Aside0.mk (bb BK336.out hb)
   replace HB := Aside0.mk (below_step (bel HB) hb)
   (try clear hb);(try clear hb2);(try clear hk);(try clear hi)
   refine hK.out _ _ ⟨(blk_cell BK336.out 0).trans rfl, (blk_cell BK336.out 1).trans rfl⟩ (fun hHeld => ?_)
   clear hK K
   refine nput ?_
   refine pu 9 (some 12) #[T,T,T,T,T,T,T,T,T,T,F] (any_of HT_.out (by kernel_rfl)) ?_
   refine pu 10 (some 2) #[T,T,T,T,T,T,T,T,T,T,T] (any_of HT_.out (by kernel_rfl)) ?_
   refine done_ (done_of HT_.out (by kernel_rfl)) ?_
   try go_wp2
   go_ret
   exact ⟨fin, bel HB⟩
  ·rw [if_neg c5] at H
   exact absurd H (by simp)
 ·rw [if_neg c3] at H
  exact absurd H (by simp)

end Go.Proofs.YtloclimoffhbhaaDoor.PSto
