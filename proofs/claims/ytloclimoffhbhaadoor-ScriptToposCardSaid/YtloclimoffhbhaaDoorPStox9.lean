-- Written by wip/myprint.py and wip/merge.py (this session's own programs); Lean checks it.
-- halved
import Derived.Test.YtloclimoffhbhaaDoorSq6
import Derived.Test.YtloclimoffhbhaaDoorPStox0
import Derived.Test.YtloclimoffhbhaaDoorPStox6
import Derived.Test.YtloclimoffhbhaaDoorPStox7
import Derived.Test.YtloclimoffhbhaaDoorPStox8
namespace Go.Proofs.YtloclimoffhbhaaDoor.PSto
open Go.RowKit Go.Proofs.YtloclimoffhbhaaDoorW.PrintWords Go.Proofs.YtloclimoffhbhaaDoorW.PrintLast Go.Proofs.YtloclimoffhbhaaDoorW.PrintMore Go.Proofs.YtloclimoffhbhaaDoorW.PrintSq List
attribute [local go_sem] max2_int min2_int max_two min_two max_three min_three max_four min_four   -- for this text's walks alone
set_option linter.unusedVariables false
set_option linter.unusedSimpArgs false

/-! ### crossbuckref04_Print: function 67 -/
def crossbuckref04_Print.j0 : Nat → ByteArray → Int → Int → Int → Int → Int → Int → Int → Int → Int → Option (ByteArray)
 | 0, _, _, _, _, _, _, _, _, _, _ => none
 | k + 1, x3, x353000, x353001, x353002, x353003, x353004, x353005, x353006, x353007, x353008 => (crossbuckref03_Print.f k x353000 x353001).bind fun t354 => (if t354.size + 1 ≤ 9223372036854775807 then ((crossbuckref03_Print.f k x353002 x353003).bind fun t355 => (if (t354 ++ (⟨#[32]⟩ : ByteArray)).size + t355.size ≤ 9223372036854775807 then (if ((t354 ++ (⟨#[32]⟩ : ByteArray)) ++ t355).size + 1 ≤ 9223372036854775807 then (if (((t354 ++ (⟨#[32]⟩ : ByteArray)) ++ t355) ++ (⟨#[32]⟩ : ByteArray)).size + x3.size ≤ 9223372036854775807 then (if ((((t354 ++ (⟨#[32]⟩ : ByteArray)) ++ t355) ++ (⟨#[32]⟩ : ByteArray)) ++ x3).size + 1 ≤ 9223372036854775807 then ((crossbuckref03_PrintRange.f k x353005 x353006).bind fun t356 => (if (((((t354 ++ (⟨#[32]⟩ : ByteArray)) ++ t355) ++ (⟨#[32]⟩ : ByteArray)) ++ x3) ++ (⟨#[32]⟩ : ByteArray)).size + t356.size ≤ 9223372036854775807 then (if ((((((t354 ++ (⟨#[32]⟩ : ByteArray)) ++ t355) ++ (⟨#[32]⟩ : ByteArray)) ++ x3) ++ (⟨#[32]⟩ : ByteArray)) ++ t356).size + 1 ≤ 9223372036854775807 then ((crossbuckref03_PrintRange.f k x353007 x353008).bind fun t357 => (if (((((((t354 ++ (⟨#[32]⟩ : ByteArray)) ++ t355) ++ (⟨#[32]⟩ : ByteArray)) ++ x3) ++ (⟨#[32]⟩ : ByteArray)) ++ t356) ++ (⟨#[32]⟩ : ByteArray)).size + t357.size ≤ 9223372036854775807 then (some ((((((((t354 ++ (⟨#[32]⟩ : ByteArray)) ++ t355) ++ (⟨#[32]⟩ : ByteArray)) ++ x3) ++ (⟨#[32]⟩ : ByteArray)) ++ t356) ++ (⟨#[32]⟩ : ByteArray)) ++ t357)) else (none))) else (none)) else (none))) else (none)) else (none)) else (none)) else (none))) else (none))
def crossbuckref04_Print.f (k : Nat) (a0_0 : Int) (a0_1 : Int) (a0_2 : Int) (a0_3 : Int) (a0_4 : Int) (a0_5 : Int) (a0_6 : Int) (a0_7 : Int) (a0_8 : Int) : Option (ByteArray) := if a0_4 ≥ 0 then ((crossbuckref02_Digits.f k a0_4).bind fun t353 => (crossbuckref04_Print.j0 k t353 a0_0 a0_1 a0_2 a0_3 a0_4 a0_5 a0_6 a0_7 a0_8)) else (crossbuckref04_Print.j0 k (⟨#[97, 110, 121]⟩ : ByteArray) a0_0 a0_1 a0_2 a0_3 a0_4 a0_5 a0_6 a0_7 a0_8)
def crossbuckref04_Print.T4 : Bool × List (List Nat × List Nat) := (true, [([], []), ([0], [0]), ([1], [1]), ([2], [2]), ([], []), ([4], [4]), ([5, 2], [5]), ([3, 6], [3, 6]), ([7], [7]), ([], []), ([8, 9], [8, 9]), ([10], [10]), ([], []), ([12], [12]), ([13, 6], [13]), ([11, 14], [11, 14]), ([15], [15]), ([], []), ([17], [17]), ([18, 14], [18]), ([16, 19], [16, 19]), ([20, 19, 0, 1, 2, 3, 4, 5, 6, 7, 8, 9, 10, 11, 12, 13, 14, 15, 16, 17, 18, 19, 20], [20])])
def crossbuckref04_Print.B4 : List Nat := [0, 1, 3, 7, 0, 16, 55, 127, 255, 0, 1023, 2047, 0, 4096, 12407, 32767, 65535, 0, 131072, 422007, 1048575, 2097151]
theorem crossbuckref04_Print.tab4 : rtab .any (opsOf Tryd.f67 4) = crossbuckref04_Print.T4 := by kernel_rfl
theorem crossbuckref04_Print.bits4 : waitsOk crossbuckref04_Print.T4.2 crossbuckref04_Print.B4 = true := by kernel_rfl
set_option maxHeartbeats 8000000 in
set_option maxRecDepth 100000 in
theorem crossbuckref04_Print.calls (k : Nat) (a0_0 : Int) (a0_1 : Int) (a0_2 : Int) (a0_3 : Int) (a0_4 : Int) (a0_5 : Int) (a0_6 : Int) (a0_7 : Int) (a0_8 : Int) (r : ByteArray) (w : World) (h : crossbuckref04_Print.f k a0_0 a0_1 a0_2 a0_3 a0_4 a0_5 a0_6 a0_7 a0_8 = some r) :
  Calls Tryd.prog 67 #[.agg #[.int .u32 a0_0, .int .i64 a0_1, .int .u32 a0_2, .int .i64 a0_3, .int .i64 a0_4, .int .u16 a0_5, .int .u16 a0_6, .int .u16 a0_7, .int .u16 a0_8]] w fun e w' => e = .returned (.string r) ∧ Below w.heap.size w w' := by
 have hu77 := Tryd.underlying77;have hu42 := Tryd.underlying42;have hu61 := Tryd.underlying61;have HB := Aside0.mk (Below.refl w.heap.size w)
 have H : (if a0_4 ≥ 0 then ((crossbuckref02_Digits.f k a0_4).bind fun t353 => (crossbuckref04_Print.j0 k t353 a0_0 a0_1 a0_2 a0_3 a0_4 a0_5 a0_6 a0_7 a0_8)) else (crossbuckref04_Print.j0 k (⟨#[97, 110, 121]⟩ : ByteArray) a0_0 a0_1 a0_2 a0_3 a0_4 a0_5 a0_6 a0_7 a0_8)) = some r := h
 clear h;have HC2 := Aside0.mk H;clear H;go_enter Tryd.func67, Tryd.ntmps67
 go_upto_if 6 with (first | ((with_reducible refine gate_dst (N := 1) rfl ?_); refine box_event rfl (N := 1) rfl (cs := #[.int .u32 a0_0, .int .i64 a0_1, .int .u32 a0_2, .int .i64 a0_3, .int .i64 a0_4, .int .u16 a0_5, .int .u16 a0_6, .int .u16 a0_7, .int .u16 a0_8]) (t := 77) gs ?_; intro gb352 hg w3 hbox hb; have n0_ := Aside0.mk (below_step (bel HB) hb); have n1_ := Aside0.mk (hbox); have n2_ := gew HB hg; have n3_ := gew HB hg; clear HB; have HB := n0_; have BK352 := n1_; have GW352 := n2_; have GE352 := n3_; clear n0_ n1_ n2_ n3_; clear hb hbox hg; have hcz4 := cz9 BK352.out))
 (try simp only [Act.put, setIfInBounds_toArray, set_cons_zero, set_cons_succ])
 go_cut [3] (fun v3 wc => ∃ (kq : Nat) (x3_1 : ByteArray), v3 = .string x3_1 ∧ Aside0 (crossbuckref04_Print.j0 kq x3_1 a0_0 a0_1 a0_2 a0_3 a0_4 a0_5 a0_6 a0_7 a0_8 = some r) ∧ Aside0 (kq ≤ k) ∧ Aside0 (wc.heap[gb352]? = some (.cells #[.int .u32 a0_0, .int .i64 a0_1, .int .u32 a0_2, .int .i64 a0_3, .int .i64 a0_4, .int .u16 a0_5, .int .u16 a0_6, .int .u16 a0_7, .int .u16 a0_8] 77 (0, 0))) ∧ Aside0 (Below w.heap.size w wc))
 case first =>
  have H := HC2.out;clear HC2
  by_cases c5 : a0_4 ≥ 0
  ·rw [if_pos c5] at H
   have c5b0 : decide (0 ≤ a0_4) = true := decide_eq_true c5;clear c5;(first | rw [c5b0] | (simp only [i64_w, i32_w]; rw [c5b0]) | skip);replace H := Option.bind_eq_some_iff.mp H;obtain ⟨t353, A60, H⟩ := H;replace H : (crossbuckref04_Print.j0 k t353 a0_0 a0_1 a0_2 a0_3 a0_4 a0_5 a0_6 a0_7 a0_8) = some r := H;have A6 := Aside0.mk A60;clear A60;have H' := Aside0.mk H;clear H;have hcz7 := cz9 BK352.out
   go_wp2_with (first | ((with_reducible refine gate_callee (f := 99) rfl ?_); refine goesL_ (some 9) rfl rfl Tryd.func99 (by kernel_rfl) rfl #[.int .i64 a0_4] rfl aok ?_; (with_reducible refine (crossbuckref02_Digits.calls k a0_4 t353 _ A6.out).mono ?_); rintro e w8 ⟨rfl, hb⟩; refine ⟨_, rfl, ?_⟩; have n0_ := Aside0.mk (bb BK352.out hb); have n1_ := Aside0.mk (below_step (bel HB) hb); clear BK352; clear HB; have BK352 := n0_; have HB := n1_; clear n0_ n1_; (try clear hb); (try clear hb2); (try clear hk); (try clear hi)))
   go_meet
   case rel => exact ⟨_, (t353), (by first | rfl | (simp; done) | (simp [*]; done)), H', ⟨by first | omega | exact Nat.le_refl _⟩, ⟨bkp⟩, ⟨by repeat (first | (with_reducible first | exact HB.out | apply below_alloc | apply pw_below_drewN | apply below_drew1 | refine below_set ?_ GE352.out) | exact HB.out)⟩⟩
  ·rw [if_neg c5] at H
   have c5b0 : decide (0 ≤ a0_4) = false := decide_eq_false c5;clear c5;(first | rw [c5b0] | (simp only [i64_w, i32_w]; rw [c5b0]) | skip);have H' := Aside0.mk H;clear H;go_wp2;go_meet
   case rel => exact ⟨_, ((⟨#[97, 110, 121]⟩ : ByteArray)), (by first | rfl | (simp; done) | (simp [*]; done)), H', ⟨by first | omega | exact Nat.le_refl _⟩, ⟨bkp⟩, ⟨by repeat (first | (with_reducible first | exact HB.out | apply below_alloc | apply pw_below_drewN | apply below_drew1 | refine below_set ?_ GE352.out) | exact HB.out)⟩⟩
 case rest =>
  clear HC2
  try clear p2
  try clear c5
  try clear c5b0
  try clear c6
  try clear hcz4
  try clear hcz7
  obtain ⟨kq, x3_1, rfl, HA, HJ1, BK352, HB⟩ := hcut
  cases kq with
  | zero => exact absurd HA.out (by simp [crossbuckref04_Print.j0])
  | succ kj1 =>
   have H := HA.out;clear HA;simp only [crossbuckref04_Print.j0] at H;replace H := Option.bind_eq_some_iff.mp H;obtain ⟨t354, A90, H⟩ := H
   replace H : (if t354.size + 1 ≤ 9223372036854775807 then ((crossbuckref03_Print.f kj1 a0_2 a0_3).bind fun t355 => (if (t354 ++ (⟨#[32]⟩ : ByteArray)).size + t355.size ≤ 9223372036854775807 then (if ((t354 ++ (⟨#[32]⟩ : ByteArray)) ++ t355).size + 1 ≤ 9223372036854775807 then (if (((t354 ++ (⟨#[32]⟩ : ByteArray)) ++ t355) ++ (⟨#[32]⟩ : ByteArray)).size + x3_1.size ≤ 9223372036854775807 then (if ((((t354 ++ (⟨#[32]⟩ : ByteArray)) ++ t355) ++ (⟨#[32]⟩ : ByteArray)) ++ x3_1).size + 1 ≤ 9223372036854775807 then ((crossbuckref03_PrintRange.f kj1 a0_5 a0_6).bind fun t356 => (if (((((t354 ++ (⟨#[32]⟩ : ByteArray)) ++ t355) ++ (⟨#[32]⟩ : ByteArray)) ++ x3_1) ++ (⟨#[32]⟩ : ByteArray)).size + t356.size ≤ 9223372036854775807 then (if ((((((t354 ++ (⟨#[32]⟩ : ByteArray)) ++ t355) ++ (⟨#[32]⟩ : ByteArray)) ++ x3_1) ++ (⟨#[32]⟩ : ByteArray)) ++ t356).size + 1 ≤ 9223372036854775807 then ((crossbuckref03_PrintRange.f kj1 a0_7 a0_8).bind fun t357 => (if (((((((t354 ++ (⟨#[32]⟩ : ByteArray)) ++ t355) ++ (⟨#[32]⟩ : ByteArray)) ++ x3_1) ++ (⟨#[32]⟩ : ByteArray)) ++ t356) ++ (⟨#[32]⟩ : ByteArray)).size + t357.size ≤ 9223372036854775807 then (some ((((((((t354 ++ (⟨#[32]⟩ : ByteArray)) ++ t355) ++ (⟨#[32]⟩ : ByteArray)) ++ x3_1) ++ (⟨#[32]⟩ : ByteArray)) ++ t356) ++ (⟨#[32]⟩ : ByteArray)) ++ t357)) else (none))) else (none)) else (none))) else (none)) else (none)) else (none)) else (none))) else (none)) = some r := H
   have A9 := Aside0.mk A90;clear A90
   by_cases c10 : t354.size + 1 ≤ 9223372036854775807
   ·rw [if_pos c10] at H
    have c10b0 := eq_true c10;have c10b1 : decide (t354.size + 1 ≤ 9223372036854775807) = true := decide_eq_true c10
    try have c10b2 : (9223372036854775807 < t354.size + 1) = False := eq_false (Nat.not_lt.2 c10)
    replace H := Option.bind_eq_some_iff.mp H;obtain ⟨t355, A110, H⟩ := H
    replace H : (if (t354 ++ (⟨#[32]⟩ : ByteArray)).size + t355.size ≤ 9223372036854775807 then (if ((t354 ++ (⟨#[32]⟩ : ByteArray)) ++ t355).size + 1 ≤ 9223372036854775807 then (if (((t354 ++ (⟨#[32]⟩ : ByteArray)) ++ t355) ++ (⟨#[32]⟩ : ByteArray)).size + x3_1.size ≤ 9223372036854775807 then (if ((((t354 ++ (⟨#[32]⟩ : ByteArray)) ++ t355) ++ (⟨#[32]⟩ : ByteArray)) ++ x3_1).size + 1 ≤ 9223372036854775807 then ((crossbuckref03_PrintRange.f kj1 a0_5 a0_6).bind fun t356 => (if (((((t354 ++ (⟨#[32]⟩ : ByteArray)) ++ t355) ++ (⟨#[32]⟩ : ByteArray)) ++ x3_1) ++ (⟨#[32]⟩ : ByteArray)).size + t356.size ≤ 9223372036854775807 then (if ((((((t354 ++ (⟨#[32]⟩ : ByteArray)) ++ t355) ++ (⟨#[32]⟩ : ByteArray)) ++ x3_1) ++ (⟨#[32]⟩ : ByteArray)) ++ t356).size + 1 ≤ 9223372036854775807 then ((crossbuckref03_PrintRange.f kj1 a0_7 a0_8).bind fun t357 => (if (((((((t354 ++ (⟨#[32]⟩ : ByteArray)) ++ t355) ++ (⟨#[32]⟩ : ByteArray)) ++ x3_1) ++ (⟨#[32]⟩ : ByteArray)) ++ t356) ++ (⟨#[32]⟩ : ByteArray)).size + t357.size ≤ 9223372036854775807 then (some ((((((((t354 ++ (⟨#[32]⟩ : ByteArray)) ++ t355) ++ (⟨#[32]⟩ : ByteArray)) ++ x3_1) ++ (⟨#[32]⟩ : ByteArray)) ++ t356) ++ (⟨#[32]⟩ : ByteArray)) ++ t357)) else (none))) else (none)) else (none))) else (none)) else (none)) else (none)) else (none)) = some r := H
    have A11 := Aside0.mk A110;clear A110
    by_cases c12 : (t354 ++ (⟨#[32]⟩ : ByteArray)).size + t355.size ≤ 9223372036854775807
    ·rw [if_pos c12] at H
     have c12b0 := eq_true c12;have c12b1 : decide ((t354 ++ (⟨#[32]⟩ : ByteArray)).size + t355.size ≤ 9223372036854775807) = true := decide_eq_true c12
     try have c12b2 : (9223372036854775807 < (t354 ++ (⟨#[32]⟩ : ByteArray)).size + t355.size) = False := eq_false (Nat.not_lt.2 c12)
     try have c12b3 := c12b2
     try simp only [ByteArray.size_append, Hand.lit_size, List.length_cons, List.length_nil, Nat.zero_add, Nat.reduceAdd] at c12b3
     by_cases c13 : ((t354 ++ (⟨#[32]⟩ : ByteArray)) ++ t355).size + 1 ≤ 9223372036854775807
     ·rw [if_pos c13] at H
      have c13b0 := eq_true c13;have c13b1 : decide (((t354 ++ (⟨#[32]⟩ : ByteArray)) ++ t355).size + 1 ≤ 9223372036854775807) = true := decide_eq_true c13
      try have c13b2 : (9223372036854775807 < ((t354 ++ (⟨#[32]⟩ : ByteArray)) ++ t355).size + 1) = False := eq_false (Nat.not_lt.2 c13)
      try have c13b3 := c13b2
      try simp only [ByteArray.size_append, Hand.lit_size, List.length_cons, List.length_nil, Nat.zero_add, Nat.reduceAdd] at c13b3
      by_cases c14 : (((t354 ++ (⟨#[32]⟩ : ByteArray)) ++ t355) ++ (⟨#[32]⟩ : ByteArray)).size + x3_1.size ≤ 9223372036854775807
      ·rw [if_pos c14] at H
       have c14b0 := eq_true c14;have c14b1 : decide ((((t354 ++ (⟨#[32]⟩ : ByteArray)) ++ t355) ++ (⟨#[32]⟩ : ByteArray)).size + x3_1.size ≤ 9223372036854775807) = true := decide_eq_true c14
       try have c14b2 : (9223372036854775807 < (((t354 ++ (⟨#[32]⟩ : ByteArray)) ++ t355) ++ (⟨#[32]⟩ : ByteArray)).size + x3_1.size) = False := eq_false (Nat.not_lt.2 c14)
       try have c14b3 := c14b2
       try simp only [ByteArray.size_append, Hand.lit_size, List.length_cons, List.length_nil, Nat.zero_add, Nat.reduceAdd] at c14b3
       by_cases c15 : ((((t354 ++ (⟨#[32]⟩ : ByteArray)) ++ t355) ++ (⟨#[32]⟩ : ByteArray)) ++ x3_1).size + 1 ≤ 9223372036854775807
       ·rw [if_pos c15] at H
        have c15b0 := eq_true c15;have c15b1 : decide (((((t354 ++ (⟨#[32]⟩ : ByteArray)) ++ t355) ++ (⟨#[32]⟩ : ByteArray)) ++ x3_1).size + 1 ≤ 9223372036854775807) = true := decide_eq_true c15
        try have c15b2 : (9223372036854775807 < ((((t354 ++ (⟨#[32]⟩ : ByteArray)) ++ t355) ++ (⟨#[32]⟩ : ByteArray)) ++ x3_1).size + 1) = False := eq_false (Nat.not_lt.2 c15)
        try have c15b3 := c15b2
        try simp only [ByteArray.size_append, Hand.lit_size, List.length_cons, List.length_nil, Nat.zero_add, Nat.reduceAdd] at c15b3
        replace H := Option.bind_eq_some_iff.mp H;obtain ⟨t356, A160, H⟩ := H
        replace H : (if (((((t354 ++ (⟨#[32]⟩ : ByteArray)) ++ t355) ++ (⟨#[32]⟩ : ByteArray)) ++ x3_1) ++ (⟨#[32]⟩ : ByteArray)).size + t356.size ≤ 9223372036854775807 then (if ((((((t354 ++ (⟨#[32]⟩ : ByteArray)) ++ t355) ++ (⟨#[32]⟩ : ByteArray)) ++ x3_1) ++ (⟨#[32]⟩ : ByteArray)) ++ t356).size + 1 ≤ 9223372036854775807 then ((crossbuckref03_PrintRange.f kj1 a0_7 a0_8).bind fun t357 => (if (((((((t354 ++ (⟨#[32]⟩ : ByteArray)) ++ t355) ++ (⟨#[32]⟩ : ByteArray)) ++ x3_1) ++ (⟨#[32]⟩ : ByteArray)) ++ t356) ++ (⟨#[32]⟩ : ByteArray)).size + t357.size ≤ 9223372036854775807 then (some ((((((((t354 ++ (⟨#[32]⟩ : ByteArray)) ++ t355) ++ (⟨#[32]⟩ : ByteArray)) ++ x3_1) ++ (⟨#[32]⟩ : ByteArray)) ++ t356) ++ (⟨#[32]⟩ : ByteArray)) ++ t357)) else (none))) else (none)) else (none)) = some r := H
        have A16 := Aside0.mk A160;clear A160
        by_cases c17 : (((((t354 ++ (⟨#[32]⟩ : ByteArray)) ++ t355) ++ (⟨#[32]⟩ : ByteArray)) ++ x3_1) ++ (⟨#[32]⟩ : ByteArray)).size + t356.size ≤ 9223372036854775807
        ·rw [if_pos c17] at H
         have c17b0 := eq_true c17;have c17b1 : decide ((((((t354 ++ (⟨#[32]⟩ : ByteArray)) ++ t355) ++ (⟨#[32]⟩ : ByteArray)) ++ x3_1) ++ (⟨#[32]⟩ : ByteArray)).size + t356.size ≤ 9223372036854775807) = true := decide_eq_true c17
         try have c17b2 : (9223372036854775807 < (((((t354 ++ (⟨#[32]⟩ : ByteArray)) ++ t355) ++ (⟨#[32]⟩ : ByteArray)) ++ x3_1) ++ (⟨#[32]⟩ : ByteArray)).size + t356.size) = False := eq_false (Nat.not_lt.2 c17)
         try have c17b3 := c17b2
         try simp only [ByteArray.size_append, Hand.lit_size, List.length_cons, List.length_nil, Nat.zero_add, Nat.reduceAdd] at c17b3
         by_cases c18 : ((((((t354 ++ (⟨#[32]⟩ : ByteArray)) ++ t355) ++ (⟨#[32]⟩ : ByteArray)) ++ x3_1) ++ (⟨#[32]⟩ : ByteArray)) ++ t356).size + 1 ≤ 9223372036854775807
         ·rw [if_pos c18] at H
          have c18b0 := eq_true c18;have c18b1 : decide (((((((t354 ++ (⟨#[32]⟩ : ByteArray)) ++ t355) ++ (⟨#[32]⟩ : ByteArray)) ++ x3_1) ++ (⟨#[32]⟩ : ByteArray)) ++ t356).size + 1 ≤ 9223372036854775807) = true := decide_eq_true c18
          try have c18b2 : (9223372036854775807 < ((((((t354 ++ (⟨#[32]⟩ : ByteArray)) ++ t355) ++ (⟨#[32]⟩ : ByteArray)) ++ x3_1) ++ (⟨#[32]⟩ : ByteArray)) ++ t356).size + 1) = False := eq_false (Nat.not_lt.2 c18)
          try have c18b3 := c18b2
          try simp only [ByteArray.size_append, Hand.lit_size, List.length_cons, List.length_nil, Nat.zero_add, Nat.reduceAdd] at c18b3
          replace H := Option.bind_eq_some_iff.mp H;obtain ⟨t357, A190, H⟩ := H;replace H : (if (((((((t354 ++ (⟨#[32]⟩ : ByteArray)) ++ t355) ++ (⟨#[32]⟩ : ByteArray)) ++ x3_1) ++ (⟨#[32]⟩ : ByteArray)) ++ t356) ++ (⟨#[32]⟩ : ByteArray)).size + t357.size ≤ 9223372036854775807 then (some ((((((((t354 ++ (⟨#[32]⟩ : ByteArray)) ++ t355) ++ (⟨#[32]⟩ : ByteArray)) ++ x3_1) ++ (⟨#[32]⟩ : ByteArray)) ++ t356) ++ (⟨#[32]⟩ : ByteArray)) ++ t357)) else (none)) = some r := H;have A19 := Aside0.mk A190;clear A190
          by_cases c20 : (((((((t354 ++ (⟨#[32]⟩ : ByteArray)) ++ t355) ++ (⟨#[32]⟩ : ByteArray)) ++ x3_1) ++ (⟨#[32]⟩ : ByteArray)) ++ t356) ++ (⟨#[32]⟩ : ByteArray)).size + t357.size ≤ 9223372036854775807
          ·rw [if_pos c20] at H
           have c20b0 := eq_true c20;have c20b1 : decide ((((((((t354 ++ (⟨#[32]⟩ : ByteArray)) ++ t355) ++ (⟨#[32]⟩ : ByteArray)) ++ x3_1) ++ (⟨#[32]⟩ : ByteArray)) ++ t356) ++ (⟨#[32]⟩ : ByteArray)).size + t357.size ≤ 9223372036854775807) = true := decide_eq_true c20
           try have c20b2 : (9223372036854775807 < (((((((t354 ++ (⟨#[32]⟩ : ByteArray)) ++ t355) ++ (⟨#[32]⟩ : ByteArray)) ++ x3_1) ++ (⟨#[32]⟩ : ByteArray)) ++ t356) ++ (⟨#[32]⟩ : ByteArray)).size + t357.size) = False := eq_false (Nat.not_lt.2 c20)
           try have c20b3 := c20b2
           try simp only [ByteArray.size_append, Hand.lit_size, List.length_cons, List.length_nil, Nat.zero_add, Nat.reduceAdd] at c20b3
           obtain rfl := Option.some.inj H
           try go_wp2
           replace BK352 := Aside0.mk (blk_drew BK352.out);replace HB := Aside0.mk (below_drew1 HB.out)
           refine start_ (n := 22) (S := fun w' => w'.cell? ⟨gb352, 0, none⟩ = some (.int .u32 a0_0) ∧ w'.cell? ⟨gb352, 1, none⟩ = some (.int .i64 a0_1) ∧ w'.cell? ⟨gb352, 2, none⟩ = some (.int .u32 a0_2) ∧ w'.cell? ⟨gb352, 3, none⟩ = some (.int .i64 a0_3) ∧ w'.cell? ⟨gb352, 4, none⟩ = some (.int .i64 a0_4) ∧ w'.cell? ⟨gb352, 5, none⟩ = some (.int .u16 a0_5) ∧ w'.cell? ⟨gb352, 6, none⟩ = some (.int .u16 a0_6) ∧ w'.cell? ⟨gb352, 7, none⟩ = some (.int .u16 a0_7) ∧ w'.cell? ⟨gb352, 8, none⟩ = some (.int .u16 a0_8)) (ds := []) #[F,F,F,F,F,F,F,F,F,F,F,F,F,F,F,F,F,F,F,F,F,F] (by kernel_rfl) rfl rfl ⟨(blk_cell BK352.out 0).trans rfl, (blk_cell BK352.out 1).trans rfl, (blk_cell BK352.out 2).trans rfl, (blk_cell BK352.out 3).trans rfl, (blk_cell BK352.out 4).trans rfl, (blk_cell BK352.out 5).trans rfl, (blk_cell BK352.out 6).trans rfl, (blk_cell BK352.out 7).trans rfl, (blk_cell BK352.out 8).trans rfl⟩ (fun hHeld => ?_); refine with_tabW crossbuckref04_Print.tab4 crossbuckref04_Print.bits4 (fun HT_ HW_ => ?_)
           generalize wc.drew = w21 at BK352 HB hHeld ⊢
           refine pu 0 (some 10) #[T,F,F,F,F,F,F,F,F,F,F,F,F,F,F,F,F,F,F,F,F,F] (any_of HT_.out (by kernel_rfl)) ?_
           refine pu 4 (some 14) #[T,F,F,F,T,F,F,F,F,F,F,F,F,F,F,F,F,F,F,F,F,F] (any_of HT_.out (by kernel_rfl)) ?_
           refine pu 9 (some 19) #[T,F,F,F,T,F,F,F,F,T,F,F,F,F,F,F,F,F,F,F,F,F] (any_of HT_.out (by kernel_rfl)) ?_
           refine pu 12 (some 22) #[T,F,F,F,T,F,F,F,F,T,F,F,T,F,F,F,F,F,F,F,F,F] (any_of HT_.out (by kernel_rfl)) ?_
           refine pu 17 (some 27) #[T,F,F,F,T,F,F,F,F,T,F,F,T,F,F,F,F,T,F,F,F,F] (any_of HT_.out (by kernel_rfl)) ?_
           refine take_ (i := 1) (N := some 11) (v := ?_) (a' := ?_) #[T,T,F,F,T,F,F,F,F,T,F,F,T,F,F,F,F,T,F,F,F,F] rfl rfl (take_ofW HT_.out HW_.out (by kernel_rfl)) (fun _ _ _ h => h) (Or.inl ⟨by rfl, ?_⟩) hHeld ?_ ?_
           rotate_left
           ·rintro w' ⟨s0, s1, s2, s3, s4, s5, s6, s7, s8⟩
            go_simp;with_reducible rfl
           rotate_left;·simp only [Act.put, setIfInBounds_toArray, set_cons_zero, set_cons_succ, i64_w, i32_w];rfl
           refine take_ (i := 5) (N := some 15) (v := ?_) (a' := ?_) #[T,T,F,F,T,T,F,F,F,T,F,F,T,F,F,F,F,T,F,F,F,F] rfl rfl (take_ofW HT_.out HW_.out (by kernel_rfl)) (fun _ _ _ h => h) (Or.inl ⟨by rfl, ?_⟩) hHeld ?_ ?_
           rotate_left
           ·rintro w' ⟨s0, s1, s2, s3, s4, s5, s6, s7, s8⟩
            go_simp;with_reducible rfl
           rotate_left;·simp only [Act.put, setIfInBounds_toArray, set_cons_zero, set_cons_succ, i64_w, i32_w];rfl
           refine take_ (i := 13) (N := some 23) (v := ?_) (a' := ?_) #[T,T,F,F,T,T,F,F,F,T,F,F,T,T,F,F,F,T,F,F,F,F] rfl rfl (take_ofW HT_.out HW_.out (by kernel_rfl)) (fun _ _ _ h => h) (Or.inl ⟨by rfl, ?_⟩) hHeld ?_ ?_
           rotate_left
           ·rintro w' ⟨s0, s1, s2, s3, s4, s5, s6, s7, s8⟩
            go_simp;with_reducible rfl
           rotate_left;·simp only [Act.put, setIfInBounds_toArray, set_cons_zero, set_cons_succ, i64_w, i32_w];rfl
           refine take_ (i := 18) (N := some 28) (v := ?_) (a' := ?_) #[T,T,F,F,T,T,F,F,F,T,F,F,T,T,F,F,F,T,T,F,F,F] rfl rfl (take_ofW HT_.out HW_.out (by kernel_rfl)) (fun _ _ _ h => h) (Or.inl ⟨by rfl, ?_⟩) hHeld ?_ ?_
           rotate_left
           ·rintro w' ⟨s0, s1, s2, s3, s4, s5, s6, s7, s8⟩
            go_simp;with_reducible rfl
           rotate_left;·simp only [Act.put, setIfInBounds_toArray, set_cons_zero, set_cons_succ, i64_w, i32_w];rfl
           refine one_ (i := 2) (N := some 12) #[T,T,T,F,T,T,F,F,F,T,F,F,T,T,F,F,F,T,T,F,F,F] rfl rfl (one_of HT_.out (by kernel_rfl)) (by decide) (fun K hK => ?_)
           refine goes_ Tryd.func63 (by kernel_rfl) rfl #[.agg #[.int .u32 a0_0, .int .i64 a0_1]] (by rfl) rfl rfl aok ?_
           with_reducible refine (crossbuckref03_Print.calls kj1 a0_0 a0_1 t354 _ A9.out).mono ?_;rintro e w22 ⟨rfl, hb⟩;refine ⟨_, rfl, ?_⟩;replace BK352 := Aside0.mk (bb BK352.out hb)
           replace HB := Aside0.mk (below_step (bel HB) hb)
           (try clear hb);(try clear hb2);(try clear hk);(try clear hi)
           refine hK.out _ _ ⟨(blk_cell BK352.out 0).trans rfl, (blk_cell BK352.out 1).trans rfl, (blk_cell BK352.out 2).trans rfl, (blk_cell BK352.out 3).trans rfl, (blk_cell BK352.out 4).trans rfl, (blk_cell BK352.out 5).trans rfl, (blk_cell BK352.out 6).trans rfl, (blk_cell BK352.out 7).trans rfl, (blk_cell BK352.out 8).trans rfl⟩ (fun hHeld => ?_)
           clear hK K
           refine nput ?_
           refine pu 3 (some 13) #[T,T,T,T,T,T,F,F,F,T,F,F,T,T,F,F,F,T,T,F,F,F] (any_of HT_.out (by kernel_rfl)) ?_
           refine one_ (i := 6) (N := some 16) #[T,T,T,T,T,T,T,F,F,T,F,F,T,T,F,F,F,T,T,F,F,F] rfl rfl (one_of HT_.out (by kernel_rfl)) (by decide) (fun K hK => ?_)
           refine goes_ Tryd.func63 (by kernel_rfl) rfl #[.agg #[.int .u32 a0_2, .int .i64 a0_3]] (by rfl) rfl rfl aok ?_
           with_reducible refine (crossbuckref03_Print.calls kj1 a0_2 a0_3 t355 _ A11.out).mono ?_;rintro e w23 ⟨rfl, hb⟩;refine ⟨_, rfl, ?_⟩;replace BK352 := Aside0.mk (bb BK352.out hb)
           replace HB := Aside0.mk (below_step (bel HB) hb)
           (try clear hb);(try clear hb2);(try clear hk);(try clear hi)
           refine hK.out _ _ ⟨(blk_cell BK352.out 0).trans rfl, (blk_cell BK352.out 1).trans rfl, (blk_cell BK352.out 2).trans rfl, (blk_cell BK352.out 3).trans rfl, (blk_cell BK352.out 4).trans rfl, (blk_cell BK352.out 5).trans rfl, (blk_cell BK352.out 6).trans rfl, (blk_cell BK352.out 7).trans rfl, (blk_cell BK352.out 8).trans rfl⟩ (fun hHeld => ?_)
           clear hK K
           refine nput ?_
           refine pu 7 (some 17) #[T,T,T,T,T,T,T,T,F,T,F,F,T,T,F,F,F,T,T,F,F,F] (any_of HT_.out (by kernel_rfl)) ?_
           refine pu 8 (some 18) #[T,T,T,T,T,T,T,T,T,T,F,F,T,T,F,F,F,T,T,F,F,F] (any_of HT_.out (by kernel_rfl)) ?_
           refine pu 10 (some 20) #[T,T,T,T,T,T,T,T,T,T,T,F,T,T,F,F,F,T,T,F,F,F] (any_of HT_.out (by kernel_rfl)) ?_
           refine pu 11 (some 21) #[T,T,T,T,T,T,T,T,T,T,T,T,T,T,F,F,F,T,T,F,F,F] (any_of HT_.out (by kernel_rfl)) ?_
           refine one_ (i := 14) (N := some 24) #[T,T,T,T,T,T,T,T,T,T,T,T,T,T,T,F,F,T,T,F,F,F] rfl rfl (one_of HT_.out (by kernel_rfl)) (by decide) (fun K hK => ?_)
           refine goes_ Tryd.func60 (by kernel_rfl) rfl #[.agg #[.int .u16 a0_5, .int .u16 a0_6]] (by rfl) rfl rfl aok ?_
           with_reducible refine (crossbuckref03_PrintRange.calls kj1 a0_5 a0_6 t356 _ A16.out).mono ?_;rintro e w24 ⟨rfl, hb⟩;refine ⟨_, rfl, ?_⟩;replace BK352 := Aside0.mk (bb BK352.out hb)
           replace HB := Aside0.mk (below_step (bel HB) hb)
           (try clear hb);(try clear hb2);(try clear hk);(try clear hi)
           refine hK.out _ _ ⟨(blk_cell BK352.out 0).trans rfl, (blk_cell BK352.out 1).trans rfl, (blk_cell BK352.out 2).trans rfl, (blk_cell BK352.out 3).trans rfl, (blk_cell BK352.out 4).trans rfl, (blk_cell BK352.out 5).trans rfl, (blk_cell BK352.out 6).trans rfl, (blk_cell BK352.out 7).trans rfl, (blk_cell BK352.out 8).trans rfl⟩ (fun hHeld => ?_)
           clear hK K
           refine nput ?_
           refine pu 15 (some 25) #[T,T,T,T,T,T,T,T,T,T,T,T,T,T,T,T,F,T,T,F,F,F] (any_of HT_.out (by kernel_rfl)) ?_
           refine pu 16 (some 26) #[T,T,T,T,T,T,T,T,T,T,T,T,T,T,T,T,T,T,T,F,F,F] (any_of HT_.out (by kernel_rfl)) ?_
           refine one_ (i := 19) (N := some 29) #[T,T,T,T,T,T,T,T,T,T,T,T,T,T,T,T,T,T,T,T,F,F] rfl rfl (one_of HT_.out (by kernel_rfl)) (by decide) (fun K hK => ?_)
           refine goes_ Tryd.func60 (by kernel_rfl) rfl #[.agg #[.int .u16 a0_7, .int .u16 a0_8]] (by rfl) rfl rfl aok ?_
           with_reducible refine (crossbuckref03_PrintRange.calls kj1 a0_7 a0_8 t357 _ A19.out).mono ?_;rintro e w25 ⟨rfl, hb⟩;refine ⟨_, rfl, ?_⟩;replace BK352 := Aside0.mk (bb BK352.out hb)
           replace HB := Aside0.mk (below_step (bel HB) hb)
           (try clear hb);(try clear hb2);(try clear hk);(try clear hi)
           refine hK.out _ _ ⟨(blk_cell BK352.out 0).trans rfl, (blk_cell BK352.out 1).trans rfl, (blk_cell BK352.out 2).trans rfl, (blk_cell BK352.out 3).trans rfl, (blk_cell BK352.out 4).trans rfl, (blk_cell BK352.out 5).trans rfl, (blk_cell BK352.out 6).trans rfl, (blk_cell BK352.out 7).trans rfl, (blk_cell BK352.out 8).trans rfl⟩ (fun hHeld => ?_)
           clear hK K
           refine nput ?_
           refine pu 20 (some 30) #[T,T,T,T,T,T,T,T,T,T,T,T,T,T,T,T,T,T,T,T,T,F] (any_of HT_.out (by kernel_rfl)) ?_
           refine pu 21 (some 2) #[T,T,T,T,T,T,T,T,T,T,T,T,T,T,T,T,T,T,T,T,T,T] (any_of HT_.out (by kernel_rfl)) ?_
           refine done_ (done_of HT_.out (by kernel_rfl)) ?_
           try go_wp2
           go_ret
           exact ⟨fin, bel HB⟩
          ·rw [if_neg c20] at H
           exact absurd H (by simp)
         ·rw [if_neg c18] at H
          exact absurd H (by simp)
        ·rw [if_neg c17] at H
         exact absurd H (by simp)
       ·rw [if_neg c15] at H
        exact absurd H (by simp)
      ·rw [if_neg c14] at H
       exact absurd H (by simp)
     ·rw [if_neg c13] at H
      exact absurd H (by simp)
    ·rw [if_neg c12] at H
     exact absurd H (by simp)
   ·rw [if_neg c10] at H
    exact absurd H (by simp)

end Go.Proofs.YtloclimoffhbhaaDoor.PSto
