-- Written by wip/myprint.py and wip/merge.py (this session's own programs); Lean checks it.
-- halved
import Derived.Test.YtloclimoffhbhaaDoorSq6
import Derived.Test.YtloclimoffhbhaaDoorPScax0
import Derived.Test.YtloclimoffhbhaaDoorPScax11
namespace Go.Proofs.YtloclimoffhbhaaDoor.PSca
open Go.RowKit Go.Proofs.YtloclimoffhbhaaDoorW.PrintWords Go.Proofs.YtloclimoffhbhaaDoorW.PrintLast Go.Proofs.YtloclimoffhbhaaDoorW.PrintMore Go.Proofs.YtloclimoffhbhaaDoorW.PrintSq List
attribute [local go_sem] max2_int min2_int max_two min_two max_three min_three max_four min_four   -- for this text's walks alone
set_option linter.unusedVariables false
set_option linter.unusedSimpArgs false

/-! ### crossbuckref25_Query: function 103 -/
def crossbuckref25_Query.f (k : Nat) (a0_0 : Int) (a0_1 : Int) (a0_2 : Int) (a0_3 : Int) (a0_4 : Int) (a0_5 : Int) (a0_6 : Int) (a0_7 : Int) (a0_8 : Int) (a0_9 : Int) (a0_10 : Int) (a0_11 : Int) : Option (ByteArray) := (some (([(⟨#[114, 101, 97, 99, 104]⟩ : ByteArray), (⟨#[108, 111, 111, 112]⟩ : ByteArray), (⟨#[104, 111, 108, 101]⟩ : ByteArray), (⟨#[100, 114, 111, 112]⟩ : ByteArray), (⟨#[100, 101, 110, 105, 101, 100]⟩ : ByteArray), (⟨#[108, 101, 102, 116]⟩ : ByteArray)] : List ByteArray) : List ByteArray)).bind fun y359 => (if 0 ≤ a0_0 then (if a0_0 < (y359.length : Int) then (if 4 + (rdOf ByteArray.empty y359 a0_0).size ≤ 9223372036854775807 then (if ((⟨#[97, 115, 107, 32]⟩ : ByteArray) ++ (rdOf ByteArray.empty y359 a0_0)).size + 1 ≤ 9223372036854775807 then ((crossbuckref25_n.f k a0_1).bind fun t363 => (if (((⟨#[97, 115, 107, 32]⟩ : ByteArray) ++ (rdOf ByteArray.empty y359 a0_0)) ++ (⟨#[32]⟩ : ByteArray)).size + t363.size ≤ 9223372036854775807 then (if a0_0 = 0 then (if ((((⟨#[97, 115, 107, 32]⟩ : ByteArray) ++ (rdOf ByteArray.empty y359 a0_0)) ++ (⟨#[32]⟩ : ByteArray)) ++ t363).size + 1 ≤ 9223372036854775807 then ((crossbuckref25_n.f k a0_2).bind fun t364 => (if (((((⟨#[97, 115, 107, 32]⟩ : ByteArray) ++ (rdOf ByteArray.empty y359 a0_0)) ++ (⟨#[32]⟩ : ByteArray)) ++ t363) ++ (⟨#[32]⟩ : ByteArray)).size + t364.size ≤ 9223372036854775807 then (if ((((((⟨#[97, 115, 107, 32]⟩ : ByteArray) ++ (rdOf ByteArray.empty y359 a0_0)) ++ (⟨#[32]⟩ : ByteArray)) ++ t363) ++ (⟨#[32]⟩ : ByteArray)) ++ t364).size + 1 ≤ 9223372036854775807 then ((crossbuckref04_Print.f k a0_3 a0_4 a0_5 a0_6 a0_7 a0_8 a0_9 a0_10 a0_11).bind fun t365 => (if (((((((⟨#[97, 115, 107, 32]⟩ : ByteArray) ++ (rdOf ByteArray.empty y359 a0_0)) ++ (⟨#[32]⟩ : ByteArray)) ++ t363) ++ (⟨#[32]⟩ : ByteArray)) ++ t364) ++ (⟨#[32]⟩ : ByteArray)).size + t365.size ≤ 9223372036854775807 then (some ((((((((⟨#[97, 115, 107, 32]⟩ : ByteArray) ++ (rdOf ByteArray.empty y359 a0_0)) ++ (⟨#[32]⟩ : ByteArray)) ++ t363) ++ (⟨#[32]⟩ : ByteArray)) ++ t364) ++ (⟨#[32]⟩ : ByteArray)) ++ t365)) else (none))) else (none)) else (none))) else (none)) else (if ((((⟨#[97, 115, 107, 32]⟩ : ByteArray) ++ (rdOf ByteArray.empty y359 a0_0)) ++ (⟨#[32]⟩ : ByteArray)) ++ t363).size + 1 ≤ 9223372036854775807 then ((crossbuckref04_Print.f k a0_3 a0_4 a0_5 a0_6 a0_7 a0_8 a0_9 a0_10 a0_11).bind fun t366 => (if (((((⟨#[97, 115, 107, 32]⟩ : ByteArray) ++ (rdOf ByteArray.empty y359 a0_0)) ++ (⟨#[32]⟩ : ByteArray)) ++ t363) ++ (⟨#[32]⟩ : ByteArray)).size + t366.size ≤ 9223372036854775807 then (some ((((((⟨#[97, 115, 107, 32]⟩ : ByteArray) ++ (rdOf ByteArray.empty y359 a0_0)) ++ (⟨#[32]⟩ : ByteArray)) ++ t363) ++ (⟨#[32]⟩ : ByteArray)) ++ t366)) else (none))) else (none))) else (none))) else (none)) else (none)) else (none)) else (none))
def crossbuckref25_Query.T1 : Bool × List (List Nat × List Nat) := (true, [([], []), ([], []), ([1], [1]), ([0, 2], [0, 2]), ([3], [3]), ([4], [4]), ([5], [5]), ([], []), ([7], [7]), ([8], [8]), ([6, 9], [6, 9]), ([10, 9, 0, 1, 2, 3, 4, 5, 6, 7, 8, 9, 10], [10])])
def crossbuckref25_Query.B1 : List Nat := [0, 0, 2, 7, 15, 31, 63, 0, 128, 384, 1023, 2047]
theorem crossbuckref25_Query.tab1 : rtab .any (opsOf Tryd.f103 1) = crossbuckref25_Query.T1 := by kernel_rfl
theorem crossbuckref25_Query.bits1 : waitsOk crossbuckref25_Query.T1.2 crossbuckref25_Query.B1 = true := by kernel_rfl
set_option maxHeartbeats 8000000 in
set_option maxRecDepth 100000 in
theorem crossbuckref25_Query.calls (k : Nat) (a0_0 : Int) (a0_1 : Int) (a0_2 : Int) (a0_3 : Int) (a0_4 : Int) (a0_5 : Int) (a0_6 : Int) (a0_7 : Int) (a0_8 : Int) (a0_9 : Int) (a0_10 : Int) (a0_11 : Int) (r : ByteArray) (w : World) (h : crossbuckref25_Query.f k a0_0 a0_1 a0_2 a0_3 a0_4 a0_5 a0_6 a0_7 a0_8 a0_9 a0_10 a0_11 = some r) :
  Calls Tryd.prog 103 #[.agg #[.int .i64 a0_0, .int .i64 a0_1, .int .i64 a0_2, .int .u32 a0_3, .int .i64 a0_4, .int .u32 a0_5, .int .i64 a0_6, .int .i64 a0_7, .int .u16 a0_8, .int .u16 a0_9, .int .u16 a0_10, .int .u16 a0_11]] w fun e w' => e = .returned (.string r) ∧ Below w.heap.size w w' := by
 have hu113 := Tryd.underlying113;have hu77 := Tryd.underlying77;have HB := Aside0.mk (Below.refl w.heap.size w)
 have H : ((some (([(⟨#[114, 101, 97, 99, 104]⟩ : ByteArray), (⟨#[108, 111, 111, 112]⟩ : ByteArray), (⟨#[104, 111, 108, 101]⟩ : ByteArray), (⟨#[100, 114, 111, 112]⟩ : ByteArray), (⟨#[100, 101, 110, 105, 101, 100]⟩ : ByteArray), (⟨#[108, 101, 102, 116]⟩ : ByteArray)] : List ByteArray) : List ByteArray)).bind fun y359 => (if 0 ≤ a0_0 then (if a0_0 < (y359.length : Int) then (if 4 + (rdOf ByteArray.empty y359 a0_0).size ≤ 9223372036854775807 then (if ((⟨#[97, 115, 107, 32]⟩ : ByteArray) ++ (rdOf ByteArray.empty y359 a0_0)).size + 1 ≤ 9223372036854775807 then ((crossbuckref25_n.f k a0_1).bind fun t363 => (if (((⟨#[97, 115, 107, 32]⟩ : ByteArray) ++ (rdOf ByteArray.empty y359 a0_0)) ++ (⟨#[32]⟩ : ByteArray)).size + t363.size ≤ 9223372036854775807 then (if a0_0 = 0 then (if ((((⟨#[97, 115, 107, 32]⟩ : ByteArray) ++ (rdOf ByteArray.empty y359 a0_0)) ++ (⟨#[32]⟩ : ByteArray)) ++ t363).size + 1 ≤ 9223372036854775807 then ((crossbuckref25_n.f k a0_2).bind fun t364 => (if (((((⟨#[97, 115, 107, 32]⟩ : ByteArray) ++ (rdOf ByteArray.empty y359 a0_0)) ++ (⟨#[32]⟩ : ByteArray)) ++ t363) ++ (⟨#[32]⟩ : ByteArray)).size + t364.size ≤ 9223372036854775807 then (if ((((((⟨#[97, 115, 107, 32]⟩ : ByteArray) ++ (rdOf ByteArray.empty y359 a0_0)) ++ (⟨#[32]⟩ : ByteArray)) ++ t363) ++ (⟨#[32]⟩ : ByteArray)) ++ t364).size + 1 ≤ 9223372036854775807 then ((crossbuckref04_Print.f k a0_3 a0_4 a0_5 a0_6 a0_7 a0_8 a0_9 a0_10 a0_11).bind fun t365 => (if (((((((⟨#[97, 115, 107, 32]⟩ : ByteArray) ++ (rdOf ByteArray.empty y359 a0_0)) ++ (⟨#[32]⟩ : ByteArray)) ++ t363) ++ (⟨#[32]⟩ : ByteArray)) ++ t364) ++ (⟨#[32]⟩ : ByteArray)).size + t365.size ≤ 9223372036854775807 then (some ((((((((⟨#[97, 115, 107, 32]⟩ : ByteArray) ++ (rdOf ByteArray.empty y359 a0_0)) ++ (⟨#[32]⟩ : ByteArray)) ++ t363) ++ (⟨#[32]⟩ : ByteArray)) ++ t364) ++ (⟨#[32]⟩ : ByteArray)) ++ t365)) else (none))) else (none)) else (none))) else (none)) else (if ((((⟨#[97, 115, 107, 32]⟩ : ByteArray) ++ (rdOf ByteArray.empty y359 a0_0)) ++ (⟨#[32]⟩ : ByteArray)) ++ t363).size + 1 ≤ 9223372036854775807 then ((crossbuckref04_Print.f k a0_3 a0_4 a0_5 a0_6 a0_7 a0_8 a0_9 a0_10 a0_11).bind fun t366 => (if (((((⟨#[97, 115, 107, 32]⟩ : ByteArray) ++ (rdOf ByteArray.empty y359 a0_0)) ++ (⟨#[32]⟩ : ByteArray)) ++ t363) ++ (⟨#[32]⟩ : ByteArray)).size + t366.size ≤ 9223372036854775807 then (some ((((((⟨#[97, 115, 107, 32]⟩ : ByteArray) ++ (rdOf ByteArray.empty y359 a0_0)) ++ (⟨#[32]⟩ : ByteArray)) ++ t363) ++ (⟨#[32]⟩ : ByteArray)) ++ t366)) else (none))) else (none))) else (none))) else (none)) else (none)) else (none)) else (none))) = some r := h
 clear h;obtain ⟨y359, hy359⟩ : ∃ y_ : List ByteArray, y_ = (([(⟨#[114, 101, 97, 99, 104]⟩ : ByteArray), (⟨#[108, 111, 111, 112]⟩ : ByteArray), (⟨#[104, 111, 108, 101]⟩ : ByteArray), (⟨#[100, 114, 111, 112]⟩ : ByteArray), (⟨#[100, 101, 110, 105, 101, 100]⟩ : ByteArray), (⟨#[108, 101, 102, 116]⟩ : ByteArray)] : List ByteArray)) := ⟨_, rfl⟩
 replace H : (if 0 ≤ a0_0 then (if a0_0 < (y359.length : Int) then (if 4 + (rdOf ByteArray.empty y359 a0_0).size ≤ 9223372036854775807 then (if ((⟨#[97, 115, 107, 32]⟩ : ByteArray) ++ (rdOf ByteArray.empty y359 a0_0)).size + 1 ≤ 9223372036854775807 then ((crossbuckref25_n.f k a0_1).bind fun t363 => (if (((⟨#[97, 115, 107, 32]⟩ : ByteArray) ++ (rdOf ByteArray.empty y359 a0_0)) ++ (⟨#[32]⟩ : ByteArray)).size + t363.size ≤ 9223372036854775807 then (if a0_0 = 0 then (if ((((⟨#[97, 115, 107, 32]⟩ : ByteArray) ++ (rdOf ByteArray.empty y359 a0_0)) ++ (⟨#[32]⟩ : ByteArray)) ++ t363).size + 1 ≤ 9223372036854775807 then ((crossbuckref25_n.f k a0_2).bind fun t364 => (if (((((⟨#[97, 115, 107, 32]⟩ : ByteArray) ++ (rdOf ByteArray.empty y359 a0_0)) ++ (⟨#[32]⟩ : ByteArray)) ++ t363) ++ (⟨#[32]⟩ : ByteArray)).size + t364.size ≤ 9223372036854775807 then (if ((((((⟨#[97, 115, 107, 32]⟩ : ByteArray) ++ (rdOf ByteArray.empty y359 a0_0)) ++ (⟨#[32]⟩ : ByteArray)) ++ t363) ++ (⟨#[32]⟩ : ByteArray)) ++ t364).size + 1 ≤ 9223372036854775807 then ((crossbuckref04_Print.f k a0_3 a0_4 a0_5 a0_6 a0_7 a0_8 a0_9 a0_10 a0_11).bind fun t365 => (if (((((((⟨#[97, 115, 107, 32]⟩ : ByteArray) ++ (rdOf ByteArray.empty y359 a0_0)) ++ (⟨#[32]⟩ : ByteArray)) ++ t363) ++ (⟨#[32]⟩ : ByteArray)) ++ t364) ++ (⟨#[32]⟩ : ByteArray)).size + t365.size ≤ 9223372036854775807 then (some ((((((((⟨#[97, 115, 107, 32]⟩ : ByteArray) ++ (rdOf ByteArray.empty y359 a0_0)) ++ (⟨#[32]⟩ : ByteArray)) ++ t363) ++ (⟨#[32]⟩ : ByteArray)) ++ t364) ++ (⟨#[32]⟩ : ByteArray)) ++ t365)) else (none))) else (none)) else (none))) else (none)) else (if ((((⟨#[97, 115, 107, 32]⟩ : ByteArray) ++ (rdOf ByteArray.empty y359 a0_0)) ++ (⟨#[32]⟩ : ByteArray)) ++ t363).size + 1 ≤ 9223372036854775807 then ((crossbuckref04_Print.f k a0_3 a0_4 a0_5 a0_6 a0_7 a0_8 a0_9 a0_10 a0_11).bind fun t366 => (if (((((⟨#[97, 115, 107, 32]⟩ : ByteArray) ++ (rdOf ByteArray.empty y359 a0_0)) ++ (⟨#[32]⟩ : ByteArray)) ++ t363) ++ (⟨#[32]⟩ : ByteArray)).size + t366.size ≤ 9223372036854775807 then (some ((((((⟨#[97, 115, 107, 32]⟩ : ByteArray) ++ (rdOf ByteArray.empty y359 a0_0)) ++ (⟨#[32]⟩ : ByteArray)) ++ t363) ++ (⟨#[32]⟩ : ByteArray)) ++ t366)) else (none))) else (none))) else (none))) else (none)) else (none)) else (none)) else (none)) = some r := by first | (rw [hy359]; with_reducible exact H) | (have H2_ := (Option.bind_some _ _).symm.trans H; rw [hy359]; with_reducible exact H2_) | (have H2_ := (Option.bind_some _ _).symm.trans H; with_reducible exact H2_) | with_reducible exact H | (rw [hy359]; exact H) | exact H
 have Ny359 := Aside0.mk hy359;clear hy359
 by_cases c2 : 0 ≤ a0_0
 ·rw [if_pos c2] at H
  have c2b0 : decide (0 ≤ a0_0) = true := decide_eq_true c2;clear c2
  by_cases c3 : a0_0 < (y359.length : Int)
  ·rw [if_pos c3] at H
   have c3b0 : decide (a0_0 < (y359.length : Int)) = true := decide_eq_true c3;clear c3
   by_cases c4 : 4 + (rdOf ByteArray.empty y359 a0_0).size ≤ 9223372036854775807
   ·rw [if_pos c4] at H
    have c4b0 := eq_true c4;have c4b1 : decide (4 + (rdOf ByteArray.empty y359 a0_0).size ≤ 9223372036854775807) = true := decide_eq_true c4
    try have c4b2 : (9223372036854775807 < 4 + (rdOf ByteArray.empty y359 a0_0).size) = False := eq_false (Nat.not_lt.2 c4)
    by_cases c5 : ((⟨#[97, 115, 107, 32]⟩ : ByteArray) ++ (rdOf ByteArray.empty y359 a0_0)).size + 1 ≤ 9223372036854775807
    ·rw [if_pos c5] at H
     have c5b0 := eq_true c5;have c5b1 : decide (((⟨#[97, 115, 107, 32]⟩ : ByteArray) ++ (rdOf ByteArray.empty y359 a0_0)).size + 1 ≤ 9223372036854775807) = true := decide_eq_true c5
     try have c5b2 : (9223372036854775807 < ((⟨#[97, 115, 107, 32]⟩ : ByteArray) ++ (rdOf ByteArray.empty y359 a0_0)).size + 1) = False := eq_false (Nat.not_lt.2 c5)
     try have c5b3 := c5b2
     try simp only [ByteArray.size_append, Hand.lit_size, List.length_cons, List.length_nil, Nat.zero_add, Nat.reduceAdd] at c5b3
     replace H := Option.bind_eq_some_iff.mp H;obtain ⟨t363, A60, H⟩ := H
     replace H : (if (((⟨#[97, 115, 107, 32]⟩ : ByteArray) ++ (rdOf ByteArray.empty y359 a0_0)) ++ (⟨#[32]⟩ : ByteArray)).size + t363.size ≤ 9223372036854775807 then (if a0_0 = 0 then (if ((((⟨#[97, 115, 107, 32]⟩ : ByteArray) ++ (rdOf ByteArray.empty y359 a0_0)) ++ (⟨#[32]⟩ : ByteArray)) ++ t363).size + 1 ≤ 9223372036854775807 then ((crossbuckref25_n.f k a0_2).bind fun t364 => (if (((((⟨#[97, 115, 107, 32]⟩ : ByteArray) ++ (rdOf ByteArray.empty y359 a0_0)) ++ (⟨#[32]⟩ : ByteArray)) ++ t363) ++ (⟨#[32]⟩ : ByteArray)).size + t364.size ≤ 9223372036854775807 then (if ((((((⟨#[97, 115, 107, 32]⟩ : ByteArray) ++ (rdOf ByteArray.empty y359 a0_0)) ++ (⟨#[32]⟩ : ByteArray)) ++ t363) ++ (⟨#[32]⟩ : ByteArray)) ++ t364).size + 1 ≤ 9223372036854775807 then ((crossbuckref04_Print.f k a0_3 a0_4 a0_5 a0_6 a0_7 a0_8 a0_9 a0_10 a0_11).bind fun t365 => (if (((((((⟨#[97, 115, 107, 32]⟩ : ByteArray) ++ (rdOf ByteArray.empty y359 a0_0)) ++ (⟨#[32]⟩ : ByteArray)) ++ t363) ++ (⟨#[32]⟩ : ByteArray)) ++ t364) ++ (⟨#[32]⟩ : ByteArray)).size + t365.size ≤ 9223372036854775807 then (some ((((((((⟨#[97, 115, 107, 32]⟩ : ByteArray) ++ (rdOf ByteArray.empty y359 a0_0)) ++ (⟨#[32]⟩ : ByteArray)) ++ t363) ++ (⟨#[32]⟩ : ByteArray)) ++ t364) ++ (⟨#[32]⟩ : ByteArray)) ++ t365)) else (none))) else (none)) else (none))) else (none)) else (if ((((⟨#[97, 115, 107, 32]⟩ : ByteArray) ++ (rdOf ByteArray.empty y359 a0_0)) ++ (⟨#[32]⟩ : ByteArray)) ++ t363).size + 1 ≤ 9223372036854775807 then ((crossbuckref04_Print.f k a0_3 a0_4 a0_5 a0_6 a0_7 a0_8 a0_9 a0_10 a0_11).bind fun t366 => (if (((((⟨#[97, 115, 107, 32]⟩ : ByteArray) ++ (rdOf ByteArray.empty y359 a0_0)) ++ (⟨#[32]⟩ : ByteArray)) ++ t363) ++ (⟨#[32]⟩ : ByteArray)).size + t366.size ≤ 9223372036854775807 then (some ((((((⟨#[97, 115, 107, 32]⟩ : ByteArray) ++ (rdOf ByteArray.empty y359 a0_0)) ++ (⟨#[32]⟩ : ByteArray)) ++ t363) ++ (⟨#[32]⟩ : ByteArray)) ++ t366)) else (none))) else (none))) else (none)) = some r := H
     have A6 := Aside0.mk A60;clear A60
     by_cases c7 : (((⟨#[97, 115, 107, 32]⟩ : ByteArray) ++ (rdOf ByteArray.empty y359 a0_0)) ++ (⟨#[32]⟩ : ByteArray)).size + t363.size ≤ 9223372036854775807
     ·rw [if_pos c7] at H
      have c7b0 := eq_true c7;have c7b1 : decide ((((⟨#[97, 115, 107, 32]⟩ : ByteArray) ++ (rdOf ByteArray.empty y359 a0_0)) ++ (⟨#[32]⟩ : ByteArray)).size + t363.size ≤ 9223372036854775807) = true := decide_eq_true c7
      try have c7b2 : (9223372036854775807 < (((⟨#[97, 115, 107, 32]⟩ : ByteArray) ++ (rdOf ByteArray.empty y359 a0_0)) ++ (⟨#[32]⟩ : ByteArray)).size + t363.size) = False := eq_false (Nat.not_lt.2 c7)
      try have c7b3 := c7b2
      try simp only [ByteArray.size_append, Hand.lit_size, List.length_cons, List.length_nil, Nat.zero_add, Nat.reduceAdd] at c7b3
      by_cases c8 : a0_0 = 0
      ·rw [if_pos c8] at H
       have c8b0 : (a0_0 == 0) = true := beq_iff_eq.mpr c8;have c8b1 : (a0_0 != 0) = false := bne_eq_false_iff_eq.mpr c8;clear c8
       by_cases c9 : ((((⟨#[97, 115, 107, 32]⟩ : ByteArray) ++ (rdOf ByteArray.empty y359 a0_0)) ++ (⟨#[32]⟩ : ByteArray)) ++ t363).size + 1 ≤ 9223372036854775807
       ·rw [if_pos c9] at H
        have c9b0 := eq_true c9;have c9b1 : decide (((((⟨#[97, 115, 107, 32]⟩ : ByteArray) ++ (rdOf ByteArray.empty y359 a0_0)) ++ (⟨#[32]⟩ : ByteArray)) ++ t363).size + 1 ≤ 9223372036854775807) = true := decide_eq_true c9
        try have c9b2 : (9223372036854775807 < ((((⟨#[97, 115, 107, 32]⟩ : ByteArray) ++ (rdOf ByteArray.empty y359 a0_0)) ++ (⟨#[32]⟩ : ByteArray)) ++ t363).size + 1) = False := eq_false (Nat.not_lt.2 c9)
        try have c9b3 := c9b2
        try simp only [ByteArray.size_append, Hand.lit_size, List.length_cons, List.length_nil, Nat.zero_add, Nat.reduceAdd] at c9b3
        replace H := Option.bind_eq_some_iff.mp H;obtain ⟨t364, A100, H⟩ := H
        replace H : (if (((((⟨#[97, 115, 107, 32]⟩ : ByteArray) ++ (rdOf ByteArray.empty y359 a0_0)) ++ (⟨#[32]⟩ : ByteArray)) ++ t363) ++ (⟨#[32]⟩ : ByteArray)).size + t364.size ≤ 9223372036854775807 then (if ((((((⟨#[97, 115, 107, 32]⟩ : ByteArray) ++ (rdOf ByteArray.empty y359 a0_0)) ++ (⟨#[32]⟩ : ByteArray)) ++ t363) ++ (⟨#[32]⟩ : ByteArray)) ++ t364).size + 1 ≤ 9223372036854775807 then ((crossbuckref04_Print.f k a0_3 a0_4 a0_5 a0_6 a0_7 a0_8 a0_9 a0_10 a0_11).bind fun t365 => (if (((((((⟨#[97, 115, 107, 32]⟩ : ByteArray) ++ (rdOf ByteArray.empty y359 a0_0)) ++ (⟨#[32]⟩ : ByteArray)) ++ t363) ++ (⟨#[32]⟩ : ByteArray)) ++ t364) ++ (⟨#[32]⟩ : ByteArray)).size + t365.size ≤ 9223372036854775807 then (some ((((((((⟨#[97, 115, 107, 32]⟩ : ByteArray) ++ (rdOf ByteArray.empty y359 a0_0)) ++ (⟨#[32]⟩ : ByteArray)) ++ t363) ++ (⟨#[32]⟩ : ByteArray)) ++ t364) ++ (⟨#[32]⟩ : ByteArray)) ++ t365)) else (none))) else (none)) else (none)) = some r := H
        have A10 := Aside0.mk A100;clear A100
        by_cases c11 : (((((⟨#[97, 115, 107, 32]⟩ : ByteArray) ++ (rdOf ByteArray.empty y359 a0_0)) ++ (⟨#[32]⟩ : ByteArray)) ++ t363) ++ (⟨#[32]⟩ : ByteArray)).size + t364.size ≤ 9223372036854775807
        ·rw [if_pos c11] at H
         have c11b0 := eq_true c11;have c11b1 : decide ((((((⟨#[97, 115, 107, 32]⟩ : ByteArray) ++ (rdOf ByteArray.empty y359 a0_0)) ++ (⟨#[32]⟩ : ByteArray)) ++ t363) ++ (⟨#[32]⟩ : ByteArray)).size + t364.size ≤ 9223372036854775807) = true := decide_eq_true c11
         try have c11b2 : (9223372036854775807 < (((((⟨#[97, 115, 107, 32]⟩ : ByteArray) ++ (rdOf ByteArray.empty y359 a0_0)) ++ (⟨#[32]⟩ : ByteArray)) ++ t363) ++ (⟨#[32]⟩ : ByteArray)).size + t364.size) = False := eq_false (Nat.not_lt.2 c11)
         try have c11b3 := c11b2
         try simp only [ByteArray.size_append, Hand.lit_size, List.length_cons, List.length_nil, Nat.zero_add, Nat.reduceAdd] at c11b3
         by_cases c12 : ((((((⟨#[97, 115, 107, 32]⟩ : ByteArray) ++ (rdOf ByteArray.empty y359 a0_0)) ++ (⟨#[32]⟩ : ByteArray)) ++ t363) ++ (⟨#[32]⟩ : ByteArray)) ++ t364).size + 1 ≤ 9223372036854775807
         ·rw [if_pos c12] at H
          have c12b0 := eq_true c12;have c12b1 : decide (((((((⟨#[97, 115, 107, 32]⟩ : ByteArray) ++ (rdOf ByteArray.empty y359 a0_0)) ++ (⟨#[32]⟩ : ByteArray)) ++ t363) ++ (⟨#[32]⟩ : ByteArray)) ++ t364).size + 1 ≤ 9223372036854775807) = true := decide_eq_true c12
          try have c12b2 : (9223372036854775807 < ((((((⟨#[97, 115, 107, 32]⟩ : ByteArray) ++ (rdOf ByteArray.empty y359 a0_0)) ++ (⟨#[32]⟩ : ByteArray)) ++ t363) ++ (⟨#[32]⟩ : ByteArray)) ++ t364).size + 1) = False := eq_false (Nat.not_lt.2 c12)
          try have c12b3 := c12b2
          try simp only [ByteArray.size_append, Hand.lit_size, List.length_cons, List.length_nil, Nat.zero_add, Nat.reduceAdd] at c12b3
          replace H := Option.bind_eq_some_iff.mp H;obtain ⟨t365, A130, H⟩ := H;replace H : (if (((((((⟨#[97, 115, 107, 32]⟩ : ByteArray) ++ (rdOf ByteArray.empty y359 a0_0)) ++ (⟨#[32]⟩ : ByteArray)) ++ t363) ++ (⟨#[32]⟩ : ByteArray)) ++ t364) ++ (⟨#[32]⟩ : ByteArray)).size + t365.size ≤ 9223372036854775807 then (some ((((((((⟨#[97, 115, 107, 32]⟩ : ByteArray) ++ (rdOf ByteArray.empty y359 a0_0)) ++ (⟨#[32]⟩ : ByteArray)) ++ t363) ++ (⟨#[32]⟩ : ByteArray)) ++ t364) ++ (⟨#[32]⟩ : ByteArray)) ++ t365)) else (none)) = some r := H;have A13 := Aside0.mk A130;clear A130
          by_cases c14 : (((((((⟨#[97, 115, 107, 32]⟩ : ByteArray) ++ (rdOf ByteArray.empty y359 a0_0)) ++ (⟨#[32]⟩ : ByteArray)) ++ t363) ++ (⟨#[32]⟩ : ByteArray)) ++ t364) ++ (⟨#[32]⟩ : ByteArray)).size + t365.size ≤ 9223372036854775807
          ·rw [if_pos c14] at H
           have c14b0 := eq_true c14;have c14b1 : decide ((((((((⟨#[97, 115, 107, 32]⟩ : ByteArray) ++ (rdOf ByteArray.empty y359 a0_0)) ++ (⟨#[32]⟩ : ByteArray)) ++ t363) ++ (⟨#[32]⟩ : ByteArray)) ++ t364) ++ (⟨#[32]⟩ : ByteArray)).size + t365.size ≤ 9223372036854775807) = true := decide_eq_true c14
           try have c14b2 : (9223372036854775807 < (((((((⟨#[97, 115, 107, 32]⟩ : ByteArray) ++ (rdOf ByteArray.empty y359 a0_0)) ++ (⟨#[32]⟩ : ByteArray)) ++ t363) ++ (⟨#[32]⟩ : ByteArray)) ++ t364) ++ (⟨#[32]⟩ : ByteArray)).size + t365.size) = False := eq_false (Nat.not_lt.2 c14)
           try have c14b3 := c14b2
           try simp only [ByteArray.size_append, Hand.lit_size, List.length_cons, List.length_nil, Nat.zero_add, Nat.reduceAdd] at c14b3
           obtain rfl := Option.some.inj H;go_enter Tryd.func103, Tryd.ntmps103
           try go_wp2_with (first | ((with_reducible refine gate_dst (N := 1) rfl ?_); refine box_event rfl (N := 1) rfl (cs := #[.int .i64 a0_0, .int .i64 a0_1, .int .i64 a0_2, .int .u32 a0_3, .int .i64 a0_4, .int .u32 a0_5, .int .i64 a0_6, .int .i64 a0_7, .int .u16 a0_8, .int .u16 a0_9, .int .u16 a0_10, .int .u16 a0_11]) (t := 113) gs ?_; intro gb358 hg w15 hbox hb; have n0_ := Aside0.mk (below_step (bel HB) hb); have n1_ := Aside0.mk (hbox); have n2_ := Aside0.mk ((by rw [hg]; exact (below_size (bel HB)) : w.heap.size ≤ gb358)); have n3_ := Aside0.mk ((by rw [hg]; exact (below_size (bel HB)) : w.heap.size ≤ gb358)); clear HB; have HB := n0_; have BK358 := n1_; have GW358 := n2_; have GE358 := n3_; clear n0_ n1_ n2_ n3_; clear hb hbox hg))
           have pi362 : (0 ≤ (a0_0 : Int)) = True := eq_true (of_decide_eq_true (by first | (with_reducible assumption) | assumption))
           have qi362 : (a0_0 < (y359.length : Int)) = True := eq_true (of_decide_eq_true (by first | (with_reducible assumption) | assumption))
           replace BK358 := Aside0.mk (blk_drew BK358.out);replace HB := Aside0.mk (below_drew1 HB.out)
           refine start_ (n := 12) (S := fun w' => True) (ds := []) #[F,F,F,F,F,F,F,F,F,F,F,F] (by kernel_rfl) rfl rfl trivial (fun hHeld => ?_); refine with_tabW crossbuckref25_Query.tab1 crossbuckref25_Query.bits1 (fun HT_ HW_ => ?_)
           generalize w15.drew = w16 at BK358 HB hHeld ⊢
           refine pure_ (i := 1) (N := some 5) (v := ?_) (a' := ?_) #[F,T,F,F,F,F,F,F,F,F,F,F] rfl rfl (any_of HT_.out (by kernel_rfl)) (fun _ _ _ h => h) (Or.inl ⟨by rfl, ?_⟩) ?_ ?_
           rotate_left;·intro w';go_simp;with_reducible rfl
           rotate_left;·simp only [Act.put, setIfInBounds_toArray, set_cons_zero, set_cons_succ, i64_w, i32_w];rfl
           refine pure_ (i := 7) (N := some 11) (v := ?_) (a' := ?_) #[F,T,F,F,F,F,F,T,F,F,F,F] rfl rfl (any_of HT_.out (by kernel_rfl)) (fun _ _ _ h => h) (Or.inl ⟨by rfl, ?_⟩) ?_ ?_
           rotate_left;·intro w';go_simp;with_reducible rfl
           rotate_left;·simp only [Act.put, setIfInBounds_toArray, set_cons_zero, set_cons_succ, i64_w, i32_w];rfl
           refine inv_at [0, 2, 3, 4, 5, 6, 8, 9, 10, 11] (fun a0_ b a w' => ∃ (v360 : Value) (adz_v360 : Addr) (m3_ : Value), a = putSel a0_ b [(0, 4, v360), (2, 6, .int .i64 a0_0), (3, 7, m3_), (4, 8, .string (rdOf ByteArray.empty y359 a0_0)), (5, 9, .string ((⟨#[97, 115, 107, 32]⟩ : ByteArray) ++ (rdOf ByteArray.empty y359 a0_0))), (6, 10, .string (((⟨#[97, 115, 107, 32]⟩ : ByteArray) ++ (rdOf ByteArray.empty y359 a0_0)) ++ (⟨#[32]⟩ : ByteArray))), (8, 12, .int .i64 a0_1), (9, 13, .string t363), (10, 14, .string ((((⟨#[97, 115, 107, 32]⟩ : ByteArray) ++ (rdOf ByteArray.empty y359 a0_0)) ++ (⟨#[32]⟩ : ByteArray)) ++ t363)), (11, 3, .string ((((⟨#[97, 115, 107, 32]⟩ : ByteArray) ++ (rdOf ByteArray.empty y359 a0_0)) ++ (⟨#[32]⟩ : ByteArray)) ++ t363))] ∧ (w'.heap[gb358]? = some (.cells #[.int .i64 a0_0, .int .i64 a0_1, .int .i64 a0_2, .int .u32 a0_3, .int .i64 a0_4, .int .u32 a0_5, .int .i64 a0_6, .int .i64 a0_7, .int .u16 a0_8, .int .u16 a0_9, .int .u16 a0_10, .int .u16 a0_11] 113 (0, 0))) ∧ (Below w.heap.size w w') ∧ (b 0 = true → Kd.R Kd.string 9 w' w.heap.size (fun _ => True) v360 y359) ∧ (b 0 = true → ∃ c_, (v360 : Value) = .slice (some adz_v360) y359.length c_) ∧ (b 3 = true → (m3_ : Value) = .pointer (some (adz_v360.add (a0_0).toNat)))) HT_.out HW_.out (by kernel_rfl) (by kernel_rfl) ?_ ?_ ?_
           ·exact ⟨.bool false, ⟨0, 0, none⟩, .bool false, by simp only [putSel, Bool.false_eq_true, if_false], BK358.out, HB.out, fun h_ => absurd h_ (by decide), fun h_ => absurd h_ (by decide), fun h_ => absurd h_ (by decide)⟩
           ·skip
            clear BK358 HB;refine steps_cons ?_ ?_
            ·rintro b a w' ⟨v360, adz_v360, m3_, ha, Q_BK358, Q_HB, Q_HO361, Q_HA_HO361, Q_X3_⟩ hb_ hon hoff
             refine ⟨_, rfl, fun K hK => ?_⟩
             replace ha := Aside0.mk ha;have BK358 := Aside0.mk Q_BK358;have HB := Aside0.mk Q_HB
             refine Kd.R_lit_step Kd.string _ 9 ?hg (N := 4) ?hd (xs := ([(⟨#[114, 101, 97, 99, 104]⟩ : ByteArray), (⟨#[108, 111, 111, 112]⟩ : ByteArray), (⟨#[104, 111, 108, 101]⟩ : ByteArray), (⟨#[100, 114, 111, 112]⟩ : ByteArray), (⟨#[100, 101, 110, 105, 101, 100]⟩ : ByteArray), (⟨#[108, 101, 102, 116]⟩ : ByteArray)] : List ByteArray)) (inner := [.string (⟨#[114, 101, 97, 99, 104]⟩ : ByteArray), .string (⟨#[108, 111, 111, 112]⟩ : ByteArray), .string (⟨#[104, 111, 108, 101]⟩ : ByteArray), .string (⟨#[100, 114, 111, 112]⟩ : ByteArray), .string (⟨#[100, 101, 110, 105, 101, 100]⟩ : ByteArray), .string (⟨#[108, 101, 102, 116]⟩ : ByteArray)]) (ok := fun _ => True) (okp := fun _ => True) ?hr ?hp (fun _ hk => hk) trivial (Below.refl _ _) (Nat.le_refl _) (by simp) ?_; (case hd => rfl); (case hg => rfl); (case hr => first | (go_simp; done) | (go_simp; rfl)); (case hp => exact (Reps.one (show Kd.M Kd.string _ _ _ (⟨#[114, 101, 97, 99, 104]⟩ : ByteArray) [.string (⟨#[114, 101, 97, 99, 104]⟩ : ByteArray)] from rfl) (Reps.one (show Kd.M Kd.string _ _ _ (⟨#[108, 111, 111, 112]⟩ : ByteArray) [.string (⟨#[108, 111, 111, 112]⟩ : ByteArray)] from rfl) (Reps.one (show Kd.M Kd.string _ _ _ (⟨#[104, 111, 108, 101]⟩ : ByteArray) [.string (⟨#[104, 111, 108, 101]⟩ : ByteArray)] from rfl) (Reps.one (show Kd.M Kd.string _ _ _ (⟨#[100, 114, 111, 112]⟩ : ByteArray) [.string (⟨#[100, 114, 111, 112]⟩ : ByteArray)] from rfl) (Reps.one (show Kd.M Kd.string _ _ _ (⟨#[100, 101, 110, 105, 101, 100]⟩ : ByteArray) [.string (⟨#[100, 101, 110, 105, 101, 100]⟩ : ByteArray)] from rfl) (Reps.one (show Kd.M Kd.string _ _ _ (⟨#[108, 101, 102, 116]⟩ : ByteArray) [.string (⟨#[108, 101, 102, 116]⟩ : ByteArray)] from rfl) (Reps.none _ _))))))))
             intro v360 w17 ho18 hb hg_ hnew_
             clear hg_ hnew_;(first | rw [← Ny359.out] at ho18 | (simp only [Int.reduceToNat] at ho18; rw [← Ny359.out] at ho18))
             have HO361 := Aside0.mk (Kd.R_lower ho18 (below_size (bel HB)))
             replace BK358 := Aside0.mk (bb BK358.out hb)
             replace HB := Aside0.mk (below_step (bel HB) hb)
             clear hb ho18;obtain ⟨Ao19, co19, eo19⟩ := Kd.R_slice HO361.out;subst eo19
             obtain ⟨ado19, fo19, _⟩ := Kd.at_string (Kd.R_reads' HO361.out).2.2 0 (by decide) (by rw [Ny359.out]; simp)
             cases fo19
             refine hK.out _ _ ⟨.slice (some ado19) y359.length co19, ado19, m3_, (by rw [ha.out]; exact putSel_upk 0 hb_ rfl rfl rfl), bkp, (bel HB), fun _ => (by (with_reducible repeat (first | apply Kd.R_alloc | apply Kd.R_drewN | apply Kd.R_drew)); exact HO361.out), fun _ => ⟨_, rfl⟩, fun h0_ => absurd ((hoff 3 (by kernel_rfl)).symm.trans h0_) (by decide)⟩
            refine steps_cons ?_ ?_
            ·rintro b a w' ⟨v360, adz_v360, m3_, ha, Q_BK358, Q_HB, Q_HO361, Q_HA_HO361, Q_X3_⟩ hb_ hon hoff
             refine ⟨_, rfl, fun K hK => ?_⟩
             have e5 : a.tmps[5]? = some (.pointer (some ⟨gb358, 0, none⟩)) := by rw [ha]; exact (putSel_off rfl).trans rfl
             replace ha := Aside0.mk ha;have BK358 := Aside0.mk Q_BK358;have HB := Aside0.mk Q_HB;have hc0_ : w'.cell? ⟨gb358, 0, none⟩ = some (.int .i64 a0_0) := (blk_cell BK358.out 0).trans rfl;have hc1_ : w'.cell? ⟨gb358, 1, none⟩ = some (.int .i64 a0_1) := (blk_cell BK358.out 1).trans rfl;have hc2_ : w'.cell? ⟨gb358, 2, none⟩ = some (.int .i64 a0_2) := (blk_cell BK358.out 2).trans rfl;have hc3_ : w'.cell? ⟨gb358, 3, none⟩ = some (.int .u32 a0_3) := (blk_cell BK358.out 3).trans rfl;have hc4_ : w'.cell? ⟨gb358, 4, none⟩ = some (.int .i64 a0_4) := (blk_cell BK358.out 4).trans rfl;have hc5_ : w'.cell? ⟨gb358, 5, none⟩ = some (.int .u32 a0_5) := (blk_cell BK358.out 5).trans rfl;have hc6_ : w'.cell? ⟨gb358, 6, none⟩ = some (.int .i64 a0_6) := (blk_cell BK358.out 6).trans rfl;have hc7_ : w'.cell? ⟨gb358, 7, none⟩ = some (.int .i64 a0_7) := (blk_cell BK358.out 7).trans rfl;have hc8_ : w'.cell? ⟨gb358, 8, none⟩ = some (.int .u16 a0_8) := (blk_cell BK358.out 8).trans rfl;have hc9_ : w'.cell? ⟨gb358, 9, none⟩ = some (.int .u16 a0_9) := (blk_cell BK358.out 9).trans rfl;have hc10_ : w'.cell? ⟨gb358, 10, none⟩ = some (.int .u16 a0_10) := (blk_cell BK358.out 10).trans rfl;have hc11_ : w'.cell? ⟨gb358, 11, none⟩ = some (.int .u16 a0_11) := (blk_cell BK358.out 11).trans rfl
             refine value_ (w1 := w') (v := .int .i64 a0_0) (by rfl) rfl ?_ ?_
             ·go_simp
              (try simp only [i64_w])
              try rfl
             refine hK.out _ _ ⟨v360, adz_v360, m3_, (by rw [ha.out]; exact putSel_upk 1 hb_ rfl rfl rfl), Q_BK358, Q_HB, Q_HO361, Q_HA_HO361, fun h0_ => absurd ((hoff 3 (by kernel_rfl)).symm.trans h0_) (by decide)⟩
            refine steps_cons ?_ ?_
            ·rintro b a w' ⟨v360, adz_v360, m3_, ha, Q_BK358, Q_HB, Q_HO361, Q_HA_HO361, Q_X3_⟩ hb_ hon hoff
             refine ⟨_, rfl, fun K hK => ?_⟩
             have e4 : a.tmps[4]? = some (v360) := by rw [ha]; exact putSel_on (e := (0, 4, v360)) 0 rfl rfl (hon 0 (by kernel_rfl)) rfl
             have e6 : a.tmps[6]? = some (.int .i64 a0_0) := by rw [ha]; exact putSel_on (e := (2, 6, .int .i64 a0_0)) 1 rfl rfl (hon 2 (by kernel_rfl)) rfl
             replace ha := Aside0.mk ha;have BK358 := Aside0.mk Q_BK358;have HB := Aside0.mk Q_HB
             have HO361 := Aside0.mk (Q_HO361 (hon 0 (by kernel_rfl)))
             have HA_HO361 := Aside0.mk (Q_HA_HO361 (hon 0 (by kernel_rfl)))
             obtain ⟨c_, hv_⟩ := HA_HO361.out;rw [hv_] at e4
             refine value_ (w1 := w') (v := .pointer (some (adz_v360.add (a0_0).toNat))) (by rfl) rfl ?_ ?_
             ·go_simp
              (try simp only [i64_w])
              try rfl
             refine hK.out _ _ ⟨v360, adz_v360, (.pointer (some (adz_v360.add (a0_0).toNat))), (by rw [ha.out]; exact putSel_upk 2 hb_ rfl rfl rfl), Q_BK358, Q_HB, Q_HO361, Q_HA_HO361, fun _ => rfl⟩
            refine steps_cons ?_ ?_
            ·rintro b a w' ⟨v360, adz_v360, m3_, ha, Q_BK358, Q_HB, Q_HO361, Q_HA_HO361, Q_X3_⟩ hb_ hon hoff
             refine ⟨_, rfl, fun K hK => ?_⟩
             have e7 : a.tmps[7]? = some (m3_) := by rw [ha]; exact putSel_on (e := (3, 7, m3_)) 2 rfl rfl (hon 3 (by kernel_rfl)) rfl
             rw [Q_X3_ (hon 3 (by kernel_rfl))] at e7
             replace ha := Aside0.mk ha;have BK358 := Aside0.mk Q_BK358;have HB := Aside0.mk Q_HB
             have HO361 := Aside0.mk (Q_HO361 (hon 0 (by kernel_rfl)))
             have HA_HO361 := Aside0.mk (Q_HA_HO361 (hon 0 (by kernel_rfl)))
             obtain ⟨c_, hv_⟩ := HA_HO361.out;have hF_ := HO361.out;rw [hv_] at hF_;obtain ⟨ad_, ea_, hx_⟩ := Kd.at_string (Kd.R_reads' hF_).2.2 a0_0 (of_eq_true pi362) (of_eq_true qi362)
             cases ea_
             refine value_ (w1 := w') (v := .string (rdOf ByteArray.empty y359 a0_0)) (by rfl) rfl ?_ ?_
             ·go_simp
              (try simp only [i64_w])
              try rfl
             refine hK.out _ _ ⟨v360, adz_v360, m3_, (by rw [ha.out]; exact putSel_upk 3 hb_ rfl rfl rfl), Q_BK358, Q_HB, Q_HO361, Q_HA_HO361, Q_X3_⟩
            refine steps_cons ?_ ?_
            ·rintro b a w' ⟨v360, adz_v360, m3_, ha, Q_BK358, Q_HB, Q_HO361, Q_HA_HO361, Q_X3_⟩ hb_ hon hoff
             refine ⟨_, rfl, fun K hK => ?_⟩
             have e8 : a.tmps[8]? = some (.string (rdOf ByteArray.empty y359 a0_0)) := by rw [ha]; exact putSel_on (e := (4, 8, .string (rdOf ByteArray.empty y359 a0_0))) 3 rfl rfl (hon 4 (by kernel_rfl)) rfl
             replace ha := Aside0.mk ha;have BK358 := Aside0.mk Q_BK358;have HB := Aside0.mk Q_HB
             have HO361 := Aside0.mk (Q_HO361 (hon 0 (by kernel_rfl)))
             have HA_HO361 := Aside0.mk (Q_HA_HO361 (hon 0 (by kernel_rfl)))
             refine value_ (w1 := w') (v := .string ((⟨#[97, 115, 107, 32]⟩ : ByteArray) ++ (rdOf ByteArray.empty y359 a0_0))) (by rfl) rfl ?_ ?_
             ·go_simp
              (try simp only [i64_w])
              try rfl
             refine hK.out _ _ ⟨v360, adz_v360, m3_, (by rw [ha.out]; exact putSel_upk 4 hb_ rfl rfl rfl), Q_BK358, Q_HB, Q_HO361, Q_HA_HO361, Q_X3_⟩
            refine steps_cons ?_ ?_
            ·rintro b a w' ⟨v360, adz_v360, m3_, ha, Q_BK358, Q_HB, Q_HO361, Q_HA_HO361, Q_X3_⟩ hb_ hon hoff
             refine ⟨_, rfl, fun K hK => ?_⟩
             have e9 : a.tmps[9]? = some (.string ((⟨#[97, 115, 107, 32]⟩ : ByteArray) ++ (rdOf ByteArray.empty y359 a0_0))) := by rw [ha]; exact putSel_on (e := (5, 9, .string ((⟨#[97, 115, 107, 32]⟩ : ByteArray) ++ (rdOf ByteArray.empty y359 a0_0)))) 4 rfl rfl (hon 5 (by kernel_rfl)) rfl
             replace ha := Aside0.mk ha;have BK358 := Aside0.mk Q_BK358;have HB := Aside0.mk Q_HB
             have HO361 := Aside0.mk (Q_HO361 (hon 0 (by kernel_rfl)))
             have HA_HO361 := Aside0.mk (Q_HA_HO361 (hon 0 (by kernel_rfl)))
             refine value_ (w1 := w') (v := .string (((⟨#[97, 115, 107, 32]⟩ : ByteArray) ++ (rdOf ByteArray.empty y359 a0_0)) ++ (⟨#[32]⟩ : ByteArray))) (by rfl) rfl ?_ ?_
             ·go_simp
              (try simp only [i64_w])
              try rfl
             refine hK.out _ _ ⟨v360, adz_v360, m3_, (by rw [ha.out]; exact putSel_upk 5 hb_ rfl rfl rfl), Q_BK358, Q_HB, Q_HO361, Q_HA_HO361, Q_X3_⟩
            refine steps_cons ?_ ?_
            ·rintro b a w' ⟨v360, adz_v360, m3_, ha, Q_BK358, Q_HB, Q_HO361, Q_HA_HO361, Q_X3_⟩ hb_ hon hoff
             refine ⟨_, rfl, fun K hK => ?_⟩
             have e11 : a.tmps[11]? = some (.pointer (some ⟨gb358, 1, none⟩)) := by rw [ha]; exact (putSel_off rfl).trans rfl
             replace ha := Aside0.mk ha;have BK358 := Aside0.mk Q_BK358;have HB := Aside0.mk Q_HB;have hc0_ : w'.cell? ⟨gb358, 0, none⟩ = some (.int .i64 a0_0) := (blk_cell BK358.out 0).trans rfl;have hc1_ : w'.cell? ⟨gb358, 1, none⟩ = some (.int .i64 a0_1) := (blk_cell BK358.out 1).trans rfl;have hc2_ : w'.cell? ⟨gb358, 2, none⟩ = some (.int .i64 a0_2) := (blk_cell BK358.out 2).trans rfl;have hc3_ : w'.cell? ⟨gb358, 3, none⟩ = some (.int .u32 a0_3) := (blk_cell BK358.out 3).trans rfl;have hc4_ : w'.cell? ⟨gb358, 4, none⟩ = some (.int .i64 a0_4) := (blk_cell BK358.out 4).trans rfl;have hc5_ : w'.cell? ⟨gb358, 5, none⟩ = some (.int .u32 a0_5) := (blk_cell BK358.out 5).trans rfl;have hc6_ : w'.cell? ⟨gb358, 6, none⟩ = some (.int .i64 a0_6) := (blk_cell BK358.out 6).trans rfl;have hc7_ : w'.cell? ⟨gb358, 7, none⟩ = some (.int .i64 a0_7) := (blk_cell BK358.out 7).trans rfl;have hc8_ : w'.cell? ⟨gb358, 8, none⟩ = some (.int .u16 a0_8) := (blk_cell BK358.out 8).trans rfl;have hc9_ : w'.cell? ⟨gb358, 9, none⟩ = some (.int .u16 a0_9) := (blk_cell BK358.out 9).trans rfl;have hc10_ : w'.cell? ⟨gb358, 10, none⟩ = some (.int .u16 a0_10) := (blk_cell BK358.out 10).trans rfl;have hc11_ : w'.cell? ⟨gb358, 11, none⟩ = some (.int .u16 a0_11) := (blk_cell BK358.out 11).trans rfl
             refine value_ (w1 := w') (v := .int .i64 a0_1) (by rfl) rfl ?_ ?_
             ·go_simp
              (try simp only [i64_w])
              try rfl
             refine hK.out _ _ ⟨v360, adz_v360, m3_, (by rw [ha.out]; exact putSel_upk 6 hb_ rfl rfl rfl), Q_BK358, Q_HB, Q_HO361, Q_HA_HO361, Q_X3_⟩
            refine steps_cons ?_ ?_
            ·rintro b a w' ⟨v360, adz_v360, m3_, ha, Q_BK358, Q_HB, Q_HO361, Q_HA_HO361, Q_X3_⟩ hb_ hon hoff
             refine ⟨_, rfl, fun K hK => ?_⟩
             have e12 : a.tmps[12]? = some (.int .i64 a0_1) := by rw [ha]; exact putSel_on (e := (8, 12, .int .i64 a0_1)) 6 rfl rfl (hon 8 (by kernel_rfl)) rfl
             replace ha := Aside0.mk ha;have BK358 := Aside0.mk Q_BK358;have HB := Aside0.mk Q_HB
             refine goes_ Tryd.func78 (by kernel_rfl) rfl #[.int .i64 a0_1] (by rfl) rfl rfl (by first | (simp only [List.map_toArray, List.map_cons, List.map_nil, Act.eval, Array.getD_eq_getD_getElem?, Option.getD_some, e12]; done) | (simp only [List.map_toArray, List.map_cons, List.map_nil, Act.eval, Array.getD_eq_getD_getElem?, Option.getD_some, e12]; rfl)) ?_
             with_reducible refine (crossbuckref25_n.calls k a0_1 t363 _ A6.out).mono ?_;rintro e w17 ⟨rfl, hb⟩;refine ⟨_, rfl, ?_⟩;have n0_ := Aside0.mk (bb BK358.out hb)
             have n1_ := Aside0.mk (below_step (bel HB) hb)
             have z_HO361 := fun (h0_ : b 0 = true) => (show Kd.R Kd.string 9 w17 w.heap.size (fun _ => True) v360 y359 from by first | exact (Kd.R_below (by (with_reducible repeat (first | apply Kd.R_alloc | apply Kd.R_drewN | apply Kd.R_drew)); exact (Q_HO361 h0_)) hb) | exact Kd.R_mono (Kd.R_below (by (with_reducible repeat (first | apply Kd.R_alloc | apply Kd.R_drewN | apply Kd.R_drew)); exact (Q_HO361 h0_)) hb) (fun _ h_ => by first | trivial | exact h_ | exact h_.1))
             clear BK358;clear HB;have BK358 := n0_;have HB := n1_;clear n0_ n1_;(try clear hb);(try clear hb2);(try clear hk);(try clear hi)
             refine hK.out _ _ ⟨v360, adz_v360, m3_, (by rw [ha.out]; exact putSel_upk 7 hb_ rfl rfl rfl), bkp, (bel HB), z_HO361, Q_HA_HO361, Q_X3_⟩
            refine steps_cons ?_ ?_
            ·rintro b a w' ⟨v360, adz_v360, m3_, ha, Q_BK358, Q_HB, Q_HO361, Q_HA_HO361, Q_X3_⟩ hb_ hon hoff
             refine ⟨_, rfl, fun K hK => ?_⟩
             have e10 : a.tmps[10]? = some (.string (((⟨#[97, 115, 107, 32]⟩ : ByteArray) ++ (rdOf ByteArray.empty y359 a0_0)) ++ (⟨#[32]⟩ : ByteArray))) := by rw [ha]; exact putSel_on (e := (6, 10, .string (((⟨#[97, 115, 107, 32]⟩ : ByteArray) ++ (rdOf ByteArray.empty y359 a0_0)) ++ (⟨#[32]⟩ : ByteArray)))) 5 rfl rfl (hon 6 (by kernel_rfl)) rfl
             have e13 : a.tmps[13]? = some (.string t363) := by rw [ha]; exact putSel_on (e := (9, 13, .string t363)) 7 rfl rfl (hon 9 (by kernel_rfl)) rfl
             replace ha := Aside0.mk ha;have BK358 := Aside0.mk Q_BK358;have HB := Aside0.mk Q_HB
             have HO361 := Aside0.mk (Q_HO361 (hon 0 (by kernel_rfl)))
             have HA_HO361 := Aside0.mk (Q_HA_HO361 (hon 0 (by kernel_rfl)))
             refine value_ (w1 := w') (v := .string ((((⟨#[97, 115, 107, 32]⟩ : ByteArray) ++ (rdOf ByteArray.empty y359 a0_0)) ++ (⟨#[32]⟩ : ByteArray)) ++ t363)) (by rfl) rfl ?_ ?_
             ·go_simp
              (try simp only [i64_w])
              try rfl
             refine hK.out _ _ ⟨v360, adz_v360, m3_, (by rw [ha.out]; exact putSel_upk 8 hb_ rfl rfl rfl), Q_BK358, Q_HB, Q_HO361, Q_HA_HO361, Q_X3_⟩
            refine steps_cons ?_ ?_
            ·rintro b a w' ⟨v360, adz_v360, m3_, ha, Q_BK358, Q_HB, Q_HO361, Q_HA_HO361, Q_X3_⟩ hb_ hon hoff
             refine ⟨_, rfl, fun K hK => ?_⟩
             have e14 : a.tmps[14]? = some (.string ((((⟨#[97, 115, 107, 32]⟩ : ByteArray) ++ (rdOf ByteArray.empty y359 a0_0)) ++ (⟨#[32]⟩ : ByteArray)) ++ t363)) := by rw [ha]; exact putSel_on (e := (10, 14, .string ((((⟨#[97, 115, 107, 32]⟩ : ByteArray) ++ (rdOf ByteArray.empty y359 a0_0)) ++ (⟨#[32]⟩ : ByteArray)) ++ t363))) 8 rfl rfl (hon 10 (by kernel_rfl)) rfl
             replace ha := Aside0.mk ha;have BK358 := Aside0.mk Q_BK358;have HB := Aside0.mk Q_HB
             have HO361 := Aside0.mk (Q_HO361 (hon 0 (by kernel_rfl)))
             have HA_HO361 := Aside0.mk (Q_HA_HO361 (hon 0 (by kernel_rfl)))
             refine value_ (w1 := w') (v := .string ((((⟨#[97, 115, 107, 32]⟩ : ByteArray) ++ (rdOf ByteArray.empty y359 a0_0)) ++ (⟨#[32]⟩ : ByteArray)) ++ t363)) (by rfl) rfl ?_ ?_
             ·go_simp
              (try simp only [i64_w])
              try rfl
             refine hK.out _ _ ⟨v360, adz_v360, m3_, (by rw [ha.out]; exact putSel_upk 9 hb_ rfl rfl rfl), Q_BK358, Q_HB, Q_HO361, Q_HA_HO361, Q_X3_⟩
            exact steps_nil
           rintro b a w21 hall ⟨v360, adz_v360, m3_, ha, Q_BK358, Q_HB, Q_HO361, Q_HA_HO361, Q_X3_⟩;clear BK358 HB
           have hb0_ := hall 0 (by kernel_rfl)
           have hb2_ := hall 2 (by kernel_rfl)
           have hb3_ := hall 3 (by kernel_rfl)
           have hb4_ := hall 4 (by kernel_rfl)
           have hb5_ := hall 5 (by kernel_rfl)
           have hb6_ := hall 6 (by kernel_rfl)
           have hb8_ := hall 8 (by kernel_rfl)
           have hb9_ := hall 9 (by kernel_rfl)
           have hb10_ := hall 10 (by kernel_rfl)
           have hb11_ := hall 11 (by kernel_rfl)
           subst ha;obtain rfl := Q_X3_ hb3_;simp only [putSel, hb0_, hb2_, hb3_, hb4_, hb5_, hb6_, hb8_, hb9_, hb10_, hb11_, if_true, Act.put, setIfInBounds_toArray, set_cons_zero, set_cons_succ];have BK358 := Aside0.mk Q_BK358;clear Q_BK358;have HB := Aside0.mk Q_HB;clear Q_HB;have HO361 := Aside0.mk (Q_HO361 hb0_);clear Q_HO361;have HA_HO361 := Aside0.mk (Q_HA_HO361 hb0_);clear Q_HA_HO361;clear hall hb0_ hb2_ hb3_ hb4_ hb5_ hb6_ hb8_ hb9_ hb10_ hb11_;obtain ⟨co22, eo22⟩ := HA_HO361.out;clear HA_HO361;subst eo22;have hcz23 := cz12 BK358.out
           try go_wp2_with (first | ((with_reducible refine gate_callee (f := 78) rfl ?_); refine goesL_ (some 22) rfl rfl Tryd.func78 (by kernel_rfl) rfl #[.int .i64 a0_2] rfl aok ?_; (with_reducible refine (crossbuckref25_n.calls k a0_2 t364 _ A10.out).mono ?_); rintro e w24 ⟨rfl, hb⟩; refine ⟨_, rfl, ?_⟩; have n0_ := Aside0.mk (Kd.R_below (by (with_reducible repeat (first | apply Kd.R_alloc | apply Kd.R_drewN | apply Kd.R_drew)); exact HO361.out) hb); have n1_ := Aside0.mk (bb BK358.out hb); have n2_ := Aside0.mk (below_step (bel HB) hb); clear HO361; clear BK358; clear HB; have HO361 := n0_; have BK358 := n1_; have HB := n2_; clear n0_ n1_ n2_; (try clear hb); (try clear hb2); (try clear hk); (try clear hi); have hcz25 := cz12 BK358.out) | ((with_reducible refine gate_callee (f := 67) rfl ?_); refine goesL_ (some 28) rfl rfl Tryd.func67 (by kernel_rfl) rfl #[.agg #[.int .u32 a0_3, .int .i64 a0_4, .int .u32 a0_5, .int .i64 a0_6, .int .i64 a0_7, .int .u16 a0_8, .int .u16 a0_9, .int .u16 a0_10, .int .u16 a0_11]] rfl aok ?_; (with_reducible refine (crossbuckref04_Print.calls k a0_3 a0_4 a0_5 a0_6 a0_7 a0_8 a0_9 a0_10 a0_11 t365 _ A13.out).mono ?_); rintro e w26 ⟨rfl, hb⟩; refine ⟨_, rfl, ?_⟩; have n0_ := Aside0.mk (Kd.R_below (by (with_reducible repeat (first | apply Kd.R_alloc | apply Kd.R_drewN | apply Kd.R_drew)); exact HO361.out) hb); have n1_ := Aside0.mk (bb BK358.out hb); have n2_ := Aside0.mk (below_step (bel HB) hb); clear HO361; clear BK358; clear HB; have HO361 := n0_; have BK358 := n1_; have HB := n2_; clear n0_ n1_ n2_; (try clear hb); (try clear hb2); (try clear hk); (try clear hi)))
           go_ret
           exact ⟨by first | rfl | (simp [errW_none, errW_some] <;> rfl) | (simp [*, errW_none, errW_some] <;> rfl), bel HB⟩
          ·rw [if_neg c14] at H
           exact absurd H (by simp)
         ·rw [if_neg c12] at H
          exact absurd H (by simp)
        ·rw [if_neg c11] at H
         exact absurd H (by simp)
       ·rw [if_neg c9] at H
        exact absurd H (by simp)
      ·rw [if_neg c8] at H
       have c8b0 : (a0_0 == 0) = false := beq_eq_false_iff_ne.mpr c8;have c8b1 : (a0_0 != 0) = true := bne_iff_ne.mpr c8
       by_cases c27 : ((((⟨#[97, 115, 107, 32]⟩ : ByteArray) ++ (rdOf ByteArray.empty y359 a0_0)) ++ (⟨#[32]⟩ : ByteArray)) ++ t363).size + 1 ≤ 9223372036854775807
       ·rw [if_pos c27] at H
        have c27b0 := eq_true c27;have c27b1 : decide (((((⟨#[97, 115, 107, 32]⟩ : ByteArray) ++ (rdOf ByteArray.empty y359 a0_0)) ++ (⟨#[32]⟩ : ByteArray)) ++ t363).size + 1 ≤ 9223372036854775807) = true := decide_eq_true c27
        try have c27b2 : (9223372036854775807 < ((((⟨#[97, 115, 107, 32]⟩ : ByteArray) ++ (rdOf ByteArray.empty y359 a0_0)) ++ (⟨#[32]⟩ : ByteArray)) ++ t363).size + 1) = False := eq_false (Nat.not_lt.2 c27)
        try have c27b3 := c27b2
        try simp only [ByteArray.size_append, Hand.lit_size, List.length_cons, List.length_nil, Nat.zero_add, Nat.reduceAdd] at c27b3
        replace H := Option.bind_eq_some_iff.mp H;obtain ⟨t366, A280, H⟩ := H;replace H : (if (((((⟨#[97, 115, 107, 32]⟩ : ByteArray) ++ (rdOf ByteArray.empty y359 a0_0)) ++ (⟨#[32]⟩ : ByteArray)) ++ t363) ++ (⟨#[32]⟩ : ByteArray)).size + t366.size ≤ 9223372036854775807 then (some ((((((⟨#[97, 115, 107, 32]⟩ : ByteArray) ++ (rdOf ByteArray.empty y359 a0_0)) ++ (⟨#[32]⟩ : ByteArray)) ++ t363) ++ (⟨#[32]⟩ : ByteArray)) ++ t366)) else (none)) = some r := H;have A28 := Aside0.mk A280;clear A280
        by_cases c29 : (((((⟨#[97, 115, 107, 32]⟩ : ByteArray) ++ (rdOf ByteArray.empty y359 a0_0)) ++ (⟨#[32]⟩ : ByteArray)) ++ t363) ++ (⟨#[32]⟩ : ByteArray)).size + t366.size ≤ 9223372036854775807
        ·rw [if_pos c29] at H
         have c29b0 := eq_true c29;have c29b1 : decide ((((((⟨#[97, 115, 107, 32]⟩ : ByteArray) ++ (rdOf ByteArray.empty y359 a0_0)) ++ (⟨#[32]⟩ : ByteArray)) ++ t363) ++ (⟨#[32]⟩ : ByteArray)).size + t366.size ≤ 9223372036854775807) = true := decide_eq_true c29
         try have c29b2 : (9223372036854775807 < (((((⟨#[97, 115, 107, 32]⟩ : ByteArray) ++ (rdOf ByteArray.empty y359 a0_0)) ++ (⟨#[32]⟩ : ByteArray)) ++ t363) ++ (⟨#[32]⟩ : ByteArray)).size + t366.size) = False := eq_false (Nat.not_lt.2 c29)
         try have c29b3 := c29b2
         try simp only [ByteArray.size_append, Hand.lit_size, List.length_cons, List.length_nil, Nat.zero_add, Nat.reduceAdd] at c29b3
         obtain rfl := Option.some.inj H;go_enter Tryd.func103, Tryd.ntmps103
         try go_wp2_with (first | ((with_reducible refine gate_dst (N := 1) rfl ?_); refine box_event rfl (N := 1) rfl (cs := #[.int .i64 a0_0, .int .i64 a0_1, .int .i64 a0_2, .int .u32 a0_3, .int .i64 a0_4, .int .u32 a0_5, .int .i64 a0_6, .int .i64 a0_7, .int .u16 a0_8, .int .u16 a0_9, .int .u16 a0_10, .int .u16 a0_11]) (t := 113) gs ?_; intro gb358 hg w30 hbox hb; have n0_ := Aside0.mk (below_step (bel HB) hb); have n1_ := Aside0.mk (hbox); have n2_ := Aside0.mk ((by rw [hg]; exact (below_size (bel HB)) : w.heap.size ≤ gb358)); have n3_ := Aside0.mk ((by rw [hg]; exact (below_size (bel HB)) : w.heap.size ≤ gb358)); clear HB; have HB := n0_; have BK358 := n1_; have GW358 := n2_; have GE358 := n3_; clear n0_ n1_ n2_ n3_; clear hb hbox hg))
         have pi362 : (0 ≤ (a0_0 : Int)) = True := eq_true (of_decide_eq_true (by first | (with_reducible assumption) | assumption))
         have qi362 : (a0_0 < (y359.length : Int)) = True := eq_true (of_decide_eq_true (by first | (with_reducible assumption) | assumption))
         replace BK358 := Aside0.mk (blk_drew BK358.out);replace HB := Aside0.mk (below_drew1 HB.out)
         refine start_ (n := 12) (S := fun w' => True) (ds := []) #[F,F,F,F,F,F,F,F,F,F,F,F] (by kernel_rfl) rfl rfl trivial (fun hHeld => ?_); refine with_tabW crossbuckref25_Query.tab1 crossbuckref25_Query.bits1 (fun HT_ HW_ => ?_)
         generalize w30.drew = w31 at BK358 HB hHeld ⊢
         refine pure_ (i := 1) (N := some 5) (v := ?_) (a' := ?_) #[F,T,F,F,F,F,F,F,F,F,F,F] rfl rfl (any_of HT_.out (by kernel_rfl)) (fun _ _ _ h => h) (Or.inl ⟨by rfl, ?_⟩) ?_ ?_
         rotate_left;·intro w';go_simp;with_reducible rfl
         rotate_left;·simp only [Act.put, setIfInBounds_toArray, set_cons_zero, set_cons_succ, i64_w, i32_w];rfl
         refine pure_ (i := 7) (N := some 11) (v := ?_) (a' := ?_) #[F,T,F,F,F,F,F,T,F,F,F,F] rfl rfl (any_of HT_.out (by kernel_rfl)) (fun _ _ _ h => h) (Or.inl ⟨by rfl, ?_⟩) ?_ ?_
         rotate_left;·intro w';go_simp;with_reducible rfl
         rotate_left;·simp only [Act.put, setIfInBounds_toArray, set_cons_zero, set_cons_succ, i64_w, i32_w];rfl
         refine inv_at [0, 2, 3, 4, 5, 6, 8, 9, 10, 11] (fun a0_ b a w' => ∃ (v360 : Value) (adz_v360 : Addr) (m3_ : Value), a = putSel a0_ b [(0, 4, v360), (2, 6, .int .i64 a0_0), (3, 7, m3_), (4, 8, .string (rdOf ByteArray.empty y359 a0_0)), (5, 9, .string ((⟨#[97, 115, 107, 32]⟩ : ByteArray) ++ (rdOf ByteArray.empty y359 a0_0))), (6, 10, .string (((⟨#[97, 115, 107, 32]⟩ : ByteArray) ++ (rdOf ByteArray.empty y359 a0_0)) ++ (⟨#[32]⟩ : ByteArray))), (8, 12, .int .i64 a0_1), (9, 13, .string t363), (10, 14, .string ((((⟨#[97, 115, 107, 32]⟩ : ByteArray) ++ (rdOf ByteArray.empty y359 a0_0)) ++ (⟨#[32]⟩ : ByteArray)) ++ t363)), (11, 3, .string ((((⟨#[97, 115, 107, 32]⟩ : ByteArray) ++ (rdOf ByteArray.empty y359 a0_0)) ++ (⟨#[32]⟩ : ByteArray)) ++ t363))] ∧ (w'.heap[gb358]? = some (.cells #[.int .i64 a0_0, .int .i64 a0_1, .int .i64 a0_2, .int .u32 a0_3, .int .i64 a0_4, .int .u32 a0_5, .int .i64 a0_6, .int .i64 a0_7, .int .u16 a0_8, .int .u16 a0_9, .int .u16 a0_10, .int .u16 a0_11] 113 (0, 0))) ∧ (Below w.heap.size w w') ∧ (b 0 = true → Kd.R Kd.string 9 w' w.heap.size (fun _ => True) v360 y359) ∧ (b 0 = true → ∃ c_, (v360 : Value) = .slice (some adz_v360) y359.length c_) ∧ (b 3 = true → (m3_ : Value) = .pointer (some (adz_v360.add (a0_0).toNat)))) HT_.out HW_.out (by kernel_rfl) (by kernel_rfl) ?_ ?_ ?_
         ·exact ⟨.bool false, ⟨0, 0, none⟩, .bool false, by simp only [putSel, Bool.false_eq_true, if_false], BK358.out, HB.out, fun h_ => absurd h_ (by decide), fun h_ => absurd h_ (by decide), fun h_ => absurd h_ (by decide)⟩
         ·skip
          clear BK358 HB;refine steps_cons ?_ ?_
          ·rintro b a w' ⟨v360, adz_v360, m3_, ha, Q_BK358, Q_HB, Q_HO361, Q_HA_HO361, Q_X3_⟩ hb_ hon hoff
           refine ⟨_, rfl, fun K hK => ?_⟩
           replace ha := Aside0.mk ha;have BK358 := Aside0.mk Q_BK358;have HB := Aside0.mk Q_HB
           refine Kd.R_lit_step Kd.string _ 9 ?hg (N := 4) ?hd (xs := ([(⟨#[114, 101, 97, 99, 104]⟩ : ByteArray), (⟨#[108, 111, 111, 112]⟩ : ByteArray), (⟨#[104, 111, 108, 101]⟩ : ByteArray), (⟨#[100, 114, 111, 112]⟩ : ByteArray), (⟨#[100, 101, 110, 105, 101, 100]⟩ : ByteArray), (⟨#[108, 101, 102, 116]⟩ : ByteArray)] : List ByteArray)) (inner := [.string (⟨#[114, 101, 97, 99, 104]⟩ : ByteArray), .string (⟨#[108, 111, 111, 112]⟩ : ByteArray), .string (⟨#[104, 111, 108, 101]⟩ : ByteArray), .string (⟨#[100, 114, 111, 112]⟩ : ByteArray), .string (⟨#[100, 101, 110, 105, 101, 100]⟩ : ByteArray), .string (⟨#[108, 101, 102, 116]⟩ : ByteArray)]) (ok := fun _ => True) (okp := fun _ => True) ?hr ?hp (fun _ hk => hk) trivial (Below.refl _ _) (Nat.le_refl _) (by simp) ?_; (case hd => rfl); (case hg => rfl); (case hr => first | (go_simp; done) | (go_simp; rfl)); (case hp => exact (Reps.one (show Kd.M Kd.string _ _ _ (⟨#[114, 101, 97, 99, 104]⟩ : ByteArray) [.string (⟨#[114, 101, 97, 99, 104]⟩ : ByteArray)] from rfl) (Reps.one (show Kd.M Kd.string _ _ _ (⟨#[108, 111, 111, 112]⟩ : ByteArray) [.string (⟨#[108, 111, 111, 112]⟩ : ByteArray)] from rfl) (Reps.one (show Kd.M Kd.string _ _ _ (⟨#[104, 111, 108, 101]⟩ : ByteArray) [.string (⟨#[104, 111, 108, 101]⟩ : ByteArray)] from rfl) (Reps.one (show Kd.M Kd.string _ _ _ (⟨#[100, 114, 111, 112]⟩ : ByteArray) [.string (⟨#[100, 114, 111, 112]⟩ : ByteArray)] from rfl) (Reps.one (show Kd.M Kd.string _ _ _ (⟨#[100, 101, 110, 105, 101, 100]⟩ : ByteArray) [.string (⟨#[100, 101, 110, 105, 101, 100]⟩ : ByteArray)] from rfl) (Reps.one (show Kd.M Kd.string _ _ _ (⟨#[108, 101, 102, 116]⟩ : ByteArray) [.string (⟨#[108, 101, 102, 116]⟩ : ByteArray)] from rfl) (Reps.none _ _))))))))
           intro v360 w32 ho33 hb hg_ hnew_
           clear hg_ hnew_;(first | rw [← Ny359.out] at ho33 | (simp only [Int.reduceToNat] at ho33; rw [← Ny359.out] at ho33))
           have HO361 := Aside0.mk (Kd.R_lower ho33 (below_size (bel HB)))
           replace BK358 := Aside0.mk (bb BK358.out hb)
           replace HB := Aside0.mk (below_step (bel HB) hb)
           clear hb ho33;obtain ⟨Ao34, co34, eo34⟩ := Kd.R_slice HO361.out;subst eo34
           obtain ⟨ado34, fo34, _⟩ := Kd.at_string (Kd.R_reads' HO361.out).2.2 0 (by decide) (by rw [Ny359.out]; simp)
           cases fo34
           refine hK.out _ _ ⟨.slice (some ado34) y359.length co34, ado34, m3_, (by rw [ha.out]; exact putSel_upk 0 hb_ rfl rfl rfl), bkp, (bel HB), fun _ => (by (with_reducible repeat (first | apply Kd.R_alloc | apply Kd.R_drewN | apply Kd.R_drew)); exact HO361.out), fun _ => ⟨_, rfl⟩, fun h0_ => absurd ((hoff 3 (by kernel_rfl)).symm.trans h0_) (by decide)⟩
          refine steps_cons ?_ ?_
          ·rintro b a w' ⟨v360, adz_v360, m3_, ha, Q_BK358, Q_HB, Q_HO361, Q_HA_HO361, Q_X3_⟩ hb_ hon hoff
           refine ⟨_, rfl, fun K hK => ?_⟩
           have e5 : a.tmps[5]? = some (.pointer (some ⟨gb358, 0, none⟩)) := by rw [ha]; exact (putSel_off rfl).trans rfl
           replace ha := Aside0.mk ha;have BK358 := Aside0.mk Q_BK358;have HB := Aside0.mk Q_HB;have hc0_ : w'.cell? ⟨gb358, 0, none⟩ = some (.int .i64 a0_0) := (blk_cell BK358.out 0).trans rfl;have hc1_ : w'.cell? ⟨gb358, 1, none⟩ = some (.int .i64 a0_1) := (blk_cell BK358.out 1).trans rfl;have hc2_ : w'.cell? ⟨gb358, 2, none⟩ = some (.int .i64 a0_2) := (blk_cell BK358.out 2).trans rfl;have hc3_ : w'.cell? ⟨gb358, 3, none⟩ = some (.int .u32 a0_3) := (blk_cell BK358.out 3).trans rfl;have hc4_ : w'.cell? ⟨gb358, 4, none⟩ = some (.int .i64 a0_4) := (blk_cell BK358.out 4).trans rfl;have hc5_ : w'.cell? ⟨gb358, 5, none⟩ = some (.int .u32 a0_5) := (blk_cell BK358.out 5).trans rfl;have hc6_ : w'.cell? ⟨gb358, 6, none⟩ = some (.int .i64 a0_6) := (blk_cell BK358.out 6).trans rfl;have hc7_ : w'.cell? ⟨gb358, 7, none⟩ = some (.int .i64 a0_7) := (blk_cell BK358.out 7).trans rfl;have hc8_ : w'.cell? ⟨gb358, 8, none⟩ = some (.int .u16 a0_8) := (blk_cell BK358.out 8).trans rfl;have hc9_ : w'.cell? ⟨gb358, 9, none⟩ = some (.int .u16 a0_9) := (blk_cell BK358.out 9).trans rfl;have hc10_ : w'.cell? ⟨gb358, 10, none⟩ = some (.int .u16 a0_10) := (blk_cell BK358.out 10).trans rfl;have hc11_ : w'.cell? ⟨gb358, 11, none⟩ = some (.int .u16 a0_11) := (blk_cell BK358.out 11).trans rfl
           refine value_ (w1 := w') (v := .int .i64 a0_0) (by rfl) rfl ?_ ?_
           ·go_simp
            (try simp only [i64_w])
            try rfl
           refine hK.out _ _ ⟨v360, adz_v360, m3_, (by rw [ha.out]; exact putSel_upk 1 hb_ rfl rfl rfl), Q_BK358, Q_HB, Q_HO361, Q_HA_HO361, fun h0_ => absurd ((hoff 3 (by kernel_rfl)).symm.trans h0_) (by decide)⟩
          refine steps_cons ?_ ?_
          ·rintro b a w' ⟨v360, adz_v360, m3_, ha, Q_BK358, Q_HB, Q_HO361, Q_HA_HO361, Q_X3_⟩ hb_ hon hoff
           refine ⟨_, rfl, fun K hK => ?_⟩
           have e4 : a.tmps[4]? = some (v360) := by rw [ha]; exact putSel_on (e := (0, 4, v360)) 0 rfl rfl (hon 0 (by kernel_rfl)) rfl
           have e6 : a.tmps[6]? = some (.int .i64 a0_0) := by rw [ha]; exact putSel_on (e := (2, 6, .int .i64 a0_0)) 1 rfl rfl (hon 2 (by kernel_rfl)) rfl
           replace ha := Aside0.mk ha;have BK358 := Aside0.mk Q_BK358;have HB := Aside0.mk Q_HB
           have HO361 := Aside0.mk (Q_HO361 (hon 0 (by kernel_rfl)))
           have HA_HO361 := Aside0.mk (Q_HA_HO361 (hon 0 (by kernel_rfl)))
           obtain ⟨c_, hv_⟩ := HA_HO361.out;rw [hv_] at e4
           refine value_ (w1 := w') (v := .pointer (some (adz_v360.add (a0_0).toNat))) (by rfl) rfl ?_ ?_
           ·go_simp
            (try simp only [i64_w])
            try rfl
           refine hK.out _ _ ⟨v360, adz_v360, (.pointer (some (adz_v360.add (a0_0).toNat))), (by rw [ha.out]; exact putSel_upk 2 hb_ rfl rfl rfl), Q_BK358, Q_HB, Q_HO361, Q_HA_HO361, fun _ => rfl⟩
          refine steps_cons ?_ ?_
          ·rintro b a w' ⟨v360, adz_v360, m3_, ha, Q_BK358, Q_HB, Q_HO361, Q_HA_HO361, Q_X3_⟩ hb_ hon hoff
           refine ⟨_, rfl, fun K hK => ?_⟩
           have e7 : a.tmps[7]? = some (m3_) := by rw [ha]; exact putSel_on (e := (3, 7, m3_)) 2 rfl rfl (hon 3 (by kernel_rfl)) rfl
           rw [Q_X3_ (hon 3 (by kernel_rfl))] at e7
           replace ha := Aside0.mk ha;have BK358 := Aside0.mk Q_BK358;have HB := Aside0.mk Q_HB
           have HO361 := Aside0.mk (Q_HO361 (hon 0 (by kernel_rfl)))
           have HA_HO361 := Aside0.mk (Q_HA_HO361 (hon 0 (by kernel_rfl)))
           obtain ⟨c_, hv_⟩ := HA_HO361.out;have hF_ := HO361.out;rw [hv_] at hF_;obtain ⟨ad_, ea_, hx_⟩ := Kd.at_string (Kd.R_reads' hF_).2.2 a0_0 (of_eq_true pi362) (of_eq_true qi362)
           cases ea_
           refine value_ (w1 := w') (v := .string (rdOf ByteArray.empty y359 a0_0)) (by rfl) rfl ?_ ?_
           ·go_simp
            (try simp only [i64_w])
            try rfl
           refine hK.out _ _ ⟨v360, adz_v360, m3_, (by rw [ha.out]; exact putSel_upk 3 hb_ rfl rfl rfl), Q_BK358, Q_HB, Q_HO361, Q_HA_HO361, Q_X3_⟩
          refine steps_cons ?_ ?_
          ·rintro b a w' ⟨v360, adz_v360, m3_, ha, Q_BK358, Q_HB, Q_HO361, Q_HA_HO361, Q_X3_⟩ hb_ hon hoff
           refine ⟨_, rfl, fun K hK => ?_⟩
           have e8 : a.tmps[8]? = some (.string (rdOf ByteArray.empty y359 a0_0)) := by rw [ha]; exact putSel_on (e := (4, 8, .string (rdOf ByteArray.empty y359 a0_0))) 3 rfl rfl (hon 4 (by kernel_rfl)) rfl
           replace ha := Aside0.mk ha;have BK358 := Aside0.mk Q_BK358;have HB := Aside0.mk Q_HB
           have HO361 := Aside0.mk (Q_HO361 (hon 0 (by kernel_rfl)))
           have HA_HO361 := Aside0.mk (Q_HA_HO361 (hon 0 (by kernel_rfl)))
           refine value_ (w1 := w') (v := .string ((⟨#[97, 115, 107, 32]⟩ : ByteArray) ++ (rdOf ByteArray.empty y359 a0_0))) (by rfl) rfl ?_ ?_
           ·go_simp
            (try simp only [i64_w])
            try rfl
           refine hK.out _ _ ⟨v360, adz_v360, m3_, (by rw [ha.out]; exact putSel_upk 4 hb_ rfl rfl rfl), Q_BK358, Q_HB, Q_HO361, Q_HA_HO361, Q_X3_⟩
          refine steps_cons ?_ ?_
          ·rintro b a w' ⟨v360, adz_v360, m3_, ha, Q_BK358, Q_HB, Q_HO361, Q_HA_HO361, Q_X3_⟩ hb_ hon hoff
           refine ⟨_, rfl, fun K hK => ?_⟩
           have e9 : a.tmps[9]? = some (.string ((⟨#[97, 115, 107, 32]⟩ : ByteArray) ++ (rdOf ByteArray.empty y359 a0_0))) := by rw [ha]; exact putSel_on (e := (5, 9, .string ((⟨#[97, 115, 107, 32]⟩ : ByteArray) ++ (rdOf ByteArray.empty y359 a0_0)))) 4 rfl rfl (hon 5 (by kernel_rfl)) rfl
           replace ha := Aside0.mk ha;have BK358 := Aside0.mk Q_BK358;have HB := Aside0.mk Q_HB
           have HO361 := Aside0.mk (Q_HO361 (hon 0 (by kernel_rfl)))
           have HA_HO361 := Aside0.mk (Q_HA_HO361 (hon 0 (by kernel_rfl)))
           refine value_ (w1 := w') (v := .string (((⟨#[97, 115, 107, 32]⟩ : ByteArray) ++ (rdOf ByteArray.empty y359 a0_0)) ++ (⟨#[32]⟩ : ByteArray))) (by rfl) rfl ?_ ?_
           ·go_simp
            (try simp only [i64_w])
            try rfl
           refine hK.out _ _ ⟨v360, adz_v360, m3_, (by rw [ha.out]; exact putSel_upk 5 hb_ rfl rfl rfl), Q_BK358, Q_HB, Q_HO361, Q_HA_HO361, Q_X3_⟩
          refine steps_cons ?_ ?_
          ·rintro b a w' ⟨v360, adz_v360, m3_, ha, Q_BK358, Q_HB, Q_HO361, Q_HA_HO361, Q_X3_⟩ hb_ hon hoff
           refine ⟨_, rfl, fun K hK => ?_⟩
           have e11 : a.tmps[11]? = some (.pointer (some ⟨gb358, 1, none⟩)) := by rw [ha]; exact (putSel_off rfl).trans rfl
           replace ha := Aside0.mk ha;have BK358 := Aside0.mk Q_BK358;have HB := Aside0.mk Q_HB;have hc0_ : w'.cell? ⟨gb358, 0, none⟩ = some (.int .i64 a0_0) := (blk_cell BK358.out 0).trans rfl;have hc1_ : w'.cell? ⟨gb358, 1, none⟩ = some (.int .i64 a0_1) := (blk_cell BK358.out 1).trans rfl;have hc2_ : w'.cell? ⟨gb358, 2, none⟩ = some (.int .i64 a0_2) := (blk_cell BK358.out 2).trans rfl;have hc3_ : w'.cell? ⟨gb358, 3, none⟩ = some (.int .u32 a0_3) := (blk_cell BK358.out 3).trans rfl;have hc4_ : w'.cell? ⟨gb358, 4, none⟩ = some (.int .i64 a0_4) := (blk_cell BK358.out 4).trans rfl;have hc5_ : w'.cell? ⟨gb358, 5, none⟩ = some (.int .u32 a0_5) := (blk_cell BK358.out 5).trans rfl;have hc6_ : w'.cell? ⟨gb358, 6, none⟩ = some (.int .i64 a0_6) := (blk_cell BK358.out 6).trans rfl;have hc7_ : w'.cell? ⟨gb358, 7, none⟩ = some (.int .i64 a0_7) := (blk_cell BK358.out 7).trans rfl;have hc8_ : w'.cell? ⟨gb358, 8, none⟩ = some (.int .u16 a0_8) := (blk_cell BK358.out 8).trans rfl;have hc9_ : w'.cell? ⟨gb358, 9, none⟩ = some (.int .u16 a0_9) := (blk_cell BK358.out 9).trans rfl;have hc10_ : w'.cell? ⟨gb358, 10, none⟩ = some (.int .u16 a0_10) := (blk_cell BK358.out 10).trans rfl;have hc11_ : w'.cell? ⟨gb358, 11, none⟩ = some (.int .u16 a0_11) := (blk_cell BK358.out 11).trans rfl
           refine value_ (w1 := w') (v := .int .i64 a0_1) (by rfl) rfl ?_ ?_
           ·go_simp
            (try simp only [i64_w])
            try rfl
           refine hK.out _ _ ⟨v360, adz_v360, m3_, (by rw [ha.out]; exact putSel_upk 6 hb_ rfl rfl rfl), Q_BK358, Q_HB, Q_HO361, Q_HA_HO361, Q_X3_⟩
          refine steps_cons ?_ ?_
          ·rintro b a w' ⟨v360, adz_v360, m3_, ha, Q_BK358, Q_HB, Q_HO361, Q_HA_HO361, Q_X3_⟩ hb_ hon hoff
           refine ⟨_, rfl, fun K hK => ?_⟩
           have e12 : a.tmps[12]? = some (.int .i64 a0_1) := by rw [ha]; exact putSel_on (e := (8, 12, .int .i64 a0_1)) 6 rfl rfl (hon 8 (by kernel_rfl)) rfl
           replace ha := Aside0.mk ha;have BK358 := Aside0.mk Q_BK358;have HB := Aside0.mk Q_HB
           refine goes_ Tryd.func78 (by kernel_rfl) rfl #[.int .i64 a0_1] (by rfl) rfl rfl (by first | (simp only [List.map_toArray, List.map_cons, List.map_nil, Act.eval, Array.getD_eq_getD_getElem?, Option.getD_some, e12]; done) | (simp only [List.map_toArray, List.map_cons, List.map_nil, Act.eval, Array.getD_eq_getD_getElem?, Option.getD_some, e12]; rfl)) ?_
           with_reducible refine (crossbuckref25_n.calls k a0_1 t363 _ A6.out).mono ?_;rintro e w32 ⟨rfl, hb⟩;refine ⟨_, rfl, ?_⟩;have n0_ := Aside0.mk (bb BK358.out hb)
           have n1_ := Aside0.mk (below_step (bel HB) hb)
           have z_HO361 := fun (h0_ : b 0 = true) => (show Kd.R Kd.string 9 w32 w.heap.size (fun _ => True) v360 y359 from by first | exact (Kd.R_below (by (with_reducible repeat (first | apply Kd.R_alloc | apply Kd.R_drewN | apply Kd.R_drew)); exact (Q_HO361 h0_)) hb) | exact Kd.R_mono (Kd.R_below (by (with_reducible repeat (first | apply Kd.R_alloc | apply Kd.R_drewN | apply Kd.R_drew)); exact (Q_HO361 h0_)) hb) (fun _ h_ => by first | trivial | exact h_ | exact h_.1))
           clear BK358;clear HB;have BK358 := n0_;have HB := n1_;clear n0_ n1_;(try clear hb);(try clear hb2);(try clear hk);(try clear hi)
           refine hK.out _ _ ⟨v360, adz_v360, m3_, (by rw [ha.out]; exact putSel_upk 7 hb_ rfl rfl rfl), bkp, (bel HB), z_HO361, Q_HA_HO361, Q_X3_⟩
          refine steps_cons ?_ ?_
          ·rintro b a w' ⟨v360, adz_v360, m3_, ha, Q_BK358, Q_HB, Q_HO361, Q_HA_HO361, Q_X3_⟩ hb_ hon hoff
           refine ⟨_, rfl, fun K hK => ?_⟩
           have e10 : a.tmps[10]? = some (.string (((⟨#[97, 115, 107, 32]⟩ : ByteArray) ++ (rdOf ByteArray.empty y359 a0_0)) ++ (⟨#[32]⟩ : ByteArray))) := by rw [ha]; exact putSel_on (e := (6, 10, .string (((⟨#[97, 115, 107, 32]⟩ : ByteArray) ++ (rdOf ByteArray.empty y359 a0_0)) ++ (⟨#[32]⟩ : ByteArray)))) 5 rfl rfl (hon 6 (by kernel_rfl)) rfl
           have e13 : a.tmps[13]? = some (.string t363) := by rw [ha]; exact putSel_on (e := (9, 13, .string t363)) 7 rfl rfl (hon 9 (by kernel_rfl)) rfl
           replace ha := Aside0.mk ha;have BK358 := Aside0.mk Q_BK358;have HB := Aside0.mk Q_HB
           have HO361 := Aside0.mk (Q_HO361 (hon 0 (by kernel_rfl)))
           have HA_HO361 := Aside0.mk (Q_HA_HO361 (hon 0 (by kernel_rfl)))
           refine value_ (w1 := w') (v := .string ((((⟨#[97, 115, 107, 32]⟩ : ByteArray) ++ (rdOf ByteArray.empty y359 a0_0)) ++ (⟨#[32]⟩ : ByteArray)) ++ t363)) (by rfl) rfl ?_ ?_
           ·go_simp
            (try simp only [i64_w])
            try rfl
           refine hK.out _ _ ⟨v360, adz_v360, m3_, (by rw [ha.out]; exact putSel_upk 8 hb_ rfl rfl rfl), Q_BK358, Q_HB, Q_HO361, Q_HA_HO361, Q_X3_⟩
          refine steps_cons ?_ ?_
          ·rintro b a w' ⟨v360, adz_v360, m3_, ha, Q_BK358, Q_HB, Q_HO361, Q_HA_HO361, Q_X3_⟩ hb_ hon hoff
           refine ⟨_, rfl, fun K hK => ?_⟩
           have e14 : a.tmps[14]? = some (.string ((((⟨#[97, 115, 107, 32]⟩ : ByteArray) ++ (rdOf ByteArray.empty y359 a0_0)) ++ (⟨#[32]⟩ : ByteArray)) ++ t363)) := by rw [ha]; exact putSel_on (e := (10, 14, .string ((((⟨#[97, 115, 107, 32]⟩ : ByteArray) ++ (rdOf ByteArray.empty y359 a0_0)) ++ (⟨#[32]⟩ : ByteArray)) ++ t363))) 8 rfl rfl (hon 10 (by kernel_rfl)) rfl
           replace ha := Aside0.mk ha;have BK358 := Aside0.mk Q_BK358;have HB := Aside0.mk Q_HB
           have HO361 := Aside0.mk (Q_HO361 (hon 0 (by kernel_rfl)))
           have HA_HO361 := Aside0.mk (Q_HA_HO361 (hon 0 (by kernel_rfl)))
           refine value_ (w1 := w') (v := .string ((((⟨#[97, 115, 107, 32]⟩ : ByteArray) ++ (rdOf ByteArray.empty y359 a0_0)) ++ (⟨#[32]⟩ : ByteArray)) ++ t363)) (by rfl) rfl ?_ ?_
           ·go_simp
            (try simp only [i64_w])
            try rfl
           refine hK.out _ _ ⟨v360, adz_v360, m3_, (by rw [ha.out]; exact putSel_upk 9 hb_ rfl rfl rfl), Q_BK358, Q_HB, Q_HO361, Q_HA_HO361, Q_X3_⟩
          exact steps_nil
         rintro b a w36 hall ⟨v360, adz_v360, m3_, ha, Q_BK358, Q_HB, Q_HO361, Q_HA_HO361, Q_X3_⟩;clear BK358 HB
         have hb0_ := hall 0 (by kernel_rfl)
         have hb2_ := hall 2 (by kernel_rfl)
         have hb3_ := hall 3 (by kernel_rfl)
         have hb4_ := hall 4 (by kernel_rfl)
         have hb5_ := hall 5 (by kernel_rfl)
         have hb6_ := hall 6 (by kernel_rfl)
         have hb8_ := hall 8 (by kernel_rfl)
         have hb9_ := hall 9 (by kernel_rfl)
         have hb10_ := hall 10 (by kernel_rfl)
         have hb11_ := hall 11 (by kernel_rfl)
         subst ha;obtain rfl := Q_X3_ hb3_;simp only [putSel, hb0_, hb2_, hb3_, hb4_, hb5_, hb6_, hb8_, hb9_, hb10_, hb11_, if_true, Act.put, setIfInBounds_toArray, set_cons_zero, set_cons_succ];have BK358 := Aside0.mk Q_BK358;clear Q_BK358;have HB := Aside0.mk Q_HB;clear Q_HB;have HO361 := Aside0.mk (Q_HO361 hb0_);clear Q_HO361;have HA_HO361 := Aside0.mk (Q_HA_HO361 hb0_);clear Q_HA_HO361;clear hall hb0_ hb2_ hb3_ hb4_ hb5_ hb6_ hb8_ hb9_ hb10_ hb11_;obtain ⟨co37, eo37⟩ := HA_HO361.out;clear HA_HO361;subst eo37;have hcz38 := cz12 BK358.out
         try go_wp2_with (first | ((with_reducible refine gate_callee (f := 67) rfl ?_); refine goesL_ (some 28) rfl rfl Tryd.func67 (by kernel_rfl) rfl #[.agg #[.int .u32 a0_3, .int .i64 a0_4, .int .u32 a0_5, .int .i64 a0_6, .int .i64 a0_7, .int .u16 a0_8, .int .u16 a0_9, .int .u16 a0_10, .int .u16 a0_11]] rfl aok ?_; (with_reducible refine (crossbuckref04_Print.calls k a0_3 a0_4 a0_5 a0_6 a0_7 a0_8 a0_9 a0_10 a0_11 t366 _ A28.out).mono ?_); rintro e w39 ⟨rfl, hb⟩; refine ⟨_, rfl, ?_⟩; have n0_ := Aside0.mk (Kd.R_below (by (with_reducible repeat (first | apply Kd.R_alloc | apply Kd.R_drewN | apply Kd.R_drew)); exact HO361.out) hb); have n1_ := Aside0.mk (bb BK358.out hb); have n2_ := Aside0.mk (below_step (bel HB) hb); clear HO361; clear BK358; clear HB; have HO361 := n0_; have BK358 := n1_; have HB := n2_; clear n0_ n1_ n2_; (try clear hb); (try clear hb2); (try clear hk); (try clear hi)))
         go_ret
         exact ⟨by first | rfl | (simp [errW_none, errW_some] <;> rfl) | (simp [*, errW_none, errW_some] <;> rfl), bel HB⟩
        ·rw [if_neg c29] at H
         exact absurd H (by simp)
       ·rw [if_neg c27] at H
        exact absurd H (by simp)
     ·rw [if_neg c7] at H
      exact absurd H (by simp)
    ·rw [if_neg c5] at H
     exact absurd H (by simp)
   ·rw [if_neg c4] at H
    exact absurd H (by simp)
  ·rw [if_neg c3] at H
   exact absurd H (by simp)
 ·rw [if_neg c2] at H
  exact absurd H (by simp)

end Go.Proofs.YtloclimoffhbhaaDoor.PSca
