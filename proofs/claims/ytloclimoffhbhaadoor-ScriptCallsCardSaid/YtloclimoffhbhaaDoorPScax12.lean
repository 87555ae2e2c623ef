-- Written by wip/myprint.py and wip/merge.py (this session's own programs); Lean checks it.
-- halved
import Derived.Test.YtloclimoffhbhaaDoorSq6
import Derived.Test.YtloclimoffhbhaaDoorPScax0
import Derived.Test.YtloclimoffhbhaaDoorPScax11
namespace Go.Proofs.YtloclimoffhbhaaDoor.PSca
open Go.RowKit Go.Proofs.YtloclimoffhbhaaDoorW.PrintWords Go.Proofs.YtloclimoffhbhaaDoorW.PrintLast Go.Proofs.YtloclimoffhbhaaDoorW.PrintMore Go.Proofs.YtloclimoffhbhaaDoorW.PrintSq List
attribute [local go_sem] max2_int min2_int max_two min_two max_three min_three max_four min_four   -- for this text's walks alone
set_option linter.unusedVariables false
set_option linter.unusedSimpArgs false

/-! ### crossbuckref25_Change: function 69 -/
def crossbuckref25_Change.j0 : Nat → ByteArray → Bool → Int → Int → Int → Int → Int → Int → Option (ByteArray)
 | 0, _, _, _, _, _, _, _, _ => none
 | k + 1, x3, x311000, x311001, x311002, x311003, x311004, x311005, x311006 => (crossbuckref25_n.f k x311001).bind fun t313 => (if 4 + t313.size ≤ 9223372036854775807 then (if ((⟨#[97, 100, 100, 32]⟩ : ByteArray) ++ t313).size + 1 ≤ 9223372036854775807 then ((crossbuckref25_n.f k x311002).bind fun t314 => (if (((⟨#[97, 100, 100, 32]⟩ : ByteArray) ++ t313) ++ (⟨#[32]⟩ : ByteArray)).size + t314.size ≤ 9223372036854775807 then (if ((((⟨#[97, 100, 100, 32]⟩ : ByteArray) ++ t313) ++ (⟨#[32]⟩ : ByteArray)) ++ t314).size + 1 ≤ 9223372036854775807 then ((crossbuckref03_Print.f k x311003 x311004).bind fun t315 => (if (((((⟨#[97, 100, 100, 32]⟩ : ByteArray) ++ t313) ++ (⟨#[32]⟩ : ByteArray)) ++ t314) ++ (⟨#[32]⟩ : ByteArray)).size + t315.size ≤ 9223372036854775807 then (if ((((((⟨#[97, 100, 100, 32]⟩ : ByteArray) ++ t313) ++ (⟨#[32]⟩ : ByteArray)) ++ t314) ++ (⟨#[32]⟩ : ByteArray)) ++ t315).size + 1 ≤ 9223372036854775807 then ((crossbuckref25_n.f k x311005).bind fun t316 => (if (((((((⟨#[97, 100, 100, 32]⟩ : ByteArray) ++ t313) ++ (⟨#[32]⟩ : ByteArray)) ++ t314) ++ (⟨#[32]⟩ : ByteArray)) ++ t315) ++ (⟨#[32]⟩ : ByteArray)).size + t316.size ≤ 9223372036854775807 then (if ((((((((⟨#[97, 100, 100, 32]⟩ : ByteArray) ++ t313) ++ (⟨#[32]⟩ : ByteArray)) ++ t314) ++ (⟨#[32]⟩ : ByteArray)) ++ t315) ++ (⟨#[32]⟩ : ByteArray)) ++ t316).size + 1 ≤ 9223372036854775807 then (if (((((((((⟨#[97, 100, 100, 32]⟩ : ByteArray) ++ t313) ++ (⟨#[32]⟩ : ByteArray)) ++ t314) ++ (⟨#[32]⟩ : ByteArray)) ++ t315) ++ (⟨#[32]⟩ : ByteArray)) ++ t316) ++ (⟨#[32]⟩ : ByteArray)).size + x3.size ≤ 9223372036854775807 then (some ((((((((((⟨#[97, 100, 100, 32]⟩ : ByteArray) ++ t313) ++ (⟨#[32]⟩ : ByteArray)) ++ t314) ++ (⟨#[32]⟩ : ByteArray)) ++ t315) ++ (⟨#[32]⟩ : ByteArray)) ++ t316) ++ (⟨#[32]⟩ : ByteArray)) ++ x3)) else (none)) else (none)) else (none))) else (none)) else (none))) else (none)) else (none))) else (none)) else (none))
def crossbuckref25_Change.f (k : Nat) (a0_0 : Bool) (a0_1 : Int) (a0_2 : Int) (a0_3 : Int) (a0_4 : Int) (a0_5 : Int) (a0_6 : Int) : Option (ByteArray) := if a0_0 = true then ((crossbuckref25_n.f k a0_1).bind fun t311 => (if 4 + t311.size ≤ 9223372036854775807 then (some ((⟨#[100, 101, 108, 32]⟩ : ByteArray) ++ t311)) else (none))) else (if a0_6 ≥ 0 then ((crossbuckref25_n.f k a0_6).bind fun t312 => (crossbuckref25_Change.j0 k t312 a0_0 a0_1 a0_2 a0_3 a0_4 a0_5 a0_6)) else (crossbuckref25_Change.j0 k (⟨#[100, 114, 111, 112]⟩ : ByteArray) a0_0 a0_1 a0_2 a0_3 a0_4 a0_5 a0_6))
def crossbuckref25_Change.T6 : Bool × List (List Nat × List Nat) := (true, [([], []), ([0], [0]), ([1], [1]), ([2], [2]), ([3], [3]), ([4], [4]), ([], []), ([6], [6]), ([7], [7]), ([8, 3], [8]), ([5, 9], [5, 9]), ([10], [10]), ([], []), ([12], [12]), ([13], [13]), ([14, 9], [14]), ([11, 15], [11, 15]), ([16], [16]), ([], []), ([18], [18]), ([19], [19]), ([20, 15], [20]), ([17, 21], [17, 21]), ([22], [22]), ([], []), ([23, 24], [23, 24]), ([25, 21, 0, 1, 2, 3, 4, 5, 6, 7, 8, 9, 10, 11, 12, 13, 14, 15, 16, 17, 18, 19, 20, 21, 22, 23, 24, 25], [25])])
def crossbuckref25_Change.B6 : List Nat := [0, 1, 3, 7, 15, 31, 0, 64, 192, 463, 1023, 2047, 0, 4096, 12288, 29647, 65535, 131071, 0, 262144, 786432, 1897423, 4194303, 8388607, 0, 33554431, 67108863]
theorem crossbuckref25_Change.tab6 : rtab .any (opsOf Tryd.f69 6) = crossbuckref25_Change.T6 := by kernel_rfl
theorem crossbuckref25_Change.bits6 : waitsOk crossbuckref25_Change.T6.2 crossbuckref25_Change.B6 = true := by kernel_rfl
set_option maxHeartbeats 8000000 in
set_option maxRecDepth 100000 in
theorem crossbuckref25_Change.calls (k : Nat) (a0_0 : Bool) (a0_1 : Int) (a0_2 : Int) (a0_3 : Int) (a0_4 : Int) (a0_5 : Int) (a0_6 : Int) (r : ByteArray) (w : World) (h : crossbuckref25_Change.f k a0_0 a0_1 a0_2 a0_3 a0_4 a0_5 a0_6 = some r) :
  Calls Tryd.prog 69 #[.agg #[.bool a0_0, .int .i64 a0_1, .int .i64 a0_2, .int .u32 a0_3, .int .i64 a0_4, .int .i64 a0_5, .int .i64 a0_6]] w fun e w' => e = .returned (.string r) ∧ Below w.heap.size w w' := by
 have hu46 := Tryd.underlying46;have hu42 := Tryd.underlying42;have HB := Aside0.mk (Below.refl w.heap.size w)
 have H : (if a0_0 = true then ((crossbuckref25_n.f k a0_1).bind fun t311 => (if 4 + t311.size ≤ 9223372036854775807 then (some ((⟨#[100, 101, 108, 32]⟩ : ByteArray) ++ t311)) else (none))) else (if a0_6 ≥ 0 then ((crossbuckref25_n.f k a0_6).bind fun t312 => (crossbuckref25_Change.j0 k t312 a0_0 a0_1 a0_2 a0_3 a0_4 a0_5 a0_6)) else (crossbuckref25_Change.j0 k (⟨#[100, 114, 111, 112]⟩ : ByteArray) a0_0 a0_1 a0_2 a0_3 a0_4 a0_5 a0_6))) = some r := h
 clear h
 by_cases c2 : a0_0 = true
 ·subst c2
  have H1 : ((crossbuckref25_n.f k a0_1).bind fun t311 => (if 4 + t311.size ≤ 9223372036854775807 then (some ((⟨#[100, 101, 108, 32]⟩ : ByteArray) ++ t311)) else (none))) = some r := by rw [if_pos rfl] at H; exact H
  clear H;have H := H1;clear H1;replace H := Option.bind_eq_some_iff.mp H;obtain ⟨t311, A30, H⟩ := H;replace H : (if 4 + t311.size ≤ 9223372036854775807 then (some ((⟨#[100, 101, 108, 32]⟩ : ByteArray) ++ t311)) else (none)) = some r := H;have A3 := Aside0.mk A30;clear A30
  by_cases c4 : 4 + t311.size ≤ 9223372036854775807
  ·rw [if_pos c4] at H
   have c4b0 := eq_true c4;have c4b1 : decide (4 + t311.size ≤ 9223372036854775807) = true := decide_eq_true c4
   try have c4b2 : (9223372036854775807 < 4 + t311.size) = False := eq_false (Nat.not_lt.2 c4)
   obtain rfl := Option.some.inj H;go_enter Tryd.func69, Tryd.ntmps69
   go_wp2_with (first | ((with_reducible refine gate_dst (N := 1) rfl ?_); refine box_event rfl (N := 1) rfl (cs := #[.bool true, .int .i64 a0_1, .int .i64 a0_2, .int .u32 a0_3, .int .i64 a0_4, .int .i64 a0_5, .int .i64 a0_6]) (t := 46) gs ?_; intro gb310 hg w5 hbox hb; have n0_ := Aside0.mk (below_step (bel HB) hb); have n1_ := Aside0.mk (hbox); have n2_ := Aside0.mk ((by rw [hg]; exact (below_size (bel HB)) : w.heap.size ≤ gb310)); have n3_ := Aside0.mk ((by rw [hg]; exact (below_size (bel HB)) : w.heap.size ≤ gb310)); clear HB; have HB := n0_; have BK310 := n1_; have GW310 := n2_; have GE310 := n3_; clear n0_ n1_ n2_ n3_; clear hb hbox hg; have hcz6 := cz7 BK310.out) | ((with_reducible refine gate_callee (f := 78) rfl ?_); refine goesL_ (some 9) rfl rfl Tryd.func78 (by kernel_rfl) rfl #[.int .i64 a0_1] rfl aok ?_; (with_reducible refine (crossbuckref25_n.calls k a0_1 t311 _ A3.out).mono ?_); rintro e w7 ⟨rfl, hb⟩; refine ⟨_, rfl, ?_⟩; have n0_ := Aside0.mk (bb BK310.out hb); have n1_ := Aside0.mk (below_step (bel HB) hb); clear BK310; clear HB; have BK310 := n0_; have HB := n1_; clear n0_ n1_; (try clear hb); (try clear hb2); (try clear hk); (try clear hi)))
   go_ret
   exact ⟨by first | rfl | (simp [errW_none, errW_some] <;> rfl) | (simp [*, errW_none, errW_some] <;> rfl), bel HB⟩
  ·rw [if_neg c4] at H
   exact absurd H (by simp)
 ·replace c2 := Bool.eq_false_iff.mpr c2
  subst c2
  have H1 : (if a0_6 ≥ 0 then ((crossbuckref25_n.f k a0_6).bind fun t312 => (crossbuckref25_Change.j0 k t312 false a0_1 a0_2 a0_3 a0_4 a0_5 a0_6)) else (crossbuckref25_Change.j0 k (⟨#[100, 114, 111, 112]⟩ : ByteArray) false a0_1 a0_2 a0_3 a0_4 a0_5 a0_6)) = some r := by rw [if_neg (show ¬ (false = true) by decide)] at H; exact H
  clear H;have H := H1;clear H1;have HC8 := Aside0.mk H;clear H;go_enter Tryd.func69, Tryd.ntmps69
  go_upto_if 14 with (first | ((with_reducible refine gate_dst (N := 1) rfl ?_); refine box_event rfl (N := 1) rfl (cs := #[.bool false, .int .i64 a0_1, .int .i64 a0_2, .int .u32 a0_3, .int .i64 a0_4, .int .i64 a0_5, .int .i64 a0_6]) (t := 46) gs ?_; intro gb310 hg w9 hbox hb; have n0_ := Aside0.mk (below_step (bel HB) hb); have n1_ := Aside0.mk (hbox); have n2_ := Aside0.mk ((by rw [hg]; exact (below_size (bel HB)) : w.heap.size ≤ gb310)); have n3_ := Aside0.mk ((by rw [hg]; exact (below_size (bel HB)) : w.heap.size ≤ gb310)); clear HB; have HB := n0_; have BK310 := n1_; have GW310 := n2_; have GE310 := n3_; clear n0_ n1_ n2_ n3_; clear hb hbox hg; have hcz10 := cz7 BK310.out))
  (try simp only [Act.put, setIfInBounds_toArray, set_cons_zero, set_cons_succ])
  go_cut [3] (fun v3 wc => ∃ (kq : Nat) (x3_7 : ByteArray), v3 = .string x3_7 ∧ Aside0 (crossbuckref25_Change.j0 kq x3_7 false a0_1 a0_2 a0_3 a0_4 a0_5 a0_6 = some r) ∧ Aside0 (kq ≤ k) ∧ Aside0 (wc.heap[gb310]? = some (.cells #[.bool false, .int .i64 a0_1, .int .i64 a0_2, .int .u32 a0_3, .int .i64 a0_4, .int .i64 a0_5, .int .i64 a0_6] 46 (0, 0))) ∧ Aside0 (Below w.heap.size w wc))
  case first =>
   have H := HC8.out;clear HC8
   by_cases c11 : a0_6 ≥ 0
   ·rw [if_pos c11] at H
    have c11b0 : decide (0 ≤ a0_6) = true := decide_eq_true c11;clear c11;(first | rw [c11b0] | (simp only [i64_w, i32_w]; rw [c11b0]) | skip);replace H := Option.bind_eq_some_iff.mp H;obtain ⟨t312, A120, H⟩ := H;replace H : (crossbuckref25_Change.j0 k t312 false a0_1 a0_2 a0_3 a0_4 a0_5 a0_6) = some r := H;have A12 := Aside0.mk A120;clear A120;have H' := Aside0.mk H;clear H;have hcz13 := cz7 BK310.out
    go_wp2_with (first | ((with_reducible refine gate_callee (f := 78) rfl ?_); refine goesL_ (some 18) rfl rfl Tryd.func78 (by kernel_rfl) rfl #[.int .i64 a0_6] rfl aok ?_; (with_reducible refine (crossbuckref25_n.calls k a0_6 t312 _ A12.out).mono ?_); rintro e w14 ⟨rfl, hb⟩; refine ⟨_, rfl, ?_⟩; have n0_ := Aside0.mk (bb BK310.out hb); have n1_ := Aside0.mk (below_step (bel HB) hb); clear BK310; clear HB; have BK310 := n0_; have HB := n1_; clear n0_ n1_; (try clear hb); (try clear hb2); (try clear hk); (try clear hi)))
    go_meet
    case rel => exact ⟨_, (t312), (by first | rfl | (simp; done) | (simp [*]; done)), H', ⟨by first | omega | exact Nat.le_refl _⟩, ⟨by (with_reducible repeat (first | refine blk_drewN ?_ _ | refine blk_drew ?_ | refine blk_alloc ?_ _)); exact BK310.out⟩, ⟨by repeat (first | (with_reducible first | exact HB.out | apply below_alloc | apply pw_below_drewN | apply below_drew1 | refine below_set ?_ GE310.out) | exact HB.out)⟩⟩
   ·rw [if_neg c11] at H
    have c11b0 : decide (0 ≤ a0_6) = false := decide_eq_false c11;clear c11;(first | rw [c11b0] | (simp only [i64_w, i32_w]; rw [c11b0]) | skip);have H' := Aside0.mk H;clear H;go_wp2;go_meet
    case rel => exact ⟨_, ((⟨#[100, 114, 111, 112]⟩ : ByteArray)), (by first | rfl | (simp; done) | (simp [*]; done)), H', ⟨by first | omega | exact Nat.le_refl _⟩, ⟨by (with_reducible repeat (first | refine blk_drewN ?_ _ | refine blk_drew ?_ | refine blk_alloc ?_ _)); exact BK310.out⟩, ⟨by repeat (first | (with_reducible first | exact HB.out | apply below_alloc | apply pw_below_drewN | apply below_drew1 | refine below_set ?_ GE310.out) | exact HB.out)⟩⟩
  case rest =>
   clear HC8
   try clear c1
   try clear c2
   try clear p2
   try clear c4
   try clear c4b0
   try clear c4b1
   try clear c4b2
   try clear c6
   try clear c7
   try clear c11
   try clear c11b0
   try clear hcz10
   try clear hcz13
   try clear hcz6
   obtain ⟨kq, x3_7, rfl, HA, HJ7, BK310, HB⟩ := hcut
   cases kq with
   | zero => exact absurd HA.out (by simp [crossbuckref25_Change.j0])
   | succ kj7 =>
    have H := HA.out;clear HA;simp only [crossbuckref25_Change.j0] at H;replace H := Option.bind_eq_some_iff.mp H;obtain ⟨t313, A150, H⟩ := H
    replace H : (if 4 + t313.size ≤ 9223372036854775807 then (if ((⟨#[97, 100, 100, 32]⟩ : ByteArray) ++ t313).size + 1 ≤ 9223372036854775807 then ((crossbuckref25_n.f kj7 a0_2).bind fun t314 => (if (((⟨#[97, 100, 100, 32]⟩ : ByteArray) ++ t313) ++ (⟨#[32]⟩ : ByteArray)).size + t314.size ≤ 9223372036854775807 then (if ((((⟨#[97, 100, 100, 32]⟩ : ByteArray) ++ t313) ++ (⟨#[32]⟩ : ByteArray)) ++ t314).size + 1 ≤ 9223372036854775807 then ((crossbuckref03_Print.f kj7 a0_3 a0_4).bind fun t315 => (if (((((⟨#[97, 100, 100, 32]⟩ : ByteArray) ++ t313) ++ (⟨#[32]⟩ : ByteArray)) ++ t314) ++ (⟨#[32]⟩ : ByteArray)).size + t315.size ≤ 9223372036854775807 then (if ((((((⟨#[97, 100, 100, 32]⟩ : ByteArray) ++ t313) ++ (⟨#[32]⟩ : ByteArray)) ++ t314) ++ (⟨#[32]⟩ : ByteArray)) ++ t315).size + 1 ≤ 9223372036854775807 then ((crossbuckref25_n.f kj7 a0_5).bind fun t316 => (if (((((((⟨#[97, 100, 100, 32]⟩ : ByteArray) ++ t313) ++ (⟨#[32]⟩ : ByteArray)) ++ t314) ++ (⟨#[32]⟩ : ByteArray)) ++ t315) ++ (⟨#[32]⟩ : ByteArray)).size + t316.size ≤ 9223372036854775807 then (if ((((((((⟨#[97, 100, 100, 32]⟩ : ByteArray) ++ t313) ++ (⟨#[32]⟩ : ByteArray)) ++ t314) ++ (⟨#[32]⟩ : ByteArray)) ++ t315) ++ (⟨#[32]⟩ : ByteArray)) ++ t316).size + 1 ≤ 9223372036854775807 then (if (((((((((⟨#[97, 100, 100, 32]⟩ : ByteArray) ++ t313) ++ (⟨#[32]⟩ : ByteArray)) ++ t314) ++ (⟨#[32]⟩ : ByteArray)) ++ t315) ++ (⟨#[32]⟩ : ByteArray)) ++ t316) ++ (⟨#[32]⟩ : ByteArray)).size + x3_7.size ≤ 9223372036854775807 then (some ((((((((((⟨#[97, 100, 100, 32]⟩ : ByteArray) ++ t313) ++ (⟨#[32]⟩ : ByteArray)) ++ t314) ++ (⟨#[32]⟩ : ByteArray)) ++ t315) ++ (⟨#[32]⟩ : ByteArray)) ++ t316) ++ (⟨#[32]⟩ : ByteArray)) ++ x3_7)) else (none)) else (none)) else (none))) else (none)) else (none))) else (none)) else (none))) else (none)) else (none)) = some r := H
    have A15 := Aside0.mk A150;clear A150
    by_cases c16 : 4 + t313.size ≤ 9223372036854775807
    ·rw [if_pos c16] at H
     have c16b0 := eq_true c16;have c16b1 : decide (4 + t313.size ≤ 9223372036854775807) = true := decide_eq_true c16
     try have c16b2 : (9223372036854775807 < 4 + t313.size) = False := eq_false (Nat.not_lt.2 c16)
     by_cases c17 : ((⟨#[97, 100, 100, 32]⟩ : ByteArray) ++ t313).size + 1 ≤ 9223372036854775807
     ·rw [if_pos c17] at H
      have c17b0 := eq_true c17;have c17b1 : decide (((⟨#[97, 100, 100, 32]⟩ : ByteArray) ++ t313).size + 1 ≤ 9223372036854775807) = true := decide_eq_true c17
      try have c17b2 : (9223372036854775807 < ((⟨#[97, 100, 100, 32]⟩ : ByteArray) ++ t313).size + 1) = False := eq_false (Nat.not_lt.2 c17)
      try have c17b3 := c17b2
      try simp only [ByteArray.size_append, Hand.lit_size, List.length_cons, List.length_nil, Nat.zero_add, Nat.reduceAdd] at c17b3
      replace H := Option.bind_eq_some_iff.mp H;obtain ⟨t314, A180, H⟩ := H
      replace H : (if (((⟨#[97, 100, 100, 32]⟩ : ByteArray) ++ t313) ++ (⟨#[32]⟩ : ByteArray)).size + t314.size ≤ 9223372036854775807 then (if ((((⟨#[97, 100, 100, 32]⟩ : ByteArray) ++ t313) ++ (⟨#[32]⟩ : ByteArray)) ++ t314).size + 1 ≤ 9223372036854775807 then ((crossbuckref03_Print.f kj7 a0_3 a0_4).bind fun t315 => (if (((((⟨#[97, 100, 100, 32]⟩ : ByteArray) ++ t313) ++ (⟨#[32]⟩ : ByteArray)) ++ t314) ++ (⟨#[32]⟩ : ByteArray)).size + t315.size ≤ 9223372036854775807 then (if ((((((⟨#[97, 100, 100, 32]⟩ : ByteArray) ++ t313) ++ (⟨#[32]⟩ : ByteArray)) ++ t314) ++ (⟨#[32]⟩ : ByteArray)) ++ t315).size + 1 ≤ 9223372036854775807 then ((crossbuckref25_n.f kj7 a0_5).bind fun t316 => (if (((((((⟨#[97, 100, 100, 32]⟩ : ByteArray) ++ t313) ++ (⟨#[32]⟩ : ByteArray)) ++ t314) ++ (⟨#[32]⟩ : ByteArray)) ++ t315) ++ (⟨#[32]⟩ : ByteArray)).size + t316.size ≤ 9223372036854775807 then (if ((((((((⟨#[97, 100, 100, 32]⟩ : ByteArray) ++ t313) ++ (⟨#[32]⟩ : ByteArray)) ++ t314) ++ (⟨#[32]⟩ : ByteArray)) ++ t315) ++ (⟨#[32]⟩ : ByteArray)) ++ t316).size + 1 ≤ 9223372036854775807 then (if (((((((((⟨#[97, 100, 100, 32]⟩ : ByteArray) ++ t313) ++ (⟨#[32]⟩ : ByteArray)) ++ t314) ++ (⟨#[32]⟩ : ByteArray)) ++ t315) ++ (⟨#[32]⟩ : ByteArray)) ++ t316) ++ (⟨#[32]⟩ : ByteArray)).size + x3_7.size ≤ 9223372036854775807 then (some ((((((((((⟨#[97, 100, 100, 32]⟩ : ByteArray) ++ t313) ++ (⟨#[32]⟩ : ByteArray)) ++ t314) ++ (⟨#[32]⟩ : ByteArray)) ++ t315) ++ (⟨#[32]⟩ : ByteArray)) ++ t316) ++ (⟨#[32]⟩ : ByteArray)) ++ x3_7)) else (none)) else (none)) else (none))) else (none)) else (none))) else (none)) else (none)) = some r := H
      have A18 := Aside0.mk A180;clear A180
      by_cases c19 : (((⟨#[97, 100, 100, 32]⟩ : ByteArray) ++ t313) ++ (⟨#[32]⟩ : ByteArray)).size + t314.size ≤ 9223372036854775807
      ·rw [if_pos c19] at H
       have c19b0 := eq_true c19;have c19b1 : decide ((((⟨#[97, 100, 100, 32]⟩ : ByteArray) ++ t313) ++ (⟨#[32]⟩ : ByteArray)).size + t314.size ≤ 9223372036854775807) = true := decide_eq_true c19
       try have c19b2 : (9223372036854775807 < (((⟨#[97, 100, 100, 32]⟩ : ByteArray) ++ t313) ++ (⟨#[32]⟩ : ByteArray)).size + t314.size) = False := eq_false (Nat.not_lt.2 c19)
       try have c19b3 := c19b2
       try simp only [ByteArray.size_append, Hand.lit_size, List.length_cons, List.length_nil, Nat.zero_add, Nat.reduceAdd] at c19b3
       by_cases c20 : ((((⟨#[97, 100, 100, 32]⟩ : ByteArray) ++ t313) ++ (⟨#[32]⟩ : ByteArray)) ++ t314).size + 1 ≤ 9223372036854775807
       ·rw [if_pos c20] at H
        have c20b0 := eq_true c20;have c20b1 : decide (((((⟨#[97, 100, 100, 32]⟩ : ByteArray) ++ t313) ++ (⟨#[32]⟩ : ByteArray)) ++ t314).size + 1 ≤ 9223372036854775807) = true := decide_eq_true c20
        try have c20b2 : (9223372036854775807 < ((((⟨#[97, 100, 100, 32]⟩ : ByteArray) ++ t313) ++ (⟨#[32]⟩ : ByteArray)) ++ t314).size + 1) = False := eq_false (Nat.not_lt.2 c20)
        try have c20b3 := c20b2
        try simp only [ByteArray.size_append, Hand.lit_size, List.length_cons, List.length_nil, Nat.zero_add, Nat.reduceAdd] at c20b3
        replace H := Option.bind_eq_some_iff.mp H;obtain ⟨t315, A210, H⟩ := H
        replace H : (if (((((⟨#[97, 100, 100, 32]⟩ : ByteArray) ++ t313) ++ (⟨#[32]⟩ : ByteArray)) ++ t314) ++ (⟨#[32]⟩ : ByteArray)).size + t315.size ≤ 9223372036854775807 then (if ((((((⟨#[97, 100, 100, 32]⟩ : ByteArray) ++ t313) ++ (⟨#[32]⟩ : ByteArray)) ++ t314) ++ (⟨#[32]⟩ : ByteArray)) ++ t315).size + 1 ≤ 9223372036854775807 then ((crossbuckref25_n.f kj7 a0_5).bind fun t316 => (if (((((((⟨#[97, 100, 100, 32]⟩ : ByteArray) ++ t313) ++ (⟨#[32]⟩ : ByteArray)) ++ t314) ++ (⟨#[32]⟩ : ByteArray)) ++ t315) ++ (⟨#[32]⟩ : ByteArray)).size + t316.size ≤ 9223372036854775807 then (if ((((((((⟨#[97, 100, 100, 32]⟩ : ByteArray) ++ t313) ++ (⟨#[32]⟩ : ByteArray)) ++ t314) ++ (⟨#[32]⟩ : ByteArray)) ++ t315) ++ (⟨#[32]⟩ : ByteArray)) ++ t316).size + 1 ≤ 9223372036854775807 then (if (((((((((⟨#[97, 100, 100, 32]⟩ : ByteArray) ++ t313) ++ (⟨#[32]⟩ : ByteArray)) ++ t314) ++ (⟨#[32]⟩ : ByteArray)) ++ t315) ++ (⟨#[32]⟩ : ByteArray)) ++ t316) ++ (⟨#[32]⟩ : ByteArray)).size + x3_7.size ≤ 9223372036854775807 then (some ((((((((((⟨#[97, 100, 100, 32]⟩ : ByteArray) ++ t313) ++ (⟨#[32]⟩ : ByteArray)) ++ t314) ++ (⟨#[32]⟩ : ByteArray)) ++ t315) ++ (⟨#[32]⟩ : ByteArray)) ++ t316) ++ (⟨#[32]⟩ : ByteArray)) ++ x3_7)) else (none)) else (none)) else (none))) else (none)) else (none)) = some r := H
        have A21 := Aside0.mk A210;clear A210
        by_cases c22 : (((((⟨#[97, 100, 100, 32]⟩ : ByteArray) ++ t313) ++ (⟨#[32]⟩ : ByteArray)) ++ t314) ++ (⟨#[32]⟩ : ByteArray)).size + t315.size ≤ 9223372036854775807
        ·rw [if_pos c22] at H
         have c22b0 := eq_true c22;have c22b1 : decide ((((((⟨#[97, 100, 100, 32]⟩ : ByteArray) ++ t313) ++ (⟨#[32]⟩ : ByteArray)) ++ t314) ++ (⟨#[32]⟩ : ByteArray)).size + t315.size ≤ 9223372036854775807) = true := decide_eq_true c22
         try have c22b2 : (9223372036854775807 < (((((⟨#[97, 100, 100, 32]⟩ : ByteArray) ++ t313) ++ (⟨#[32]⟩ : ByteArray)) ++ t314) ++ (⟨#[32]⟩ : ByteArray)).size + t315.size) = False := eq_false (Nat.not_lt.2 c22)
         try have c22b3 := c22b2
         try simp only [ByteArray.size_append, Hand.lit_size, List.length_cons, List.length_nil, Nat.zero_add, Nat.reduceAdd] at c22b3
         by_cases c23 : ((((((⟨#[97, 100, 100, 32]⟩ : ByteArray) ++ t313) ++ (⟨#[32]⟩ : ByteArray)) ++ t314) ++ (⟨#[32]⟩ : ByteArray)) ++ t315).size + 1 ≤ 9223372036854775807
         ·rw [if_pos c23] at H
          have c23b0 := eq_true c23;have c23b1 : decide (((((((⟨#[97, 100, 100, 32]⟩ : ByteArray) ++ t313) ++ (⟨#[32]⟩ : ByteArray)) ++ t314) ++ (⟨#[32]⟩ : ByteArray)) ++ t315).size + 1 ≤ 9223372036854775807) = true := decide_eq_true c23
          try have c23b2 : (9223372036854775807 < ((((((⟨#[97, 100, 100, 32]⟩ : ByteArray) ++ t313) ++ (⟨#[32]⟩ : ByteArray)) ++ t314) ++ (⟨#[32]⟩ : ByteArray)) ++ t315).size + 1) = False := eq_false (Nat.not_lt.2 c23)
          try have c23b3 := c23b2
          try simp only [ByteArray.size_append, Hand.lit_size, List.length_cons, List.length_nil, Nat.zero_add, Nat.reduceAdd] at c23b3
          replace H := Option.bind_eq_some_iff.mp H;obtain ⟨t316, A240, H⟩ := H;replace H : (if (((((((⟨#[97, 100, 100, 32]⟩ : ByteArray) ++ t313) ++ (⟨#[32]⟩ : ByteArray)) ++ t314) ++ (⟨#[32]⟩ : ByteArray)) ++ t315) ++ (⟨#[32]⟩ : ByteArray)).size + t316.size ≤ 9223372036854775807 then (if ((((((((⟨#[97, 100, 100, 32]⟩ : ByteArray) ++ t313) ++ (⟨#[32]⟩ : ByteArray)) ++ t314) ++ (⟨#[32]⟩ : ByteArray)) ++ t315) ++ (⟨#[32]⟩ : ByteArray)) ++ t316).size + 1 ≤ 9223372036854775807 then (if (((((((((⟨#[97, 100, 100, 32]⟩ : ByteArray) ++ t313) ++ (⟨#[32]⟩ : ByteArray)) ++ t314) ++ (⟨#[32]⟩ : ByteArray)) ++ t315) ++ (⟨#[32]⟩ : ByteArray)) ++ t316) ++ (⟨#[32]⟩ : ByteArray)).size + x3_7.size ≤ 9223372036854775807 then (some ((((((((((⟨#[97, 100, 100, 32]⟩ : ByteArray) ++ t313) ++ (⟨#[32]⟩ : ByteArray)) ++ t314) ++ (⟨#[32]⟩ : ByteArray)) ++ t315) ++ (⟨#[32]⟩ : ByteArray)) ++ t316) ++ (⟨#[32]⟩ : ByteArray)) ++ x3_7)) else (none)) else (none)) else (none)) = some r := H;have A24 := Aside0.mk A240;clear A240
          by_cases c25 : (((((((⟨#[97, 100, 100, 32]⟩ : ByteArray) ++ t313) ++ (⟨#[32]⟩ : ByteArray)) ++ t314) ++ (⟨#[32]⟩ : ByteArray)) ++ t315) ++ (⟨#[32]⟩ : ByteArray)).size + t316.size ≤ 9223372036854775807
          ·rw [if_pos c25] at H
           have c25b0 := eq_true c25;have c25b1 : decide ((((((((⟨#[97, 100, 100, 32]⟩ : ByteArray) ++ t313) ++ (⟨#[32]⟩ : ByteArray)) ++ t314) ++ (⟨#[32]⟩ : ByteArray)) ++ t315) ++ (⟨#[32]⟩ : ByteArray)).size + t316.size ≤ 9223372036854775807) = true := decide_eq_true c25
           try have c25b2 : (9223372036854775807 < (((((((⟨#[97, 100, 100, 32]⟩ : ByteArray) ++ t313) ++ (⟨#[32]⟩ : ByteArray)) ++ t314) ++ (⟨#[32]⟩ : ByteArray)) ++ t315) ++ (⟨#[32]⟩ : ByteArray)).size + t316.size) = False := eq_false (Nat.not_lt.2 c25)
           try have c25b3 := c25b2
           try simp only [ByteArray.size_append, Hand.lit_size, List.length_cons, List.length_nil, Nat.zero_add, Nat.reduceAdd] at c25b3
           by_cases c26 : ((((((((⟨#[97, 100, 100, 32]⟩ : ByteArray) ++ t313) ++ (⟨#[32]⟩ : ByteArray)) ++ t314) ++ (⟨#[32]⟩ : ByteArray)) ++ t315) ++ (⟨#[32]⟩ : ByteArray)) ++ t316).size + 1 ≤ 9223372036854775807
           ·rw [if_pos c26] at H
            have c26b0 := eq_true c26;have c26b1 : decide (((((((((⟨#[97, 100, 100, 32]⟩ : ByteArray) ++ t313) ++ (⟨#[32]⟩ : ByteArray)) ++ t314) ++ (⟨#[32]⟩ : ByteArray)) ++ t315) ++ (⟨#[32]⟩ : ByteArray)) ++ t316).size + 1 ≤ 9223372036854775807) = true := decide_eq_true c26
            try have c26b2 : (9223372036854775807 < ((((((((⟨#[97, 100, 100, 32]⟩ : ByteArray) ++ t313) ++ (⟨#[32]⟩ : ByteArray)) ++ t314) ++ (⟨#[32]⟩ : ByteArray)) ++ t315) ++ (⟨#[32]⟩ : ByteArray)) ++ t316).size + 1) = False := eq_false (Nat.not_lt.2 c26)
            try have c26b3 := c26b2
            try simp only [ByteArray.size_append, Hand.lit_size, List.length_cons, List.length_nil, Nat.zero_add, Nat.reduceAdd] at c26b3
            by_cases c27 : (((((((((⟨#[97, 100, 100, 32]⟩ : ByteArray) ++ t313) ++ (⟨#[32]⟩ : ByteArray)) ++ t314) ++ (⟨#[32]⟩ : ByteArray)) ++ t315) ++ (⟨#[32]⟩ : ByteArray)) ++ t316) ++ (⟨#[32]⟩ : ByteArray)).size + x3_7.size ≤ 9223372036854775807
            ·rw [if_pos c27] at H
             have c27b0 := eq_true c27;have c27b1 : decide ((((((((((⟨#[97, 100, 100, 32]⟩ : ByteArray) ++ t313) ++ (⟨#[32]⟩ : ByteArray)) ++ t314) ++ (⟨#[32]⟩ : ByteArray)) ++ t315) ++ (⟨#[32]⟩ : ByteArray)) ++ t316) ++ (⟨#[32]⟩ : ByteArray)).size + x3_7.size ≤ 9223372036854775807) = true := decide_eq_true c27
             try have c27b2 : (9223372036854775807 < (((((((((⟨#[97, 100, 100, 32]⟩ : ByteArray) ++ t313) ++ (⟨#[32]⟩ : ByteArray)) ++ t314) ++ (⟨#[32]⟩ : ByteArray)) ++ t315) ++ (⟨#[32]⟩ : ByteArray)) ++ t316) ++ (⟨#[32]⟩ : ByteArray)).size + x3_7.size) = False := eq_false (Nat.not_lt.2 c27)
             try have c27b3 := c27b2
             try simp only [ByteArray.size_append, Hand.lit_size, List.length_cons, List.length_nil, Nat.zero_add, Nat.reduceAdd] at c27b3
             obtain rfl := Option.some.inj H
             try go_wp2
             replace BK310 := Aside0.mk (blk_drew BK310.out);replace HB := Aside0.mk (below_drew1 HB.out)
             refine start_ (n := 27) (S := fun w' => w'.cell? ⟨gb310, 0, none⟩ = some (.bool false) ∧ w'.cell? ⟨gb310, 1, none⟩ = some (.int .i64 a0_1) ∧ w'.cell? ⟨gb310, 2, none⟩ = some (.int .i64 a0_2) ∧ w'.cell? ⟨gb310, 3, none⟩ = some (.int .u32 a0_3) ∧ w'.cell? ⟨gb310, 4, none⟩ = some (.int .i64 a0_4) ∧ w'.cell? ⟨gb310, 5, none⟩ = some (.int .i64 a0_5) ∧ w'.cell? ⟨gb310, 6, none⟩ = some (.int .i64 a0_6)) (ds := []) #[F,F,F,F,F,F,F,F,F,F,F,F,F,F,F,F,F,F,F,F,F,F,F,F,F,F,F] (by kernel_rfl) rfl rfl ⟨(blk_cell BK310.out 0).trans rfl, (blk_cell BK310.out 1).trans rfl, (blk_cell BK310.out 2).trans rfl, (blk_cell BK310.out 3).trans rfl, (blk_cell BK310.out 4).trans rfl, (blk_cell BK310.out 5).trans rfl, (blk_cell BK310.out 6).trans rfl⟩ (fun hHeld => ?_); refine with_tabW crossbuckref25_Change.tab6 crossbuckref25_Change.bits6 (fun HT_ HW_ => ?_)
             generalize wc.drew = w28 at BK310 HB hHeld ⊢
             refine pure_ (i := 0) (N := some 19) (v := ?_) (a' := ?_) #[T,F,F,F,F,F,F,F,F,F,F,F,F,F,F,F,F,F,F,F,F,F,F,F,F,F,F] rfl rfl (any_of HT_.out (by kernel_rfl)) (fun _ _ _ h => h) (Or.inl ⟨by rfl, ?_⟩) ?_ ?_
             rotate_left;·intro w';go_simp;with_reducible rfl
             rotate_left;·simp only [Act.put, setIfInBounds_toArray, set_cons_zero, set_cons_succ, i64_w, i32_w];rfl
             refine pure_ (i := 1) (N := some 20) (v := ?_) (a' := ?_) #[T,T,F,F,F,F,F,F,F,F,F,F,F,F,F,F,F,F,F,F,F,F,F,F,F,F,F] rfl rfl (any_of HT_.out (by kernel_rfl)) (fun _ _ _ h => h) (Or.inl ⟨by rfl, ?_⟩) ?_ ?_
             rotate_left;·intro w';go_simp;with_reducible rfl
             rotate_left;·simp only [Act.put, setIfInBounds_toArray, set_cons_zero, set_cons_succ, i64_w, i32_w];rfl
             refine pure_ (i := 6) (N := some 25) (v := ?_) (a' := ?_) #[T,T,F,F,F,F,T,F,F,F,F,F,F,F,F,F,F,F,F,F,F,F,F,F,F,F,F] rfl rfl (any_of HT_.out (by kernel_rfl)) (fun _ _ _ h => h) (Or.inl ⟨by rfl, ?_⟩) ?_ ?_
             rotate_left;·intro w';go_simp;with_reducible rfl
             rotate_left;·simp only [Act.put, setIfInBounds_toArray, set_cons_zero, set_cons_succ, i64_w, i32_w];rfl
             refine pure_ (i := 7) (N := some 26) (v := ?_) (a' := ?_) #[T,T,F,F,F,F,T,T,F,F,F,F,F,F,F,F,F,F,F,F,F,F,F,F,F,F,F] rfl rfl (any_of HT_.out (by kernel_rfl)) (fun _ _ _ h => h) (Or.inl ⟨by rfl, ?_⟩) ?_ ?_
             rotate_left;·intro w';go_simp;with_reducible rfl
             rotate_left;·simp only [Act.put, setIfInBounds_toArray, set_cons_zero, set_cons_succ, i64_w, i32_w];rfl
             refine pure_ (i := 12) (N := some 31) (v := ?_) (a' := ?_) #[T,T,F,F,F,F,T,T,F,F,F,F,T,F,F,F,F,F,F,F,F,F,F,F,F,F,F] rfl rfl (any_of HT_.out (by kernel_rfl)) (fun _ _ _ h => h) (Or.inl ⟨by rfl, ?_⟩) ?_ ?_
             rotate_left;·intro w';go_simp;with_reducible rfl
             rotate_left;·simp only [Act.put, setIfInBounds_toArray, set_cons_zero, set_cons_succ, i64_w, i32_w];rfl
             refine pure_ (i := 13) (N := some 32) (v := ?_) (a' := ?_) #[T,T,F,F,F,F,T,T,F,F,F,F,T,T,F,F,F,F,F,F,F,F,F,F,F,F,F] rfl rfl (any_of HT_.out (by kernel_rfl)) (fun _ _ _ h => h) (Or.inl ⟨by rfl, ?_⟩) ?_ ?_
             rotate_left;·intro w';go_simp;with_reducible rfl
             rotate_left;·simp only [Act.put, setIfInBounds_toArray, set_cons_zero, set_cons_succ, i64_w, i32_w];rfl
             refine pure_ (i := 18) (N := some 37) (v := ?_) (a' := ?_) #[T,T,F,F,F,F,T,T,F,F,F,F,T,T,F,F,F,F,T,F,F,F,F,F,F,F,F] rfl rfl (any_of HT_.out (by kernel_rfl)) (fun _ _ _ h => h) (Or.inl ⟨by rfl, ?_⟩) ?_ ?_
             rotate_left;·intro w';go_simp;with_reducible rfl
             rotate_left;·simp only [Act.put, setIfInBounds_toArray, set_cons_zero, set_cons_succ, i64_w, i32_w];rfl
             refine pure_ (i := 19) (N := some 38) (v := ?_) (a' := ?_) #[T,T,F,F,F,F,T,T,F,F,F,F,T,T,F,F,F,F,T,T,F,F,F,F,F,F,F] rfl rfl (any_of HT_.out (by kernel_rfl)) (fun _ _ _ h => h) (Or.inl ⟨by rfl, ?_⟩) ?_ ?_
             rotate_left;·intro w';go_simp;with_reducible rfl
             rotate_left;·simp only [Act.put, setIfInBounds_toArray, set_cons_zero, set_cons_succ, i64_w, i32_w];rfl
             refine pure_ (i := 24) (N := some 43) (v := ?_) (a' := ?_) #[T,T,F,F,F,F,T,T,F,F,F,F,T,T,F,F,F,F,T,T,F,F,F,F,T,F,F] rfl rfl (any_of HT_.out (by kernel_rfl)) (fun _ _ _ h => h) (Or.inl ⟨by rfl, ?_⟩) ?_ ?_
             rotate_left;·intro w';go_simp;with_reducible rfl
             rotate_left;·simp only [Act.put, setIfInBounds_toArray, set_cons_zero, set_cons_succ, i64_w, i32_w];rfl
             refine take_ (i := 2) (N := some 21) (v := ?_) (a' := ?_) #[T,T,T,F,F,F,T,T,F,F,F,F,T,T,F,F,F,F,T,T,F,F,F,F,T,F,F] rfl rfl (take_ofW HT_.out HW_.out (by kernel_rfl)) (fun _ _ _ h => h) (Or.inl ⟨by rfl, ?_⟩) hHeld ?_ ?_
             rotate_left
             ·rintro w' ⟨s0, s1, s2, s3, s4, s5, s6⟩
              go_simp;with_reducible rfl
             rotate_left;·simp only [Act.put, setIfInBounds_toArray, set_cons_zero, set_cons_succ, i64_w, i32_w];rfl
             refine take_ (i := 8) (N := some 27) (v := ?_) (a' := ?_) #[T,T,T,F,F,F,T,T,T,F,F,F,T,T,F,F,F,F,T,T,F,F,F,F,T,F,F] rfl rfl (take_ofW HT_.out HW_.out (by kernel_rfl)) (fun _ _ _ h => h) (Or.inl ⟨by rfl, ?_⟩) hHeld ?_ ?_
             rotate_left
             ·rintro w' ⟨s0, s1, s2, s3, s4, s5, s6⟩
              go_simp;with_reducible rfl
             rotate_left;·simp only [Act.put, setIfInBounds_toArray, set_cons_zero, set_cons_succ, i64_w, i32_w];rfl
             refine take_ (i := 14) (N := some 33) (v := ?_) (a' := ?_) #[T,T,T,F,F,F,T,T,T,F,F,F,T,T,T,F,F,F,T,T,F,F,F,F,T,F,F] rfl rfl (take_ofW HT_.out HW_.out (by kernel_rfl)) (fun _ _ _ h => h) (Or.inl ⟨by rfl, ?_⟩) hHeld ?_ ?_
             rotate_left
             ·rintro w' ⟨s0, s1, s2, s3, s4, s5, s6⟩
              go_simp;with_reducible rfl
             rotate_left;·simp only [Act.put, setIfInBounds_toArray, set_cons_zero, set_cons_succ, i64_w, i32_w];rfl
             refine take_ (i := 20) (N := some 39) (v := ?_) (a' := ?_) #[T,T,T,F,F,F,T,T,T,F,F,F,T,T,T,F,F,F,T,T,T,F,F,F,T,F,F] rfl rfl (take_ofW HT_.out HW_.out (by kernel_rfl)) (fun _ _ _ h => h) (Or.inl ⟨by rfl, ?_⟩) hHeld ?_ ?_
             rotate_left
             ·rintro w' ⟨s0, s1, s2, s3, s4, s5, s6⟩
              go_simp;with_reducible rfl
             rotate_left;·simp only [Act.put, setIfInBounds_toArray, set_cons_zero, set_cons_succ, i64_w, i32_w];rfl
             refine one_ (i := 3) (N := some 22) #[T,T,T,T,F,F,T,T,T,F,F,F,T,T,T,F,F,F,T,T,T,F,F,F,T,F,F] rfl rfl (one_of HT_.out (by kernel_rfl)) (by decide) (fun K hK => ?_)
             refine goes_ Tryd.func78 (by kernel_rfl) rfl #[.int .i64 a0_1] (by rfl) rfl rfl aok ?_
             with_reducible refine (crossbuckref25_n.calls kj7 a0_1 t313 _ A15.out).mono ?_;rintro e w29 ⟨rfl, hb⟩;refine ⟨_, rfl, ?_⟩;replace BK310 := Aside0.mk (bb BK310.out hb)
             replace HB := Aside0.mk (below_step (bel HB) hb)
             (try clear hb);(try clear hb2);(try clear hk);(try clear hi)
             refine hK.out _ _ ⟨(blk_cell BK310.out 0).trans rfl, (blk_cell BK310.out 1).trans rfl, (blk_cell BK310.out 2).trans rfl, (blk_cell BK310.out 3).trans rfl, (blk_cell BK310.out 4).trans rfl, (blk_cell BK310.out 5).trans rfl, (blk_cell BK310.out 6).trans rfl⟩ (fun hHeld => ?_)
             clear hK K
             refine norm_ (a' := ?_) ?_ ?_;rotate_left;·show Act.put _ (some 22) _ = _;simp only [Act.put, setIfInBounds_toArray, set_cons_zero, set_cons_succ, i64_w, i32_w];rfl
             refine pure_ (i := 4) (N := some 23) (v := ?_) (a' := ?_) #[T,T,T,T,T,F,T,T,T,F,F,F,T,T,T,F,F,F,T,T,T,F,F,F,T,F,F] rfl rfl (any_of HT_.out (by kernel_rfl)) (fun _ _ _ h => h) (Or.inl ⟨by rfl, ?_⟩) ?_ ?_
             rotate_left;·intro w';go_simp;with_reducible rfl
             rotate_left;·simp only [Act.put, setIfInBounds_toArray, set_cons_zero, set_cons_succ, i64_w, i32_w];rfl
             refine pure_ (i := 5) (N := some 24) (v := ?_) (a' := ?_) #[T,T,T,T,T,T,T,T,T,F,F,F,T,T,T,F,F,F,T,T,T,F,F,F,T,F,F] rfl rfl (any_of HT_.out (by kernel_rfl)) (fun _ _ _ h => h) (Or.inl ⟨by rfl, ?_⟩) ?_ ?_
             rotate_left;·intro w';go_simp;with_reducible rfl
             rotate_left;·simp only [Act.put, setIfInBounds_toArray, set_cons_zero, set_cons_succ, i64_w, i32_w];rfl
             refine one_ (i := 9) (N := some 28) #[T,T,T,T,T,T,T,T,T,T,F,F,T,T,T,F,F,F,T,T,T,F,F,F,T,F,F] rfl rfl (one_of HT_.out (by kernel_rfl)) (by decide) (fun K hK => ?_)
             refine goes_ Tryd.func78 (by kernel_rfl) rfl #[.int .i64 a0_2] (by rfl) rfl rfl aok ?_
             with_reducible refine (crossbuckref25_n.calls kj7 a0_2 t314 _ A18.out).mono ?_;rintro e w30 ⟨rfl, hb⟩;refine ⟨_, rfl, ?_⟩;replace BK310 := Aside0.mk (bb BK310.out hb)
             replace HB := Aside0.mk (below_step (bel HB) hb)
             (try clear hb);(try clear hb2);(try clear hk);(try clear hi)
             refine hK.out _ _ ⟨(blk_cell BK310.out 0).trans rfl, (blk_cell BK310.out 1).trans rfl, (blk_cell BK310.out 2).trans rfl, (blk_cell BK310.out 3).trans rfl, (blk_cell BK310.out 4).trans rfl, (blk_cell BK310.out 5).trans rfl, (blk_cell BK310.out 6).trans rfl⟩ (fun hHeld => ?_)
             clear hK K
             refine norm_ (a' := ?_) ?_ ?_;rotate_left;·show Act.put _ (some 28) _ = _;simp only [Act.put, setIfInBounds_toArray, set_cons_zero, set_cons_succ, i64_w, i32_w];rfl
             refine pure_ (i := 10) (N := some 29) (v := ?_) (a' := ?_) #[T,T,T,T,T,T,T,T,T,T,T,F,T,T,T,F,F,F,T,T,T,F,F,F,T,F,F] rfl rfl (any_of HT_.out (by kernel_rfl)) (fun _ _ _ h => h) (Or.inl ⟨by rfl, ?_⟩) ?_ ?_
             rotate_left;·intro w';go_simp;with_reducible rfl
             rotate_left;·simp only [Act.put, setIfInBounds_toArray, set_cons_zero, set_cons_succ, i64_w, i32_w];rfl
             refine pure_ (i := 11) (N := some 30) (v := ?_) (a' := ?_) #[T,T,T,T,T,T,T,T,T,T,T,T,T,T,T,F,F,F,T,T,T,F,F,F,T,F,F] rfl rfl (any_of HT_.out (by kernel_rfl)) (fun _ _ _ h => h) (Or.inl ⟨by rfl, ?_⟩) ?_ ?_
             rotate_left;·intro w';go_simp;with_reducible rfl
             rotate_left;·simp only [Act.put, setIfInBounds_toArray, set_cons_zero, set_cons_succ, i64_w, i32_w];rfl
             refine one_ (i := 15) (N := some 34) #[T,T,T,T,T,T,T,T,T,T,T,T,T,T,T,T,F,F,T,T,T,F,F,F,T,F,F] rfl rfl (one_of HT_.out (by kernel_rfl)) (by decide) (fun K hK => ?_)
             refine goes_ Tryd.func63 (by kernel_rfl) rfl #[.agg #[.int .u32 a0_3, .int .i64 a0_4]] (by rfl) rfl rfl aok ?_
             with_reducible refine (crossbuckref03_Print.calls kj7 a0_3 a0_4 t315 _ A21.out).mono ?_;rintro e w31 ⟨rfl, hb⟩;refine ⟨_, rfl, ?_⟩;replace BK310 := Aside0.mk (bb BK310.out hb)
             replace HB := Aside0.mk (below_step (bel HB) hb)
             (try clear hb);(try clear hb2);(try clear hk);(try clear hi)
             refine hK.out _ _ ⟨(blk_cell BK310.out 0).trans rfl, (blk_cell BK310.out 1).trans rfl, (blk_cell BK310.out 2).trans rfl, (blk_cell BK310.out 3).trans rfl, (blk_cell BK310.out 4).trans rfl, (blk_cell BK310.out 5).trans rfl, (blk_cell BK310.out 6).trans rfl⟩ (fun hHeld => ?_)
             clear hK K
             refine norm_ (a' := ?_) ?_ ?_;rotate_left;·show Act.put _ (some 34) _ = _;simp only [Act.put, setIfInBounds_toArray, set_cons_zero, set_cons_succ, i64_w, i32_w];rfl
             refine pure_ (i := 16) (N := some 35) (v := ?_) (a' := ?_) #[T,T,T,T,T,T,T,T,T,T,T,T,T,T,T,T,T,F,T,T,T,F,F,F,T,F,F] rfl rfl (any_of HT_.out (by kernel_rfl)) (fun _ _ _ h => h) (Or.inl ⟨by rfl, ?_⟩) ?_ ?_
             rotate_left;·intro w';go_simp;with_reducible rfl
             rotate_left;·simp only [Act.put, setIfInBounds_toArray, set_cons_zero, set_cons_succ, i64_w, i32_w];rfl
             refine pure_ (i := 17) (N := some 36) (v := ?_) (a' := ?_) #[T,T,T,T,T,T,T,T,T,T,T,T,T,T,T,T,T,T,T,T,T,F,F,F,T,F,F] rfl rfl (any_of HT_.out (by kernel_rfl)) (fun _ _ _ h => h) (Or.inl ⟨by rfl, ?_⟩) ?_ ?_
             rotate_left;·intro w';go_simp;with_reducible rfl
             rotate_left;·simp only [Act.put, setIfInBounds_toArray, set_cons_zero, set_cons_succ, i64_w, i32_w];rfl
             refine one_ (i := 21) (N := some 40) #[T,T,T,T,T,T,T,T,T,T,T,T,T,T,T,T,T,T,T,T,T,T,F,F,T,F,F] rfl rfl (one_of HT_.out (by kernel_rfl)) (by decide) (fun K hK => ?_)
             refine goes_ Tryd.func78 (by kernel_rfl) rfl #[.int .i64 a0_5] (by rfl) rfl rfl aok ?_
             with_reducible refine (crossbuckref25_n.calls kj7 a0_5 t316 _ A24.out).mono ?_;rintro e w32 ⟨rfl, hb⟩;refine ⟨_, rfl, ?_⟩;replace BK310 := Aside0.mk (bb BK310.out hb)
             replace HB := Aside0.mk (below_step (bel HB) hb)
             (try clear hb);(try clear hb2);(try clear hk);(try clear hi)
             refine hK.out _ _ ⟨(blk_cell BK310.out 0).trans rfl, (blk_cell BK310.out 1).trans rfl, (blk_cell BK310.out 2).trans rfl, (blk_cell BK310.out 3).trans rfl, (blk_cell BK310.out 4).trans rfl, (blk_cell BK310.out 5).trans rfl, (blk_cell BK310.out 6).trans rfl⟩ (fun hHeld => ?_)
             clear hK K
             refine norm_ (a' := ?_) ?_ ?_;rotate_left;·show Act.put _ (some 40) _ = _;simp only [Act.put, setIfInBounds_toArray, set_cons_zero, set_cons_succ, i64_w, i32_w];rfl
             refine pure_ (i := 22) (N := some 41) (v := ?_) (a' := ?_) #[T,T,T,T,T,T,T,T,T,T,T,T,T,T,T,T,T,T,T,T,T,T,T,F,T,F,F] rfl rfl (any_of HT_.out (by kernel_rfl)) (fun _ _ _ h => h) (Or.inl ⟨by rfl, ?_⟩) ?_ ?_
             rotate_left;·intro w';go_simp;with_reducible rfl
             rotate_left;·simp only [Act.put, setIfInBounds_toArray, set_cons_zero, set_cons_succ, i64_w, i32_w];rfl
             refine pure_ (i := 23) (N := some 42) (v := ?_) (a' := ?_) #[T,T,T,T,T,T,T,T,T,T,T,T,T,T,T,T,T,T,T,T,T,T,T,T,T,F,F] rfl rfl (any_of HT_.out (by kernel_rfl)) (fun _ _ _ h => h) (Or.inl ⟨by rfl, ?_⟩) ?_ ?_
             rotate_left;·intro w';go_simp;with_reducible rfl
             rotate_left;·simp only [Act.put, setIfInBounds_toArray, set_cons_zero, set_cons_succ, i64_w, i32_w];rfl
             refine pure_ (i := 25) (N := some 44) (v := ?_) (a' := ?_) #[T,T,T,T,T,T,T,T,T,T,T,T,T,T,T,T,T,T,T,T,T,T,T,T,T,T,F] rfl rfl (any_of HT_.out (by kernel_rfl)) (fun _ _ _ h => h) (Or.inl ⟨by rfl, ?_⟩) ?_ ?_
             rotate_left;·intro w';go_simp;with_reducible rfl
             rotate_left;·simp only [Act.put, setIfInBounds_toArray, set_cons_zero, set_cons_succ, i64_w, i32_w];rfl
             refine pure_ (i := 26) (N := some 2) (v := ?_) (a' := ?_) #[T,T,T,T,T,T,T,T,T,T,T,T,T,T,T,T,T,T,T,T,T,T,T,T,T,T,T] rfl rfl (any_of HT_.out (by kernel_rfl)) (fun _ _ _ h => h) (Or.inl ⟨by rfl, ?_⟩) ?_ ?_
             rotate_left;·intro w';go_simp;with_reducible rfl
             rotate_left;·simp only [Act.put, setIfInBounds_toArray, set_cons_zero, set_cons_succ, i64_w, i32_w];rfl
             refine done_ (done_of HT_.out (by kernel_rfl)) ?_
             try go_wp2
             go_ret
             exact ⟨by first | rfl | (simp [errW_none, errW_some] <;> rfl) | (simp [*, errW_none, errW_some] <;> rfl), bel HB⟩
            ·rw [if_neg c27] at H
             exact absurd H (by simp)
           ·rw [if_neg c26] at H
            exact absurd H (by simp)
          ·rw [if_neg c25] at H
           exact absurd H (by simp)
         ·rw [if_neg c23] at H
          exact absurd H (by simp)
        ·rw [if_neg c22] at H
         exact absurd H (by simp)
       ·rw [if_neg c20] at H
        exact absurd H (by simp)
      ·rw [if_neg c19] at H
       exact absurd H (by simp)
     ·rw [if_neg c17] at H
      exact absurd H (by simp)
    ·rw [if_neg c16] at H
     exact absurd H (by simp)

end Go.Proofs.YtloclimoffhbhaaDoor.PSca
