-- Written by wip/myprint.py and wip/merge.py (this session's own programs); Lean checks it.
-- halved
import Derived.Test.YtloclimoffhbhaaDoorSq6
import Derived.Test.YtloclimoffhbhaaDoorPScax0
import Derived.Test.YtloclimoffhbhaaDoorPScax11
import Derived.Test.YtloclimoffhbhaaDoorPScax12
import Derived.Test.YtloclimoffhbhaaDoorPScax13
namespace Go.Proofs.YtloclimoffhbhaaDoor.PSca
open Go.RowKit Go.Proofs.YtloclimoffhbhaaDoorW.PrintWords Go.Proofs.YtloclimoffhbhaaDoorW.PrintLast Go.Proofs.YtloclimoffhbhaaDoorW.PrintMore Go.Proofs.YtloclimoffhbhaaDoorW.PrintSq List
attribute [local go_sem] max2_int min2_int max_two min_two max_three min_three max_four min_four   -- for this text's walks alone
set_option linter.unusedVariables false
set_option linter.unusedSimpArgs false

/-! ### crossbuckref25_Call: function 72 -/
def crossbuckref25_Call.l0 : Nat → ByteArray → Int → Int → List (S46) → Int → Int → Int → Int → Int → Int → Int → Int → Int → Int → Int → Int → Int → Option (ByteArray)
 | 0, _, _, _, _, _, _, _, _, _, _, _, _, _, _, _, _, _ => none
 | k + 1, x3, x4, x368000, x368001, x368002, x368003, x368004, x368005, x368006, x368007, x368008, x368009, x368010, x368011, x368012, x368013, x368014 => if x4 < (x368001.length : Int) then (if x4 > 0 then (if x3.size + 2 ≤ 9223372036854775807 then (if 0 ≤ x4 then ((crossbuckref25_Change.f k ((rd_T46 x368001 x4).f0) ((rd_T46 x368001 x4).f1.f0) ((rd_T46 x368001 x4).f1.f1) ((rd_T46 x368001 x4).f1.f2.f0) ((rd_T46 x368001 x4).f1.f2.f1) ((rd_T46 x368001 x4).f1.f3) ((rd_T46 x368001 x4).f1.f4)).bind fun t369 => (if (x3 ++ (⟨#[59, 32]⟩ : ByteArray)).size + t369.size ≤ 9223372036854775807 then (crossbuckref25_Call.l0 k ((x3 ++ (⟨#[59, 32]⟩ : ByteArray)) ++ t369) (wrap64 (x4 + 1)) x368000 x368001 x368002 x368003 x368004 x368005 x368006 x368007 x368008 x368009 x368010 x368011 x368012 x368013 x368014) else (none))) else (none)) else (none)) else (if 0 ≤ x4 then ((crossbuckref25_Change.f k ((rd_T46 x368001 x4).f0) ((rd_T46 x368001 x4).f1.f0) ((rd_T46 x368001 x4).f1.f1) ((rd_T46 x368001 x4).f1.f2.f0) ((rd_T46 x368001 x4).f1.f2.f1) ((rd_T46 x368001 x4).f1.f3) ((rd_T46 x368001 x4).f1.f4)).bind fun t371 => (if x3.size + t371.size ≤ 9223372036854775807 then (crossbuckref25_Call.l0 k (x3 ++ t371) (wrap64 (x4 + 1)) x368000 x368001 x368002 x368003 x368004 x368005 x368006 x368007 x368008 x368009 x368010 x368011 x368012 x368013 x368014) else (none))) else (none))) else (some x3)
def crossbuckref25_Call.f (k : Nat) (a0_0 : Int) (l0_1 : List (S46)) (a0_2 : Int) (a0_3 : Int) (a0_4 : Int) (a0_5 : Int) (a0_6 : Int) (a0_7 : Int) (a0_8 : Int) (a0_9 : Int) (a0_10 : Int) (a0_11 : Int) (a0_12 : Int) (a0_13 : Int) (a0_14 : Int) : Option (ByteArray) := if a0_0 = 0 then (crossbuckref25_Call.l0 k (⟨#[98, 97, 116, 99, 104, 32]⟩ : ByteArray) 0 a0_0 l0_1 a0_2 a0_3 a0_4 a0_5 a0_6 a0_7 a0_8 a0_9 a0_10 a0_11 a0_12 a0_13 a0_14) else (if a0_0 = 1 then ((crossbuckref25_Query.f k a0_2 a0_3 a0_4 a0_5 a0_6 a0_7 a0_8 a0_9 a0_10 a0_11 a0_12 a0_13).bind fun t372 => (some t372)) else (if a0_0 = 2 then (some (⟨#[112, 105, 110]⟩ : ByteArray)) else (if a0_0 = 3 then ((crossbuckref25_n.f k a0_14).bind fun t373 => (if 6 + t373.size ≤ 9223372036854775807 then (some ((⟨#[117, 110, 112, 105, 110, 32]⟩ : ByteArray) ++ t373)) else (none))) else (some (⟨#[99, 108, 111, 115, 101]⟩ : ByteArray)))))
set_option maxHeartbeats 8000000 in
set_option maxRecDepth 100000 in
theorem crossbuckref25_Call.calls (k : Nat) (a0_0 : Int) (A0_1 : Option Addr) (c0_1 : Nat) (l0_1 : List (S46)) (a0_2 : Int) (a0_3 : Int) (a0_4 : Int) (a0_5 : Int) (a0_6 : Int) (a0_7 : Int) (a0_8 : Int) (a0_9 : Int) (a0_10 : Int) (a0_11 : Int) (a0_12 : Int) (a0_13 : Int) (a0_14 : Int) (r : ByteArray) (w : World) (hr0_1 : Kd.C k46 w A0_1 l0_1.length l0_1) (hc0_1 : l0_1.length ≤ c0_1) (h : crossbuckref25_Call.f k a0_0 l0_1 a0_2 a0_3 a0_4 a0_5 a0_6 a0_7 a0_8 a0_9 a0_10 a0_11 a0_12 a0_13 a0_14 = some r) :
  Calls Tryd.prog 72 #[.agg #[.int .i64 a0_0, .slice A0_1 l0_1.length c0_1, .int .i64 a0_2, .int .i64 a0_3, .int .i64 a0_4, .int .u32 a0_5, .int .i64 a0_6, .int .u32 a0_7, .int .i64 a0_8, .int .i64 a0_9, .int .u16 a0_10, .int .u16 a0_11, .int .u16 a0_12, .int .u16 a0_13, .int .i64 a0_14]] w fun e w' => e = .returned (.string r) ∧ Below w.heap.size w w' := by
 have hu115 := Tryd.underlying115;have hu46 := Tryd.underlying46;have hu113 := Tryd.underlying113;have HR0_1 := Aside0.mk hr0_1;have HC0_1 := Aside0.mk hc0_1;clear hr0_1 hc0_1;have HB := Aside0.mk (Below.refl w.heap.size w)
 have H : (if a0_0 = 0 then (crossbuckref25_Call.l0 k (⟨#[98, 97, 116, 99, 104, 32]⟩ : ByteArray) 0 a0_0 l0_1 a0_2 a0_3 a0_4 a0_5 a0_6 a0_7 a0_8 a0_9 a0_10 a0_11 a0_12 a0_13 a0_14) else (if a0_0 = 1 then ((crossbuckref25_Query.f k a0_2 a0_3 a0_4 a0_5 a0_6 a0_7 a0_8 a0_9 a0_10 a0_11 a0_12 a0_13).bind fun t372 => (some t372)) else (if a0_0 = 2 then (some (⟨#[112, 105, 110]⟩ : ByteArray)) else (if a0_0 = 3 then ((crossbuckref25_n.f k a0_14).bind fun t373 => (if 6 + t373.size ≤ 9223372036854775807 then (some ((⟨#[117, 110, 112, 105, 110, 32]⟩ : ByteArray) ++ t373)) else (none))) else (some (⟨#[99, 108, 111, 115, 101]⟩ : ByteArray)))))) = some r := h
 clear h
 by_cases c2 : a0_0 = 0
 ·rw [if_pos c2] at H
  have c2b0 : (a0_0 == 0) = true := beq_iff_eq.mpr c2;have c2b1 : (a0_0 != 0) = false := bne_eq_false_iff_eq.mpr c2;clear c2;have H' := Aside0.mk H;clear H;go_enter Tryd.func72, Tryd.ntmps72
  go_wp2_with (first | ((with_reducible refine gate_dst (N := 1) rfl ?_); refine box_event rfl (N := 1) rfl (cs := #[.int .i64 a0_0, .slice A0_1 l0_1.length c0_1, .int .i64 a0_2, .int .i64 a0_3, .int .i64 a0_4, .int .u32 a0_5, .int .i64 a0_6, .int .u32 a0_7, .int .i64 a0_8, .int .i64 a0_9, .int .u16 a0_10, .int .u16 a0_11, .int .u16 a0_12, .int .u16 a0_13, .int .i64 a0_14]) (t := 115) gs ?_; intro gb367 hg w3 hbox hb; have n0_ := Aside0.mk (below_step (bel HB) hb); have n1_ := Aside0.mk (hbox); have n2_ := Aside0.mk ((by rw [hg]; exact (below_size (bel HB)) : w.heap.size ≤ gb367)); have n3_ := Aside0.mk ((by rw [hg]; exact (below_size (bel HB)) : w.heap.size ≤ gb367)); clear HB; have HB := n0_; have BK367 := n1_; have GW367 := n2_; have GE367 := n3_; clear n0_ n1_ n2_ n3_; clear hb hbox hg; have hcz4 := cz15 BK367.out))
  go_loopg [3, 4] k (fun kq v3 v4 w' => ∃ (x3_1 : ByteArray) (x4_1 : Int), v3 = .string x3_1 ∧ v4 = .int .i64 x4_1 ∧ Aside0 (crossbuckref25_Call.l0 kq x3_1 x4_1 a0_0 l0_1 a0_2 a0_3 a0_4 a0_5 a0_6 a0_7 a0_8 a0_9 a0_10 a0_11 a0_12 a0_13 a0_14 = some r) ∧ Aside0 (kq ≤ k) ∧ Aside0 (w'.heap[gb367]? = some (.cells #[.int .i64 a0_0, (.slice A0_1 l0_1.length c0_1), .int .i64 a0_2, .int .i64 a0_3, .int .i64 a0_4, .int .u32 a0_5, .int .i64 a0_6, .int .u32 a0_7, .int .i64 a0_8, .int .i64 a0_9, .int .u16 a0_10, .int .u16 a0_11, .int .u16 a0_12, .int .u16 a0_13, .int .i64 a0_14] 115 (0, 0))) ∧ Aside0 (Below w.heap.size w w'))
  case atStart => exact ⟨((⟨#[98, 97, 116, 99, 104, 32]⟩ : ByteArray)), (0), (by first | rfl | (simp; done) | (simp [*]; done)), (by first | rfl | (simp; done) | (simp [*]; done)), H', ⟨Nat.le_refl _⟩, ⟨by (with_reducible repeat (first | refine blk_drewN ?_ _ | refine blk_drew ?_ | refine blk_alloc ?_ _)); exact BK367.out⟩, ⟨by repeat (first | (with_reducible first | exact HB.out | apply below_alloc | apply pw_below_drewN | apply below_drew1 | refine below_set ?_ GE367.out) | exact HB.out)⟩⟩
  case round =>
   clear H'
   try clear c2
   try clear c2b0
   try clear c2b1
   try clear p2
   try clear hcz4
   obtain ⟨x3_1, x4_1, rfl, rfl, HA, HK1, BK367, HB⟩ := hrel
   cases gk with
   | zero => exact absurd HA.out (by simp [crossbuckref25_Call.l0])
   | succ k1 =>
    have H := HA.out;clear HA;simp only [crossbuckref25_Call.l0] at H
    by_cases c5 : x4_1 < (l0_1.length : Int)
    ·rw [if_pos c5] at H
     have c5b0 : decide (x4_1 < (l0_1.length : Int)) = true := decide_eq_true c5;clear c5
     by_cases c6 : x4_1 > 0
     ·rw [if_pos c6] at H
      have c6b0 : decide (0 < x4_1) = true := decide_eq_true c6;clear c6
      by_cases c7 : x3_1.size + 2 ≤ 9223372036854775807
      ·rw [if_pos c7] at H
       have c7b0 := eq_true c7;have c7b1 : decide (x3_1.size + 2 ≤ 9223372036854775807) = true := decide_eq_true c7
       try have c7b2 : (9223372036854775807 < x3_1.size + 2) = False := eq_false (Nat.not_lt.2 c7)
       by_cases c8 : 0 ≤ x4_1
       ·rw [if_pos c8] at H
        have c8b0 : decide (0 ≤ x4_1) = true := decide_eq_true c8;clear c8;replace H := Option.bind_eq_some_iff.mp H;obtain ⟨t369, A90, H⟩ := H;replace H : (if (x3_1 ++ (⟨#[59, 32]⟩ : ByteArray)).size + t369.size ≤ 9223372036854775807 then (crossbuckref25_Call.l0 k1 ((x3_1 ++ (⟨#[59, 32]⟩ : ByteArray)) ++ t369) (wrap64 (x4_1 + 1)) a0_0 l0_1 a0_2 a0_3 a0_4 a0_5 a0_6 a0_7 a0_8 a0_9 a0_10 a0_11 a0_12 a0_13 a0_14) else (none)) = some r := H;have A9 := Aside0.mk A90;clear A90
        by_cases c10 : (x3_1 ++ (⟨#[59, 32]⟩ : ByteArray)).size + t369.size ≤ 9223372036854775807
        ·rw [if_pos c10] at H
         have c10b0 := eq_true c10;have c10b1 : decide ((x3_1 ++ (⟨#[59, 32]⟩ : ByteArray)).size + t369.size ≤ 9223372036854775807) = true := decide_eq_true c10
         try have c10b2 : (9223372036854775807 < (x3_1 ++ (⟨#[59, 32]⟩ : ByteArray)).size + t369.size) = False := eq_false (Nat.not_lt.2 c10)
         try have c10b3 := c10b2
         try simp only [ByteArray.size_append, Hand.lit_size, List.length_cons, List.length_nil, Nat.zero_add, Nat.reduceAdd] at c10b3
         have H' := Aside0.mk H;clear H;have hcz11 := cz15 BK367.out
         have p368 : 0 ≤ (x4_1 : Int) := of_decide_eq_true (by first | (with_reducible assumption) | assumption)
         have q368 : x4_1 < (l0_1.length : Int) := of_decide_eq_true (by first | (with_reducible assumption) | assumption)
         obtain ⟨ad368, e368, hx368_0, hx368_1, hx368_2, hx368_3, hx368_4, hx368_5, hx368_6⟩ := at_T46 HR0_1.out x4_1 p368 q368
         cases e368
         replace hx368_0 := (HB.out.cell (World.block_lt_of_cell? w _ hx368_0)).trans hx368_0;replace hx368_1 := (HB.out.cell (World.block_lt_of_cell? w _ hx368_1)).trans hx368_1;replace hx368_2 := (HB.out.cell (World.block_lt_of_cell? w _ hx368_2)).trans hx368_2;replace hx368_3 := (HB.out.cell (World.block_lt_of_cell? w _ hx368_3)).trans hx368_3;replace hx368_4 := (HB.out.cell (World.block_lt_of_cell? w _ hx368_4)).trans hx368_4;replace hx368_5 := (HB.out.cell (World.block_lt_of_cell? w _ hx368_5)).trans hx368_5;replace hx368_6 := (HB.out.cell (World.block_lt_of_cell? w _ hx368_6)).trans hx368_6;replace p368 := eq_true p368;replace q368 := eq_true q368
         go_wp2_with (first | ((with_reducible refine gate_callee (f := 69) rfl ?_); refine goesL_ (some 26) rfl rfl Tryd.func69 (by kernel_rfl) rfl #[.agg #[.bool ((rd_T46 l0_1 x4_1).f0), .int .i64 ((rd_T46 l0_1 x4_1).f1.f0), .int .i64 ((rd_T46 l0_1 x4_1).f1.f1), .int .u32 ((rd_T46 l0_1 x4_1).f1.f2.f0), .int .i64 ((rd_T46 l0_1 x4_1).f1.f2.f1), .int .i64 ((rd_T46 l0_1 x4_1).f1.f3), .int .i64 ((rd_T46 l0_1 x4_1).f1.f4)]] rfl aok ?_; (with_reducible refine (crossbuckref25_Change.calls k1 ((rd_T46 l0_1 x4_1).f0) ((rd_T46 l0_1 x4_1).f1.f0) ((rd_T46 l0_1 x4_1).f1.f1) ((rd_T46 l0_1 x4_1).f1.f2.f0) ((rd_T46 l0_1 x4_1).f1.f2.f1) ((rd_T46 l0_1 x4_1).f1.f3) ((rd_T46 l0_1 x4_1).f1.f4) t369 _ A9.out).mono ?_); rintro e w12 ⟨rfl, hb⟩; refine ⟨_, rfl, ?_⟩; have n0_ := Aside0.mk (bb BK367.out hb); have n1_ := Aside0.mk (below_step (bel HB) hb); clear BK367; clear HB; have BK367 := n0_; have HB := n1_; clear n0_ n1_; (try clear hb); (try clear hb2); (try clear hk); (try clear hi)))
         go_roundg k1
         case measure => have := HK1.out; omega
         case rel => exact ⟨((x3_1 ++ (⟨#[59, 32]⟩ : ByteArray)) ++ t369), (wrap64 (x4_1 + 1)), (by first | rfl | (simp; done) | (simp [*]; done)), (by first | rfl | (simp; done) | (simp [*]; done)), H', ⟨by have := HK1.out; omega⟩, ⟨by (with_reducible repeat (first | refine blk_drewN ?_ _ | refine blk_drew ?_ | refine blk_alloc ?_ _)); exact BK367.out⟩, ⟨by repeat (first | (with_reducible first | exact HB.out | apply below_alloc | apply pw_below_drewN | apply below_drew1 | refine below_set ?_ GE367.out) | exact HB.out)⟩⟩
        ·rw [if_neg c10] at H
         exact absurd H (by simp)
       ·rw [if_neg c8] at H
        exact absurd H (by simp)
      ·rw [if_neg c7] at H
       exact absurd H (by simp)
     ·rw [if_neg c6] at H
      have c6b0 : decide (0 < x4_1) = false := decide_eq_false c6;clear c6
      by_cases c13 : 0 ≤ x4_1
      ·rw [if_pos c13] at H
       have c13b0 : decide (0 ≤ x4_1) = true := decide_eq_true c13;clear c13;replace H := Option.bind_eq_some_iff.mp H;obtain ⟨t371, A140, H⟩ := H;replace H : (if x3_1.size + t371.size ≤ 9223372036854775807 then (crossbuckref25_Call.l0 k1 (x3_1 ++ t371) (wrap64 (x4_1 + 1)) a0_0 l0_1 a0_2 a0_3 a0_4 a0_5 a0_6 a0_7 a0_8 a0_9 a0_10 a0_11 a0_12 a0_13 a0_14) else (none)) = some r := H;have A14 := Aside0.mk A140;clear A140
       by_cases c15 : x3_1.size + t371.size ≤ 9223372036854775807
       ·rw [if_pos c15] at H
        have c15b0 := eq_true c15;have c15b1 : decide (x3_1.size + t371.size ≤ 9223372036854775807) = true := decide_eq_true c15
        try have c15b2 : (9223372036854775807 < x3_1.size + t371.size) = False := eq_false (Nat.not_lt.2 c15)
        have H' := Aside0.mk H;clear H;have hcz16 := cz15 BK367.out
        have p370 : 0 ≤ (x4_1 : Int) := of_decide_eq_true (by first | (with_reducible assumption) | assumption)
        have q370 : x4_1 < (l0_1.length : Int) := of_decide_eq_true (by first | (with_reducible assumption) | assumption)
        obtain ⟨ad370, e370, hx370_0, hx370_1, hx370_2, hx370_3, hx370_4, hx370_5, hx370_6⟩ := at_T46 HR0_1.out x4_1 p370 q370
        cases e370
        replace hx370_0 := (HB.out.cell (World.block_lt_of_cell? w _ hx370_0)).trans hx370_0;replace hx370_1 := (HB.out.cell (World.block_lt_of_cell? w _ hx370_1)).trans hx370_1;replace hx370_2 := (HB.out.cell (World.block_lt_of_cell? w _ hx370_2)).trans hx370_2;replace hx370_3 := (HB.out.cell (World.block_lt_of_cell? w _ hx370_3)).trans hx370_3;replace hx370_4 := (HB.out.cell (World.block_lt_of_cell? w _ hx370_4)).trans hx370_4;replace hx370_5 := (HB.out.cell (World.block_lt_of_cell? w _ hx370_5)).trans hx370_5;replace hx370_6 := (HB.out.cell (World.block_lt_of_cell? w _ hx370_6)).trans hx370_6;replace p370 := eq_true p370;replace q370 := eq_true q370
        go_wp2_with (first | ((with_reducible refine gate_callee (f := 69) rfl ?_); refine goesL_ (some 26) rfl rfl Tryd.func69 (by kernel_rfl) rfl #[.agg #[.bool ((rd_T46 l0_1 x4_1).f0), .int .i64 ((rd_T46 l0_1 x4_1).f1.f0), .int .i64 ((rd_T46 l0_1 x4_1).f1.f1), .int .u32 ((rd_T46 l0_1 x4_1).f1.f2.f0), .int .i64 ((rd_T46 l0_1 x4_1).f1.f2.f1), .int .i64 ((rd_T46 l0_1 x4_1).f1.f3), .int .i64 ((rd_T46 l0_1 x4_1).f1.f4)]] rfl aok ?_; (with_reducible refine (crossbuckref25_Change.calls k1 ((rd_T46 l0_1 x4_1).f0) ((rd_T46 l0_1 x4_1).f1.f0) ((rd_T46 l0_1 x4_1).f1.f1) ((rd_T46 l0_1 x4_1).f1.f2.f0) ((rd_T46 l0_1 x4_1).f1.f2.f1) ((rd_T46 l0_1 x4_1).f1.f3) ((rd_T46 l0_1 x4_1).f1.f4) t371 _ A14.out).mono ?_); rintro e w17 ⟨rfl, hb⟩; refine ⟨_, rfl, ?_⟩; have n0_ := Aside0.mk (bb BK367.out hb); have n1_ := Aside0.mk (below_step (bel HB) hb); clear BK367; clear HB; have BK367 := n0_; have HB := n1_; clear n0_ n1_; (try clear hb); (try clear hb2); (try clear hk); (try clear hi)))
        go_roundg k1
        case measure => have := HK1.out; omega
        case rel => exact ⟨(x3_1 ++ t371), (wrap64 (x4_1 + 1)), (by first | rfl | (simp; done) | (simp [*]; done)), (by first | rfl | (simp; done) | (simp [*]; done)), H', ⟨by have := HK1.out; omega⟩, ⟨by (with_reducible repeat (first | refine blk_drewN ?_ _ | refine blk_drew ?_ | refine blk_alloc ?_ _)); exact BK367.out⟩, ⟨by repeat (first | (with_reducible first | exact HB.out | apply below_alloc | apply pw_below_drewN | apply below_drew1 | refine below_set ?_ GE367.out) | exact HB.out)⟩⟩
       ·rw [if_neg c15] at H
        exact absurd H (by simp)
      ·rw [if_neg c13] at H
       exact absurd H (by simp)
    ·rw [if_neg c5] at H
     have c5b0 : decide (x4_1 < (l0_1.length : Int)) = false := decide_eq_false c5;clear c5;obtain rfl := Option.some.inj H;have hcz18 := cz15 BK367.out;go_wp2;go_ret
     exact ⟨by first | rfl | (simp [errW_none, errW_some] <;> rfl) | (simp [*, errW_none, errW_some] <;> rfl), bel HB⟩
 ·rw [if_neg c2] at H
  have c2b0 : (a0_0 == 0) = false := beq_eq_false_iff_ne.mpr c2;have c2b1 : (a0_0 != 0) = true := bne_iff_ne.mpr c2
  by_cases c19 : a0_0 = 1
  ·rw [if_pos c19] at H
   have c19b0 : (a0_0 == 1) = true := beq_iff_eq.mpr c19;have c19b1 : (a0_0 != 1) = false := bne_eq_false_iff_eq.mpr c19;clear c19;replace H := Option.bind_eq_some_iff.mp H;obtain ⟨t372, A200, H⟩ := H;replace H : (some t372) = some r := H;have A20 := Aside0.mk A200;clear A200;obtain rfl := Option.some.inj H;go_enter Tryd.func72, Tryd.ntmps72
   go_wp2_with (first | ((with_reducible refine gate_dst (N := 1) rfl ?_); refine box_event rfl (N := 1) rfl (cs := #[.int .i64 a0_0, .slice A0_1 l0_1.length c0_1, .int .i64 a0_2, .int .i64 a0_3, .int .i64 a0_4, .int .u32 a0_5, .int .i64 a0_6, .int .u32 a0_7, .int .i64 a0_8, .int .i64 a0_9, .int .u16 a0_10, .int .u16 a0_11, .int .u16 a0_12, .int .u16 a0_13, .int .i64 a0_14]) (t := 115) gs ?_; intro gb367 hg w21 hbox hb; have n0_ := Aside0.mk (below_step (bel HB) hb); have n1_ := Aside0.mk (hbox); have n2_ := Aside0.mk ((by rw [hg]; exact (below_size (bel HB)) : w.heap.size ≤ gb367)); have n3_ := Aside0.mk ((by rw [hg]; exact (below_size (bel HB)) : w.heap.size ≤ gb367)); clear HB; have HB := n0_; have BK367 := n1_; have GW367 := n2_; have GE367 := n3_; clear n0_ n1_ n2_ n3_; clear hb hbox hg; have hcz22 := cz15 BK367.out) | ((with_reducible refine gate_callee (f := 103) rfl ?_); refine goesL_ (some 33) rfl rfl Tryd.func103 (by kernel_rfl) rfl #[.agg #[.int .i64 a0_2, .int .i64 a0_3, .int .i64 a0_4, .int .u32 a0_5, .int .i64 a0_6, .int .u32 a0_7, .int .i64 a0_8, .int .i64 a0_9, .int .u16 a0_10, .int .u16 a0_11, .int .u16 a0_12, .int .u16 a0_13]] rfl aok ?_; (with_reducible refine (crossbuckref25_Query.calls k a0_2 a0_3 a0_4 a0_5 a0_6 a0_7 a0_8 a0_9 a0_10 a0_11 a0_12 a0_13 t372 _ A20.out).mono ?_); rintro e w23 ⟨rfl, hb⟩; refine ⟨_, rfl, ?_⟩; have n0_ := Aside0.mk (bb BK367.out hb); have n1_ := Aside0.mk (below_step (bel HB) hb); clear BK367; clear HB; have BK367 := n0_; have HB := n1_; clear n0_ n1_; (try clear hb); (try clear hb2); (try clear hk); (try clear hi)))
   go_ret
   exact ⟨by first | rfl | (simp [errW_none, errW_some] <;> rfl) | (simp [*, errW_none, errW_some] <;> rfl), bel HB⟩
  ·rw [if_neg c19] at H
   have c19b0 : (a0_0 == 1) = false := beq_eq_false_iff_ne.mpr c19;have c19b1 : (a0_0 != 1) = true := bne_iff_ne.mpr c19
   by_cases c24 : a0_0 = 2
   ·rw [if_pos c24] at H
    have c24b0 : (a0_0 == 2) = true := beq_iff_eq.mpr c24;have c24b1 : (a0_0 != 2) = false := bne_eq_false_iff_eq.mpr c24;clear c24;obtain rfl := Option.some.inj H;go_enter Tryd.func72, Tryd.ntmps72
    go_wp2_with (first | ((with_reducible refine gate_dst (N := 1) rfl ?_); refine box_event rfl (N := 1) rfl (cs := #[.int .i64 a0_0, .slice A0_1 l0_1.length c0_1, .int .i64 a0_2, .int .i64 a0_3, .int .i64 a0_4, .int .u32 a0_5, .int .i64 a0_6, .int .u32 a0_7, .int .i64 a0_8, .int .i64 a0_9, .int .u16 a0_10, .int .u16 a0_11, .int .u16 a0_12, .int .u16 a0_13, .int .i64 a0_14]) (t := 115) gs ?_; intro gb367 hg w25 hbox hb; have n0_ := Aside0.mk (below_step (bel HB) hb); have n1_ := Aside0.mk (hbox); have n2_ := Aside0.mk ((by rw [hg]; exact (below_size (bel HB)) : w.heap.size ≤ gb367)); have n3_ := Aside0.mk ((by rw [hg]; exact (below_size (bel HB)) : w.heap.size ≤ gb367)); clear HB; have HB := n0_; have BK367 := n1_; have GW367 := n2_; have GE367 := n3_; clear n0_ n1_ n2_ n3_; clear hb hbox hg; have hcz26 := cz15 BK367.out))
    go_ret
    exact ⟨by first | rfl | (simp [errW_none, errW_some] <;> rfl) | (simp [*, errW_none, errW_some] <;> rfl), bel HB⟩
   ·rw [if_neg c24] at H
    have c24b0 : (a0_0 == 2) = false := beq_eq_false_iff_ne.mpr c24;have c24b1 : (a0_0 != 2) = true := bne_iff_ne.mpr c24
    by_cases c27 : a0_0 = 3
    ·rw [if_pos c27] at H
     have c27b0 : (a0_0 == 3) = true := beq_iff_eq.mpr c27;have c27b1 : (a0_0 != 3) = false := bne_eq_false_iff_eq.mpr c27;clear c27;replace H := Option.bind_eq_some_iff.mp H;obtain ⟨t373, A280, H⟩ := H;replace H : (if 6 + t373.size ≤ 9223372036854775807 then (some ((⟨#[117, 110, 112, 105, 110, 32]⟩ : ByteArray) ++ t373)) else (none)) = some r := H;have A28 := Aside0.mk A280;clear A280
     by_cases c29 : 6 + t373.size ≤ 9223372036854775807
     ·rw [if_pos c29] at H
      have c29b0 := eq_true c29;have c29b1 : decide (6 + t373.size ≤ 9223372036854775807) = true := decide_eq_true c29
      try have c29b2 : (9223372036854775807 < 6 + t373.size) = False := eq_false (Nat.not_lt.2 c29)
      obtain rfl := Option.some.inj H;go_enter Tryd.func72, Tryd.ntmps72
      go_wp2_with (first | ((with_reducible refine gate_dst (N := 1) rfl ?_); refine box_event rfl (N := 1) rfl (cs := #[.int .i64 a0_0, .slice A0_1 l0_1.length c0_1, .int .i64 a0_2, .int .i64 a0_3, .int .i64 a0_4, .int .u32 a0_5, .int .i64 a0_6, .int .u32 a0_7, .int .i64 a0_8, .int .i64 a0_9, .int .u16 a0_10, .int .u16 a0_11, .int .u16 a0_12, .int .u16 a0_13, .int .i64 a0_14]) (t := 115) gs ?_; intro gb367 hg w30 hbox hb; have n0_ := Aside0.mk (below_step (bel HB) hb); have n1_ := Aside0.mk (hbox); have n2_ := Aside0.mk ((by rw [hg]; exact (below_size (bel HB)) : w.heap.size ≤ gb367)); have n3_ := Aside0.mk ((by rw [hg]; exact (below_size (bel HB)) : w.heap.size ≤ gb367)); clear HB; have HB := n0_; have BK367 := n1_; have GW367 := n2_; have GE367 := n3_; clear n0_ n1_ n2_ n3_; clear hb hbox hg; have hcz31 := cz15 BK367.out) | ((with_reducible refine gate_callee (f := 78) rfl ?_); refine goesL_ (some 40) rfl rfl Tryd.func78 (by kernel_rfl) rfl #[.int .i64 a0_14] rfl aok ?_; (with_reducible refine (crossbuckref25_n.calls k a0_14 t373 _ A28.out).mono ?_); rintro e w32 ⟨rfl, hb⟩; refine ⟨_, rfl, ?_⟩; have n0_ := Aside0.mk (bb BK367.out hb); have n1_ := Aside0.mk (below_step (bel HB) hb); clear BK367; clear HB; have BK367 := n0_; have HB := n1_; clear n0_ n1_; (try clear hb); (try clear hb2); (try clear hk); (try clear hi)))
      go_ret
      exact ⟨by first | rfl | (simp [errW_none, errW_some] <;> rfl) | (simp [*, errW_none, errW_some] <;> rfl), bel HB⟩
     ·rw [if_neg c29] at H
      exact absurd H (by simp)
    ·rw [if_neg c27] at H
     have c27b0 : (a0_0 == 3) = false := beq_eq_false_iff_ne.mpr c27;have c27b1 : (a0_0 != 3) = true := bne_iff_ne.mpr c27;obtain rfl := Option.some.inj H;go_enter Tryd.func72, Tryd.ntmps72
     go_wp2_with (first | ((with_reducible refine gate_dst (N := 1) rfl ?_); refine box_event rfl (N := 1) rfl (cs := #[.int .i64 a0_0, .slice A0_1 l0_1.length c0_1, .int .i64 a0_2, .int .i64 a0_3, .int .i64 a0_4, .int .u32 a0_5, .int .i64 a0_6, .int .u32 a0_7, .int .i64 a0_8, .int .i64 a0_9, .int .u16 a0_10, .int .u16 a0_11, .int .u16 a0_12, .int .u16 a0_13, .int .i64 a0_14]) (t := 115) gs ?_; intro gb367 hg w33 hbox hb; have n0_ := Aside0.mk (below_step (bel HB) hb); have n1_ := Aside0.mk (hbox); have n2_ := Aside0.mk ((by rw [hg]; exact (below_size (bel HB)) : w.heap.size ≤ gb367)); have n3_ := Aside0.mk ((by rw [hg]; exact (below_size (bel HB)) : w.heap.size ≤ gb367)); clear HB; have HB := n0_; have BK367 := n1_; have GW367 := n2_; have GE367 := n3_; clear n0_ n1_ n2_ n3_; clear hb hbox hg; have hcz34 := cz15 BK367.out))
     go_ret
     exact ⟨by first | rfl | (simp [errW_none, errW_some] <;> rfl) | (simp [*, errW_none, errW_some] <;> rfl), bel HB⟩

end Go.Proofs.YtloclimoffhbhaaDoor.PSca
