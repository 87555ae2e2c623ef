-- Written by wip/myprint.py and wip/merge.py (this session's own programs); Lean checks it.
-- halved
import Derived.Test.YtloclimoffhbhaaDoorSq6
import Derived.Test.YtloclimoffhbhaaDoorPScax0
import Derived.Test.YtloclimoffhbhaaDoorPScax7
namespace Go.Proofs.YtloclimoffhbhaaDoor.PSca
open Go.RowKit Go.Proofs.YtloclimoffhbhaaDoorW.PrintWords Go.Proofs.YtloclimoffhbhaaDoorW.PrintLast Go.Proofs.YtloclimoffhbhaaDoorW.PrintMore Go.Proofs.YtloclimoffhbhaaDoorW.PrintSq List
attribute [local go_sem] max2_int min2_int max_two min_two max_three min_three max_four min_four   -- for this text's walks alone
set_option linter.unusedVariables false
set_option linter.unusedSimpArgs false

/-! ### crossbuckref04_Check: function 43 -/
mutual
def crossbuckref04_Check.j0 : Nat → Bool → Int → Int → Int → Int → Int → Int → Int → Int → Int → Option (Int)
 | 0, _, _, _, _, _, _, _, _, _, _ => none
 | k + 1, x12, x268000, x268001, x268002, x268003, x268004, x268005, x268006, x268007, x268008 => if x12 = true then (some 13) else (if x268004 < (-1) then (crossbuckref04_Check.j1 k true x268000 x268001 x268002 x268003 x268004 x268005 x268006 x268007 x268008) else (crossbuckref04_Check.j1 k (decide (x268004 > 255)) x268000 x268001 x268002 x268003 x268004 x268005 x268006 x268007 x268008))
def crossbuckref04_Check.j1 : Nat → Bool → Int → Int → Int → Int → Int → Int → Int → Int → Int → Option (Int)
 | 0, _, _, _, _, _, _, _, _, _, _ => none
 | k + 1, x20, x268000, x268001, x268002, x268003, x268004, x268005, x268006, x268007, x268008 => if x20 = true then (some 5) else (if x268005 > x268006 then (some 14) else (if x268007 > x268008 then (some 14) else (some 0)))
end
def crossbuckref04_Check.f (k : Nat) (a0_0 : Int) (a0_1 : Int) (a0_2 : Int) (a0_3 : Int) (a0_4 : Int) (a0_5 : Int) (a0_6 : Int) (a0_7 : Int) (a0_8 : Int) : Option (Int) := (crossbuckref03_Right.f k a0_0 a0_1).bind fun t268 => (if t268 = true then ((crossbuckref03_Right.f k a0_2 a0_3).bind fun t269 => (crossbuckref04_Check.j0 k (!t269) a0_0 a0_1 a0_2 a0_3 a0_4 a0_5 a0_6 a0_7 a0_8)) else (crossbuckref04_Check.j0 k true a0_0 a0_1 a0_2 a0_3 a0_4 a0_5 a0_6 a0_7 a0_8))
set_option maxHeartbeats 8000000 in
set_option maxRecDepth 100000 in
theorem crossbuckref04_Check.calls (k : Nat) (a0_0 : Int) (a0_1 : Int) (a0_2 : Int) (a0_3 : Int) (a0_4 : Int) (a0_5 : Int) (a0_6 : Int) (a0_7 : Int) (a0_8 : Int) (r : Int) (w : World) (h : crossbuckref04_Check.f k a0_0 a0_1 a0_2 a0_3 a0_4 a0_5 a0_6 a0_7 a0_8 = some r) :
  Calls Tryd.prog 43 #[.agg #[.int .u32 a0_0, .int .i64 a0_1, .int .u32 a0_2, .int .i64 a0_3, .int .i64 a0_4, .int .u16 a0_5, .int .u16 a0_6, .int .u16 a0_7, .int .u16 a0_8]] w fun e w' => e = .returned (.int .i64 r) ∧ Below w.heap.size w w' := by
 have hu77 := Tryd.underlying77;have hu42 := Tryd.underlying42;have HB := Aside0.mk (Below.refl w.heap.size w)
 have H : ((crossbuckref03_Right.f k a0_0 a0_1).bind fun t268 => (if t268 = true then ((crossbuckref03_Right.f k a0_2 a0_3).bind fun t269 => (crossbuckref04_Check.j0 k (!t269) a0_0 a0_1 a0_2 a0_3 a0_4 a0_5 a0_6 a0_7 a0_8)) else (crossbuckref04_Check.j0 k true a0_0 a0_1 a0_2 a0_3 a0_4 a0_5 a0_6 a0_7 a0_8))) = some r := h
 clear h;have HC2 := Aside0.mk H;clear H;go_enter Tryd.func43, Tryd.ntmps43
 go_upto_region 1 with (first | ((with_reducible refine gate_dst (N := 1) rfl ?_); refine box_event rfl (N := 1) rfl (cs := #[.int .u32 a0_0, .int .i64 a0_1, .int .u32 a0_2, .int .i64 a0_3, .int .i64 a0_4, .int .u16 a0_5, .int .u16 a0_6, .int .u16 a0_7, .int .u16 a0_8]) (t := 77) gs ?_; intro gb267 hg w3 hbox hb; have n0_ := Aside0.mk (below_step (bel HB) hb); have n1_ := Aside0.mk (hbox); have n2_ := Aside0.mk ((by rw [hg]; exact (below_size (bel HB)) : w.heap.size ≤ gb267)); have n3_ := Aside0.mk ((by rw [hg]; exact (below_size (bel HB)) : w.heap.size ≤ gb267)); clear HB; have HB := n0_; have BK267 := n1_; have GW267 := n2_; have GE267 := n3_; clear n0_ n1_ n2_ n3_; clear hb hbox hg))
 (try simp only [Act.put, setIfInBounds_toArray, set_cons_zero, set_cons_succ])
 go_cut [12] (fun v12 wc => ∃ (kq : Nat) (x12_1 : Bool), v12 = .bool x12_1 ∧ Aside0 (crossbuckref04_Check.j0 kq x12_1 a0_0 a0_1 a0_2 a0_3 a0_4 a0_5 a0_6 a0_7 a0_8 = some r) ∧ Aside0 (kq ≤ k) ∧ Aside0 (wc.heap[gb267]? = some (.cells #[.int .u32 a0_0, .int .i64 a0_1, .int .u32 a0_2, .int .i64 a0_3, .int .i64 a0_4, .int .u16 a0_5, .int .u16 a0_6, .int .u16 a0_7, .int .u16 a0_8] 77 (0, 0))) ∧ Aside0 (Below w.heap.size w wc))
 case first =>
  have H := HC2.out;clear HC2;replace H := Option.bind_eq_some_iff.mp H;obtain ⟨t268, A40, H⟩ := H
  replace H : (if t268 = true then ((crossbuckref03_Right.f k a0_2 a0_3).bind fun t269 => (crossbuckref04_Check.j0 k (!t269) a0_0 a0_1 a0_2 a0_3 a0_4 a0_5 a0_6 a0_7 a0_8)) else (crossbuckref04_Check.j0 k true a0_0 a0_1 a0_2 a0_3 a0_4 a0_5 a0_6 a0_7 a0_8)) = some r := H
  have A4 := Aside0.mk A40;clear A40
  by_cases c5 : t268 = true
  ·subst c5
   have H1 : ((crossbuckref03_Right.f k a0_2 a0_3).bind fun t269 => (crossbuckref04_Check.j0 k (!t269) a0_0 a0_1 a0_2 a0_3 a0_4 a0_5 a0_6 a0_7 a0_8)) = some r := by rw [if_pos rfl] at H; exact H
   clear H;have H := H1;clear H1;replace H := Option.bind_eq_some_iff.mp H;obtain ⟨t269, A60, H⟩ := H;replace H : (crossbuckref04_Check.j0 k (!t269) a0_0 a0_1 a0_2 a0_3 a0_4 a0_5 a0_6 a0_7 a0_8) = some r := H;have A6 := Aside0.mk A60;clear A60;have H' := Aside0.mk H;clear H;have hcz7 := cz9 BK267.out
   go_wp2_with (first | ((with_reducible refine gate_callee (f := 61) rfl ?_); refine goesL_ (some 5) rfl rfl Tryd.func61 (by kernel_rfl) rfl #[.agg #[.int .u32 a0_0, .int .i64 a0_1]] rfl aok ?_; (with_reducible refine (crossbuckref03_Right.calls k a0_0 a0_1 true _ A4.out).mono ?_); rintro e w8 ⟨rfl, hb⟩; refine ⟨_, rfl, ?_⟩; have n0_ := Aside0.mk (bb BK267.out hb); have n1_ := Aside0.mk (below_step (bel HB) hb); clear BK267; clear HB; have BK267 := n0_; have HB := n1_; clear n0_ n1_; (try clear hb); (try clear hb2); (try clear hk); (try clear hi); have hcz9 := cz9 BK267.out) | (go_at_call 61; (with_reducible refine (crossbuckref03_Right.calls k a0_2 a0_3 t269 _ A6.out).mono ?_); rintro e w10 ⟨rfl, hb⟩; have n0_ := Aside0.mk (bb BK267.out hb); have n1_ := Aside0.mk (below_step (bel HB) hb); clear BK267; clear HB; have BK267 := n0_; have HB := n1_; clear n0_ n1_; (try clear hb); (try clear hb2); (try clear hk); (try clear hi)))
   go_meet
   case rel => exact ⟨_, (!t269), (by first | rfl | (simp; done) | (simp [*]; done)), H', ⟨by first | omega | exact Nat.le_refl _⟩, ⟨by (with_reducible repeat (first | refine blk_drewN ?_ _ | refine blk_drew ?_ | refine blk_alloc ?_ _)); exact BK267.out⟩, ⟨by repeat (first | (with_reducible first | exact HB.out | apply below_alloc | apply pw_below_drewN | apply below_drew1 | refine below_set ?_ GE267.out) | exact HB.out)⟩⟩
  ·replace c5 := Bool.eq_false_iff.mpr c5
   subst c5
   have H1 : (crossbuckref04_Check.j0 k true a0_0 a0_1 a0_2 a0_3 a0_4 a0_5 a0_6 a0_7 a0_8) = some r := by rw [if_neg (show ¬ (false = true) by decide)] at H; exact H
   clear H;have H := H1;clear H1;have H' := Aside0.mk H;clear H;have hcz11 := cz9 BK267.out
   go_wp2_with (first | ((with_reducible refine gate_callee (f := 61) rfl ?_); refine goesL_ (some 5) rfl rfl Tryd.func61 (by kernel_rfl) rfl #[.agg #[.int .u32 a0_0, .int .i64 a0_1]] rfl aok ?_; (with_reducible refine (crossbuckref03_Right.calls k a0_0 a0_1 false _ A4.out).mono ?_); rintro e w12 ⟨rfl, hb⟩; refine ⟨_, rfl, ?_⟩; have n0_ := Aside0.mk (bb BK267.out hb); have n1_ := Aside0.mk (below_step (bel HB) hb); clear BK267; clear HB; have BK267 := n0_; have HB := n1_; clear n0_ n1_; (try clear hb); (try clear hb2); (try clear hk); (try clear hi)))
   go_meet
   case rel => exact ⟨_, (true), (by first | rfl | (simp; done) | (simp [*]; done)), H', ⟨by first | omega | exact Nat.le_refl _⟩, ⟨by (with_reducible repeat (first | refine blk_drewN ?_ _ | refine blk_drew ?_ | refine blk_alloc ?_ _)); exact BK267.out⟩, ⟨by repeat (first | (with_reducible first | exact HB.out | apply below_alloc | apply pw_below_drewN | apply below_drew1 | refine below_set ?_ GE267.out) | exact HB.out)⟩⟩
 case rest =>
  clear HC2
  try clear p2
  try clear c4
  try clear c5
  try clear c6
  try clear hcz11
  try clear hcz7
  try clear hcz9
  obtain ⟨kq, x12_1, rfl, HA, HJ1, BK267, HB⟩ := hcut
  cases kq with
  | zero => exact absurd HA.out (by simp [crossbuckref04_Check.j0])
  | succ kj1 =>
   have H := HA.out;clear HA;simp only [crossbuckref04_Check.j0] at H
   by_cases c13 : x12_1 = true
   ·subst c13
    have H1 : (some 13) = some r := by rw [if_pos rfl] at H; exact H
    clear H;have H := H1;clear H1;obtain rfl := Option.some.inj H;go_wp2;go_ret
    exact ⟨by first | rfl | (simp [errW_none, errW_some] <;> rfl) | (simp [*, errW_none, errW_some] <;> rfl), bel HB⟩
   ·replace c13 := Bool.eq_false_iff.mpr c13
    subst c13
    have H1 : (if a0_4 < (-1) then (crossbuckref04_Check.j1 kj1 true a0_0 a0_1 a0_2 a0_3 a0_4 a0_5 a0_6 a0_7 a0_8) else (crossbuckref04_Check.j1 kj1 (decide (a0_4 > 255)) a0_0 a0_1 a0_2 a0_3 a0_4 a0_5 a0_6 a0_7 a0_8)) = some r := by rw [if_neg (show ¬ (false = true) by decide)] at H; exact H
    clear H;have H := H1;clear H1;have HC14 := Aside0.mk H;clear H;go_upto_region 3 with (fail)
    go_cut [20] (fun v20 wc => ∃ (kq : Nat) (x20_13 : Bool), v20 = .bool x20_13 ∧ Aside0 (crossbuckref04_Check.j1 kq x20_13 a0_0 a0_1 a0_2 a0_3 a0_4 a0_5 a0_6 a0_7 a0_8 = some r) ∧ Aside0 (kq ≤ kj1) ∧ Aside0 (wc.heap[gb267]? = some (.cells #[.int .u32 a0_0, .int .i64 a0_1, .int .u32 a0_2, .int .i64 a0_3, .int .i64 a0_4, .int .u16 a0_5, .int .u16 a0_6, .int .u16 a0_7, .int .u16 a0_8] 77 (0, 0))) ∧ Aside0 (Below w.heap.size w wc))
    case first =>
     have H := HC14.out;clear HC14
     by_cases c15 : a0_4 < (-1)
     ·rw [if_pos c15] at H
      have c15b0 : decide (a0_4 < (-1)) = true := decide_eq_true c15;clear c15;(first | rw [c15b0] | (simp only [i64_w, i32_w]; rw [c15b0]) | skip);have H' := Aside0.mk H;clear H;have hcz16 := cz9 BK267.out;go_wp2;go_meet
      case rel => exact ⟨_, (true), (by first | rfl | (simp; done) | (simp [*]; done)), H', ⟨by have := HJ1.out; first | omega | exact Nat.le_refl _⟩, ⟨by (with_reducible repeat (first | refine blk_drewN ?_ _ | refine blk_drew ?_ | refine blk_alloc ?_ _)); exact BK267.out⟩, ⟨by repeat (first | (with_reducible first | exact HB.out | apply below_alloc | apply pw_below_drewN | apply below_drew1 | refine below_set ?_ GE267.out) | exact HB.out)⟩⟩
     ·rw [if_neg c15] at H
      have c15b0 : decide (a0_4 < (-1)) = false := decide_eq_false c15;clear c15;(first | rw [c15b0] | (simp only [i64_w, i32_w]; rw [c15b0]) | skip);have H' := Aside0.mk H;clear H;have hcz17 := cz9 BK267.out;go_wp2;go_meet
      case rel => exact ⟨_, (decide (a0_4 > 255)), (by first | rfl | (simp; done) | (simp [*]; done)), H', ⟨by have := HJ1.out; first | omega | exact Nat.le_refl _⟩, ⟨by (with_reducible repeat (first | refine blk_drewN ?_ _ | refine blk_drew ?_ | refine blk_alloc ?_ _)); exact BK267.out⟩, ⟨by repeat (first | (with_reducible first | exact HB.out | apply below_alloc | apply pw_below_drewN | apply below_drew1 | refine below_set ?_ GE267.out) | exact HB.out)⟩⟩
    case rest =>
     clear HC14
     try clear c1
     try clear p2
     try clear c4
     try clear c5
     try clear c6
     try clear c13
     try clear c15
     try clear c15b0
     try clear hcz11
     try clear hcz16
     try clear hcz17
     try clear hcz7
     try clear hcz9
     try clear p2
     obtain ⟨kq, x20_13, rfl, HA, HJ13, BK267, HB⟩ := hcut
     cases kq with
     | zero => exact absurd HA.out (by simp [crossbuckref04_Check.j1])
     | succ kj13 =>
      have H := HA.out;clear HA;simp only [crossbuckref04_Check.j1] at H
      by_cases c18 : x20_13 = true
      ·subst c18
       have H1 : (some 5) = some r := by rw [if_pos rfl] at H; exact H
       clear H;have H := H1;clear H1;obtain rfl := Option.some.inj H;go_wp2;go_ret
       exact ⟨by first | rfl | (simp [errW_none, errW_some] <;> rfl) | (simp [*, errW_none, errW_some] <;> rfl), bel HB⟩
      ·replace c18 := Bool.eq_false_iff.mpr c18
       subst c18
       have H1 : (if a0_5 > a0_6 then (some 14) else (if a0_7 > a0_8 then (some 14) else (some 0))) = some r := by rw [if_neg (show ¬ (false = true) by decide)] at H; exact H
       clear H;have H := H1;clear H1
       by_cases c19 : a0_5 > a0_6
       ·rw [if_pos c19] at H
        have c19b0 : decide (a0_6 < a0_5) = true := decide_eq_true c19;clear c19;obtain rfl := Option.some.inj H;have hcz20 := cz9 BK267.out;go_wp2;go_ret
        exact ⟨by first | rfl | (simp [errW_none, errW_some] <;> rfl) | (simp [*, errW_none, errW_some] <;> rfl), bel HB⟩
       ·rw [if_neg c19] at H
        have c19b0 : decide (a0_6 < a0_5) = false := decide_eq_false c19;clear c19
        by_cases c21 : a0_7 > a0_8
        ·rw [if_pos c21] at H
         have c21b0 : decide (a0_8 < a0_7) = true := decide_eq_true c21;clear c21;obtain rfl := Option.some.inj H;have hcz22 := cz9 BK267.out;go_wp2;go_ret
         exact ⟨by first | rfl | (simp [errW_none, errW_some] <;> rfl) | (simp [*, errW_none, errW_some] <;> rfl), bel HB⟩
        ·rw [if_neg c21] at H
         have c21b0 : decide (a0_8 < a0_7) = false := decide_eq_false c21;clear c21;obtain rfl := Option.some.inj H;have hcz23 := cz9 BK267.out;go_wp2;go_ret
         exact ⟨by first | rfl | (simp [errW_none, errW_some] <;> rfl) | (simp [*, errW_none, errW_some] <;> rfl), bel HB⟩

end Go.Proofs.YtloclimoffhbhaaDoor.PSca

namespace Go.Proofs.YtloclimoffhbhaaDoor.PSca
open Go.RowKit Go.Proofs.YtloclimoffhbhaaDoorW.PrintWords Go.Proofs.YtloclimoffhbhaaDoorW.PrintLast Go.Proofs.YtloclimoffhbhaaDoorW.PrintMore Go.Proofs.YtloclimoffhbhaaDoorW.PrintSq List
attribute [local go_sem] max2_int min2_int max_two min_two max_three min_three max_four min_four   -- for this text's walks alone
set_option linter.unusedVariables false
set_option linter.unusedSimpArgs false

/-! ### crossbuckref25_small: function 102 -/
def crossbuckref25_small.l0 : Nat → List Int → Int → Option (Bool)
 | 0, _, _ => none
 | k + 1, x0, x3 => if x3 < (x0.length : Int) then (if 0 ≤ x3 then (if (rd x0 x3) < 0 then (some false) else (if (rd x0 x3) > 2097152 then (some false) else (crossbuckref25_small.l0 k x0 (wrap64 (x3 + 1))))) else (none)) else (some true)
def crossbuckref25_small.f (k : Nat) (l0 : List Int) : Option (Bool) := crossbuckref25_small.l0 k l0 0
set_option maxHeartbeats 8000000 in
set_option maxRecDepth 100000 in
theorem crossbuckref25_small.calls (k : Nat) (A0 : Option Addr) (c0 : Nat) (l0 : List Int) (r : Bool) (w : World) (hr0 : Kd.C (Kd.int .i64) w A0 l0.length l0) (hc0 : l0.length ≤ c0) (h : crossbuckref25_small.f k l0 = some r) :
  Calls Tryd.prog 102 #[.slice A0 l0.length c0] w fun e w' => e = .returned (.bool r) ∧ Drawn0 w w' := by
 have HR0 := Aside0.mk hr0;have HC0 := Aside0.mk hc0;clear hr0 hc0;have H : (crossbuckref25_small.l0 k l0 0) = some r := h;clear h;have H' := Aside0.mk H;clear H;go_enter Tryd.func102, Tryd.ntmps102;go_wp2
 go_loopg [3] k (fun kq v3 w' => ∃ (x3_1 : Int), v3 = .int .i64 x3_1 ∧ Aside0 (crossbuckref25_small.l0 kq l0 x3_1 = some r) ∧ Aside0 (kq ≤ k) ∧ Drawn0 w w')
 case atStart => exact ⟨(0), (by first | rfl | (simp; done) | (simp [*]; done)), H', ⟨Nat.le_refl _⟩, by repeat (first | exact Drawn0.refl _ | apply Drawn0.step)⟩
 case round =>
  clear H'
  try clear c1
  obtain ⟨x3_1, rfl, HA, HK1, ⟨m1, rfl⟩⟩ := hrel
  cases gk with
  | zero => exact absurd HA.out (by simp [crossbuckref25_small.l0])
  | succ k1 =>
   have H := HA.out;clear HA;simp only [crossbuckref25_small.l0] at H
   by_cases c2 : x3_1 < (l0.length : Int)
   ·rw [if_pos c2] at H
    have c2b0 : decide (x3_1 < (l0.length : Int)) = true := decide_eq_true c2;clear c2
    by_cases c3 : 0 ≤ x3_1
    ·rw [if_pos c3] at H
     have c3b0 : decide (0 ≤ x3_1) = true := decide_eq_true c3;clear c3
     by_cases c4 : (rd l0 x3_1) < 0
     ·rw [if_pos c4] at H
      have c4b0 : decide ((rd l0 x3_1) < 0) = true := decide_eq_true c4;clear c4;obtain rfl := Option.some.inj H
      have p270 : 0 ≤ (x3_1 : Int) := of_decide_eq_true (by first | (with_reducible assumption) | assumption)
      have q270 : x3_1 < (l0.length : Int) := of_decide_eq_true (by first | (with_reducible assumption) | assumption)
      obtain ⟨ad270, e270, hx270_0⟩ := Kd.at_int HR0.out x3_1 p270 q270
      cases e270
      replace p270 := eq_true p270;replace q270 := eq_true q270;go_wp2;go_ret
      exact ⟨by first | rfl | (simp; done) | (simp [*]; done), by repeat (first | exact Drawn0.refl _ | apply Drawn0.step)⟩
     ·rw [if_neg c4] at H
      have c4b0 : decide ((rd l0 x3_1) < 0) = false := decide_eq_false c4;clear c4
      by_cases c5 : (rd l0 x3_1) > 2097152
      ·rw [if_pos c5] at H
       have c5b0 : decide (2097152 < (rd l0 x3_1)) = true := decide_eq_true c5;clear c5;obtain rfl := Option.some.inj H
       have p270 : 0 ≤ (x3_1 : Int) := of_decide_eq_true (by first | (with_reducible assumption) | assumption)
       have q270 : x3_1 < (l0.length : Int) := of_decide_eq_true (by first | (with_reducible assumption) | assumption)
       obtain ⟨ad270, e270, hx270_0⟩ := Kd.at_int HR0.out x3_1 p270 q270
       cases e270
       replace p270 := eq_true p270;replace q270 := eq_true q270
       have p271 : 0 ≤ (x3_1 : Int) := of_decide_eq_true (by first | (with_reducible assumption) | assumption)
       have q271 : x3_1 < (l0.length : Int) := of_decide_eq_true (by first | (with_reducible assumption) | assumption)
       obtain ⟨ad271, e271, hx271_0⟩ := Kd.at_int HR0.out x3_1 p271 q271
       obtain rfl : ad270 = ad271 := (by injection e271)
       replace p271 := eq_true p271;replace q271 := eq_true q271;go_wp2;go_ret
       exact ⟨by first | rfl | (simp; done) | (simp [*]; done), by repeat (first | exact Drawn0.refl _ | apply Drawn0.step)⟩
      ·rw [if_neg c5] at H
       have c5b0 : decide (2097152 < (rd l0 x3_1)) = false := decide_eq_false c5;clear c5;have H' := Aside0.mk H;clear H
       have p270 : 0 ≤ (x3_1 : Int) := of_decide_eq_true (by first | (with_reducible assumption) | assumption)
       have q270 : x3_1 < (l0.length : Int) := of_decide_eq_true (by first | (with_reducible assumption) | assumption)
       obtain ⟨ad270, e270, hx270_0⟩ := Kd.at_int HR0.out x3_1 p270 q270
       cases e270
       replace p270 := eq_true p270;replace q270 := eq_true q270
       have p271 : 0 ≤ (x3_1 : Int) := of_decide_eq_true (by first | (with_reducible assumption) | assumption)
       have q271 : x3_1 < (l0.length : Int) := of_decide_eq_true (by first | (with_reducible assumption) | assumption)
       obtain ⟨ad271, e271, hx271_0⟩ := Kd.at_int HR0.out x3_1 p271 q271
       obtain rfl : ad270 = ad271 := (by injection e271)
       replace p271 := eq_true p271;replace q271 := eq_true q271;go_wp2;go_roundg k1
       case measure => have := HK1.out; omega
       case rel => exact ⟨(wrap64 (x3_1 + 1)), (by first | rfl | (simp; done) | (simp [*]; done)), H', ⟨by have := HK1.out; omega⟩, by repeat (first | exact Drawn0.refl _ | apply Drawn0.step)⟩
    ·rw [if_neg c3] at H
     exact absurd H (by simp)
   ·rw [if_neg c2] at H
    have c2b0 : decide (x3_1 < (l0.length : Int)) = false := decide_eq_false c2;clear c2;obtain rfl := Option.some.inj H;go_wp2;go_ret
    exact ⟨by first | rfl | (simp; done) | (simp [*]; done), by repeat (first | exact Drawn0.refl _ | apply Drawn0.step)⟩

end Go.Proofs.YtloclimoffhbhaaDoor.PSca
