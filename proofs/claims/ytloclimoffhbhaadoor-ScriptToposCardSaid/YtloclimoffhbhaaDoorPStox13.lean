-- Written by wip/myprint.py and wip/merge.py (this session's own programs); Lean checks it.
-- halved
import Derived.Test.YtloclimoffhbhaaDoorSq6
import Derived.Test.YtloclimoffhbhaaDoorPStox0
import Derived.Test.YtloclimoffhbhaaDoorPStox12
import Derived.Test.YtloclimoffhbhaaDoorPStox6
namespace Go.Proofs.YtloclimoffhbhaaDoor.PSto
open Go.RowKit Go.Proofs.YtloclimoffhbhaaDoorW.PrintWords Go.Proofs.YtloclimoffhbhaaDoorW.PrintLast Go.Proofs.YtloclimoffhbhaaDoorW.PrintMore Go.Proofs.YtloclimoffhbhaaDoorW.PrintSq List
attribute [local go_sem] max2_int min2_int max_two min_two max_three min_three max_four min_four   -- for this text's walks alone
set_option linter.unusedVariables false
set_option linter.unusedSimpArgs false

attribute [local go_sem high] eqA128
/-! ### crossbuckref05_Check: function 20 -/
mutual
def crossbuckref05_Check.j0 : Nat → Bool → List Int → List (S133) → List (S130) → Option (Int)
 | 0, _, _, _, _ => none
 | k + 1, x26, x473000, x473001, x473002 => if x26 = true then (some 15) else (crossbuckref05_Check.l0 k 0 x473000 x473001 x473002)
def crossbuckref05_Check.l0 : Nat → Int → List Int → List (S133) → List (S130) → Option (Int)
 | 0, _, _, _, _ => none
 | k + 1, x3, x473000, x473001, x473002 => if x3 < (x473000.length : Int) then (if 0 ≤ x3 then (if (rd x473000 x3) < 0 then (some 11) else (if (rd x473000 x3) > 8 then (some 11) else (crossbuckref05_Check.l0 k (wrap64 (x3 + 1)) x473000 x473001 x473002))) else (none)) else ((crossbuckref05_Ends.f k x473000 x473001 x473002).bind fun t475 => (crossbuckref05_Check.l1 k t475 0 x473000 x473001 x473002))
def crossbuckref05_Check.l1 : Nat → List (S128) → Int → List Int → List (S133) → List (S130) → Option (Int)
 | 0, _, _, _, _, _ => none
 | k + 1, x4, x5, x473000, x473001, x473002 => if x5 < (x4.length : Int) then (if 0 ≤ x5 then ((crossbuckref05_Port.f k x473000 x473001 x473002 ((rd_T128 x4 x5).f0) ((rd_T128 x4 x5).f1)).bind fun t480 => (if t480 = 0 then (crossbuckref05_Check.l2 k x4 x5 0 x473000 x473001 x473002) else (some t480))) else (none)) else (crossbuckref05_Check.l3 k 0 x473000 x473001 x473002)
def crossbuckref05_Check.l2 : Nat → List (S128) → Int → Int → List Int → List (S133) → List (S130) → Option (Int)
 | 0, _, _, _, _, _, _ => none
 | k + 1, x4, x5, x7, x473000, x473001, x473002 => if x7 < x5 then (if 0 ≤ x7 then (if x7 < (x4.length : Int) then (if 0 ≤ x5 then (if x5 < (x4.length : Int) then (if (((rd_T128 x4 x7).f0) == ((rd_T128 x4 x5).f0) && (((rd_T128 x4 x7).f1) == ((rd_T128 x4 x5).f1))) = true then (some 12) else (crossbuckref05_Check.l2 k x4 x5 (wrap64 (x7 + 1)) x473000 x473001 x473002)) else (none)) else (none)) else (none)) else (none)) else (crossbuckref05_Check.l1 k x4 (wrap64 (x5 + 1)) x473000 x473001 x473002)
def crossbuckref05_Check.l3 : Nat → Int → List Int → List (S133) → List (S130) → Option (Int)
 | 0, _, _, _, _ => none
 | k + 1, x8, x473000, x473001, x473002 => if x8 < (x473002.length : Int) then (if 0 ≤ x8 then ((crossbuckref05_Port.f k x473000 x473001 x473002 ((rd_T130 x473002 x8).f0) ((rd_T130 x473002 x8).f1)).bind fun t485 => (if t485 = 0 then ((crossbuckref04_Check.f k ((rd_T130 x473002 x8).f4.f0.f0) ((rd_T130 x473002 x8).f4.f0.f1) ((rd_T130 x473002 x8).f4.f1.f0) ((rd_T130 x473002 x8).f4.f1.f1) ((rd_T130 x473002 x8).f4.f2) ((rd_T130 x473002 x8).f4.f3.f0) ((rd_T130 x473002 x8).f4.f3.f1) ((rd_T130 x473002 x8).f4.f4.f0) ((rd_T130 x473002 x8).f4.f4.f1)).bind fun t487 => (if t487 = 0 then (crossbuckref05_Check.l3 k (wrap64 (x8 + 1)) x473000 x473001 x473002) else (some t487))) else (some t485))) else (none)) else (some 0)
end
def crossbuckref05_Check.f (k : Nat) (l0_0 : List Int) (l0_1 : List (S133)) (l0_2 : List (S130)) : Option (Int) := if (l0_0.length : Int) < 1 then (crossbuckref05_Check.j0 k true l0_0 l0_1 l0_2) else (if (l0_0.length : Int) > 16 then (crossbuckref05_Check.j0 k true l0_0 l0_1 l0_2) else (crossbuckref05_Check.j0 k (decide ((l0_2.length : Int) > 32)) l0_0 l0_1 l0_2))
def crossbuckref05_Check.T12 : Bool × List (List Nat × List Nat) := (true, [([], []), ([], []), ([], []), ([1, 2], [1, 2]), ([3], [3]), ([4], [4]), ([], []), ([], []), ([6, 7], [6, 7]), ([8], [8]), ([9], [9]), ([0, 5, 10], [0, 5, 10]), ([11, 11, 0, 1, 2, 3, 4, 5, 6, 7, 8, 9, 10, 11], [11])])
def crossbuckref05_Check.B12 : List Nat := [0, 0, 0, 6, 14, 30, 0, 0, 192, 448, 960, 2047, 4095]
theorem crossbuckref05_Check.tab12 : rtab .any (opsOf Tryd.f20 12) = crossbuckref05_Check.T12 := by kernel_rfl
theorem crossbuckref05_Check.bits12 : waitsOk crossbuckref05_Check.T12.2 crossbuckref05_Check.B12 = true := by kernel_rfl
def crossbuckref05_Check.T18 : Bool × List (List Nat × List Nat) := (true, [([], []), ([], []), ([0, 1], [0, 1]), ([2], [2]), ([], []), ([], []), ([4, 5], [4, 5]), ([6], [6]), ([3, 7], [3, 7])])
def crossbuckref05_Check.B18 : List Nat := [0, 0, 3, 7, 0, 0, 48, 112, 255]
theorem crossbuckref05_Check.tab18 : rtab .any (opsOf Tryd.f20 18) = crossbuckref05_Check.T18 := by kernel_rfl
theorem crossbuckref05_Check.bits18 : waitsOk crossbuckref05_Check.T18.2 crossbuckref05_Check.B18 = true := by kernel_rfl
def crossbuckref05_Check.T23 : Bool × List (List Nat × List Nat) := (true, [([], []), ([], []), ([1], [1]), ([], []), ([2, 3], [2, 3]), ([4], [4]), ([5], [5]), ([], []), ([7], [7]), ([], []), ([8, 9], [8, 9]), ([10], [10]), ([11], [11]), ([0, 6, 12], [0, 6, 12]), ([13, 13, 0, 1, 2, 3, 4, 5, 6, 7, 8, 9, 10, 11, 12, 13], [13])])
def crossbuckref05_Check.B23 : List Nat := [0, 0, 2, 0, 14, 30, 62, 0, 128, 0, 896, 1920, 3968, 8191, 16383]
theorem crossbuckref05_Check.tab23 : rtab .any (opsOf Tryd.f20 23) = crossbuckref05_Check.T23 := by kernel_rfl
theorem crossbuckref05_Check.bits23 : waitsOk crossbuckref05_Check.T23.2 crossbuckref05_Check.B23 = true := by kernel_rfl
set_option maxHeartbeats 8000000 in
set_option maxRecDepth 100000 in
theorem crossbuckref05_Check.calls (k : Nat) (A0_0 : Option Addr) (c0_0 : Nat) (l0_0 : List Int) (A0_1 : Option Addr) (c0_1 : Nat) (l0_1 : List (S133)) (A0_2 : Option Addr) (c0_2 : Nat) (l0_2 : List (S130)) (r : Int) (w : World) (hr0_0 : Kd.C (Kd.int .i64) w A0_0 l0_0.length l0_0) (hc0_0 : l0_0.length ≤ c0_0) (hr0_1 : Kd.C k133 w A0_1 l0_1.length l0_1) (hc0_1 : l0_1.length ≤ c0_1) (hr0_2 : Kd.C k130 w A0_2 l0_2.length l0_2) (hc0_2 : l0_2.length ≤ c0_2) (h : crossbuckref05_Check.f k l0_0 l0_1 l0_2 = some r) :
  Calls Tryd.prog 20 #[.agg #[.slice A0_0 l0_0.length c0_0, .slice A0_1 l0_1.length c0_1, .slice A0_2 l0_2.length c0_2]] w fun e w' => e = .returned (.int .i64 r) ∧ Below w.heap.size w w' := by
 have hu26 := Tryd.underlying26;have hu128 := Tryd.underlying128;have hu77 := Tryd.underlying77;have HR0_0 := Aside0.mk hr0_0;have HC0_0 := Aside0.mk hc0_0;clear hr0_0 hc0_0;have HR0_1 := Aside0.mk hr0_1;have HC0_1 := Aside0.mk hc0_1;clear hr0_1 hc0_1;have HR0_2 := Aside0.mk hr0_2;have HC0_2 := Aside0.mk hc0_2;clear hr0_2 hc0_2;have HB := Aside0.mk (Below.refl w.heap.size w);have H : (if (l0_0.length : Int) < 1 then (crossbuckref05_Check.j0 k true l0_0 l0_1 l0_2) else (if (l0_0.length : Int) > 16 then (crossbuckref05_Check.j0 k true l0_0 l0_1 l0_2) else (crossbuckref05_Check.j0 k (decide ((l0_2.length : Int) > 32)) l0_0 l0_1 l0_2))) = some r := h;clear h;have HC2 := Aside0.mk H;clear H;go_enter Tryd.func20, Tryd.ntmps20
 go_upto_region 1 with (first | ((with_reducible refine gate_dst (N := 1) rfl ?_); (try (refine gate_guard (by rfl) ?_; dsimp only)); refine box_event rfl (N := 1) rfl (cs := #[.slice A0_0 l0_0.length c0_0, .slice A0_1 l0_1.length c0_1, .slice A0_2 l0_2.length c0_2]) (t := 26) gs ?_; intro gb472 hg w3 hbox hb; have n0_ := Aside0.mk (below_step (bel HB) hb); have n1_ := Aside0.mk (hbox); have n2_ := gew HB hg; have n3_ := gew HB hg; clear HB; have HB := n0_; have BK472 := n1_; have GW472 := n2_; have GE472 := n3_; clear n0_ n1_ n2_ n3_; clear hb hbox hg))
 (try simp only [Act.put, setIfInBounds_toArray, set_cons_zero, set_cons_succ])
 go_cut [26] (fun v26 wc => ∃ (kq : Nat) (x26_1 : Bool), v26 = .bool x26_1 ∧ Aside0 (crossbuckref05_Check.j0 kq x26_1 l0_0 l0_1 l0_2 = some r) ∧ Aside0 (kq ≤ k) ∧ Aside0 (wc.heap[gb472]? = some (.cells #[(.slice A0_0 l0_0.length c0_0), (.slice A0_1 l0_1.length c0_1), (.slice A0_2 l0_2.length c0_2)] 26 (0, 0))) ∧ Aside0 (Below w.heap.size w wc))
 case first =>
  have H := HC2.out;clear HC2
  by_cases c4 : (l0_0.length : Int) < 1
  ·rw [if_pos c4] at H
   have c4b0 : decide ((l0_0.length : Int) < 1) = true := decide_eq_true c4
   have c4b1 : decide (l0_0.length < 1) = true := decide_eq_true (by omega)
   clear c4;(first | rw [c4b0] | (simp only [i64_w, i32_w]; rw [c4b0]) | skip);have H' := Aside0.mk H;clear H;have hcz5 := cz3 BK472.out;go_wp2;go_meet
   case rel => exact ⟨_, (true), (by first | rfl | (simp; done) | (simp [*]; done)), H', ⟨by first | omega | exact Nat.le_refl _⟩, ⟨bkp⟩, ⟨by repeat (first | (with_reducible first | exact HB.out | apply below_alloc | apply pw_below_drewN | apply below_drew1 | refine below_set ?_ GE472.out) | exact HB.out)⟩⟩
  ·rw [if_neg c4] at H
   have c4b0 : decide ((l0_0.length : Int) < 1) = false := decide_eq_false c4
   have c4b1 : decide (l0_0.length < 1) = false := decide_eq_false (by omega)
   clear c4;(first | rw [c4b0] | (simp only [i64_w, i32_w]; rw [c4b0]) | skip)
   by_cases c6 : (l0_0.length : Int) > 16
   ·rw [if_pos c6] at H
    have c6b0 : decide (16 < (l0_0.length : Int)) = true := decide_eq_true c6
    have c6b1 : decide (16 < l0_0.length) = true := decide_eq_true (by omega)
    clear c6;have H' := Aside0.mk H;clear H;have hcz7 := cz3 BK472.out;go_wp2;go_meet
    case rel => exact ⟨_, (true), (by first | rfl | (simp; done) | (simp [*]; done)), H', ⟨by first | omega | exact Nat.le_refl _⟩, ⟨bkp⟩, ⟨by repeat (first | (with_reducible first | exact HB.out | apply below_alloc | apply pw_below_drewN | apply below_drew1 | refine below_set ?_ GE472.out) | exact HB.out)⟩⟩
   ·rw [if_neg c6] at H
    have c6b0 : decide (16 < (l0_0.length : Int)) = false := decide_eq_false c6
    have c6b1 : decide (16 < l0_0.length) = false := decide_eq_false (by omega)
    clear c6;have H' := Aside0.mk H;clear H;have hcz8 := cz3 BK472.out;go_wp2;go_meet
    case rel => exact ⟨_, (decide ((l0_2.length : Int) > 32)), (by first | rfl | (simp; done) | (simp [*]; done)), H', ⟨by first | omega | exact Nat.le_refl _⟩, ⟨bkp⟩, ⟨by repeat (first | (with_reducible first | exact HB.out | apply below_alloc | apply pw_below_drewN | apply below_drew1 | refine below_set ?_ GE472.out) | exact HB.out)⟩⟩
 case rest =>
  clear HC2
  try clear c2
  try clear p2
  try clear c4
  try clear c4b0
  try clear c4b1
  try clear c6
  try clear c6b0
  try clear c6b1
  try clear hcz5
  try clear hcz7
  try clear hcz8
  obtain ⟨kq, x26_1, rfl, HA, HJ1, BK472, HB⟩ := hcut
  cases kq with
  | zero => exact absurd HA.out (by simp [crossbuckref05_Check.j0])
  | succ kj1 =>
   have H := HA.out;clear HA;simp only [crossbuckref05_Check.j0] at H
   by_cases c9 : x26_1 = true
   ·subst c9
    have H1 : (some 15) = some r := by rw [if_pos rfl] at H; exact H
    clear H;have H := H1;clear H1;obtain rfl := Option.some.inj H;go_wp2;go_ret
    exact ⟨fin, bel HB⟩
   ·replace c9 := Bool.eq_false_iff.mpr c9
    subst c9
    have H1 : (crossbuckref05_Check.l0 kj1 0 l0_0 l0_1 l0_2) = some r := by rw [if_neg (show ¬ (false = true) by decide)] at H; exact H
    clear H;have H := H1;clear H1;have H' := Aside0.mk H;clear H;go_wp2
    go_loopg [3] kj1 (fun kq v3 w' => ∃ (x3_2 : Int), v3 = .int .i64 x3_2 ∧ Aside0 (crossbuckref05_Check.l0 kq x3_2 l0_0 l0_1 l0_2 = some r) ∧ Aside0 (kq ≤ kj1) ∧ Aside0 (w'.heap[gb472]? = some (.cells #[(.slice A0_0 l0_0.length c0_0), (.slice A0_1 l0_1.length c0_1), (.slice A0_2 l0_2.length c0_2)] 26 (0, 0))) ∧ Aside0 (Below w.heap.size w w'))
    case atStart => exact ⟨(0), (by first | rfl | (simp; done) | (simp [*]; done)), H', ⟨Nat.le_refl _⟩, ⟨bkp⟩, ⟨by repeat (first | (with_reducible first | exact HB.out | apply below_alloc | apply pw_below_drewN | apply below_drew1 | refine below_set ?_ GE472.out) | exact HB.out)⟩⟩
    case round =>
     clear H'
     try clear c2
     try clear p2
     try clear c4
     try clear c4b0
     try clear c4b1
     try clear c6
     try clear c6b0
     try clear c6b1
     try clear c9
     try clear hcz5
     try clear hcz7
     try clear hcz8
     try clear p2
     obtain ⟨x3_2, rfl, HA, HK2, BK472, HB⟩ := hrel
     cases gk with
     | zero => exact absurd HA.out (by simp [crossbuckref05_Check.l0])
     | succ k2 =>
      have H := HA.out;clear HA;simp only [crossbuckref05_Check.l0] at H
      by_cases c10 : x3_2 < (l0_0.length : Int)
      ·rw [if_pos c10] at H
       have c10b0 : decide (x3_2 < (l0_0.length : Int)) = true := decide_eq_true c10;clear c10
       by_cases c11 : 0 ≤ x3_2
       ·rw [if_pos c11] at H
        have c11b0 : decide (0 ≤ x3_2) = true := decide_eq_true c11;clear c11
        by_cases c12 : (rd l0_0 x3_2) < 0
        ·rw [if_pos c12] at H
         have c12b0 : decide ((rd l0_0 x3_2) < 0) = true := decide_eq_true c12;clear c12;obtain rfl := Option.some.inj H;have hcz13 := cz3 BK472.out
         have p473 : 0 ≤ (x3_2 : Int) := of_decide_eq_true (by first | (with_reducible assumption) | assumption)
         have q473 : x3_2 < (l0_0.length : Int) := of_decide_eq_true (by first | (with_reducible assumption) | assumption)
         obtain ⟨ad473, e473, hx473_0⟩ := Kd.at_int HR0_0.out x3_2 p473 q473
         cases e473
         replace hx473_0 := mv HB hx473_0;replace p473 := eq_true p473;replace q473 := eq_true q473;go_wp2;go_ret
         exact ⟨fin, bel HB⟩
        ·rw [if_neg c12] at H
         have c12b0 : decide ((rd l0_0 x3_2) < 0) = false := decide_eq_false c12;clear c12
         by_cases c14 : (rd l0_0 x3_2) > 8
         ·rw [if_pos c14] at H
          have c14b0 : decide (8 < (rd l0_0 x3_2)) = true := decide_eq_true c14;clear c14;obtain rfl := Option.some.inj H;have hcz15 := cz3 BK472.out
          have p473 : 0 ≤ (x3_2 : Int) := of_decide_eq_true (by first | (with_reducible assumption) | assumption)
          have q473 : x3_2 < (l0_0.length : Int) := of_decide_eq_true (by first | (with_reducible assumption) | assumption)
          obtain ⟨ad473, e473, hx473_0⟩ := Kd.at_int HR0_0.out x3_2 p473 q473
          cases e473
          replace hx473_0 := mv HB hx473_0;replace p473 := eq_true p473;replace q473 := eq_true q473
          have p474 : 0 ≤ (x3_2 : Int) := of_decide_eq_true (by first | (with_reducible assumption) | assumption)
          have q474 : x3_2 < (l0_0.length : Int) := of_decide_eq_true (by first | (with_reducible assumption) | assumption)
          obtain ⟨ad474, e474, hx474_0⟩ := Kd.at_int HR0_0.out x3_2 p474 q474
          obtain rfl : ad473 = ad474 := (by injection e474)
          replace hx474_0 := mv HB hx474_0;replace p474 := eq_true p474;replace q474 := eq_true q474;go_wp2;go_ret
          exact ⟨fin, bel HB⟩
         ·rw [if_neg c14] at H
          have c14b0 : decide (8 < (rd l0_0 x3_2)) = false := decide_eq_false c14;clear c14;have H' := Aside0.mk H;clear H;have hcz16 := cz3 BK472.out
          have p473 : 0 ≤ (x3_2 : Int) := of_decide_eq_true (by first | (with_reducible assumption) | assumption)
          have q473 : x3_2 < (l0_0.length : Int) := of_decide_eq_true (by first | (with_reducible assumption) | assumption)
          obtain ⟨ad473, e473, hx473_0⟩ := Kd.at_int HR0_0.out x3_2 p473 q473
          cases e473
          replace hx473_0 := mv HB hx473_0;replace p473 := eq_true p473;replace q473 := eq_true q473
          have p474 : 0 ≤ (x3_2 : Int) := of_decide_eq_true (by first | (with_reducible assumption) | assumption)
          have q474 : x3_2 < (l0_0.length : Int) := of_decide_eq_true (by first | (with_reducible assumption) | assumption)
          obtain ⟨ad474, e474, hx474_0⟩ := Kd.at_int HR0_0.out x3_2 p474 q474
          obtain rfl : ad473 = ad474 := (by injection e474)
          replace hx474_0 := mv HB hx474_0;replace p474 := eq_true p474;replace q474 := eq_true q474;go_wp2;go_roundg k2
          case measure => have := HJ1.out; have := HK2.out; omega
          case rel => exact ⟨(wrap64 (x3_2 + 1)), (by first | rfl | (simp; done) | (simp [*]; done)), H', ⟨by have := HJ1.out; have := HK2.out; omega⟩, ⟨bkp⟩, ⟨by repeat (first | (with_reducible first | exact HB.out | apply below_alloc | apply pw_below_drewN | apply below_drew1 | refine below_set ?_ GE472.out) | exact HB.out)⟩⟩
       ·rw [if_neg c11] at H
        exact absurd H (by simp)
      ·rw [if_neg c10] at H
       have c10b0 : decide (x3_2 < (l0_0.length : Int)) = false := decide_eq_false c10;clear c10;replace H := Option.bind_eq_some_iff.mp H;obtain ⟨t475, A170, H⟩ := H;replace H : (crossbuckref05_Check.l1 k2 t475 0 l0_0 l0_1 l0_2) = some r := H;have A17 := Aside0.mk A170;clear A170;have H' := Aside0.mk H;clear H;have hcz18 := cz3 BK472.out
       go_wp2_with (first | ((with_reducible refine gate_callee (f := 74) rfl ?_); refine goesL_ (some 49) rfl rfl Tryd.func74 (by kernel_rfl) rfl #[.agg #[.slice A0_0 l0_0.length c0_0, .slice A0_1 l0_1.length c0_1, .slice A0_2 l0_2.length c0_2]] rfl aok ?_; (with_reducible refine (crossbuckref05_Ends.calls k2 _ _ l0_0 _ _ l0_1 _ _ l0_2 t475 _ ?side1 ?side2 ?side3 ?side4 ?side5 ?side6 A17.out).mono ?_); (case side1 => repeat (first | exact (Kd.C_below HR0_0.out HB.out) | (with_reducible refine Kd.C_alloc ?_ _) | (with_reducible refine Kd.C_drewN ?_ _) | (with_reducible refine Kd.C_drew ?_))); (case side2 => exact HC0_0.out); (case side3 => repeat (first | exact (Kd.C_below HR0_1.out HB.out) | (with_reducible refine Kd.C_alloc ?_ _) | (with_reducible refine Kd.C_drewN ?_ _) | (with_reducible refine Kd.C_drew ?_))); (case side4 => exact HC0_1.out); (case side5 => repeat (first | exact (Kd.C_below HR0_2.out HB.out) | (with_reducible refine Kd.C_alloc ?_ _) | (with_reducible refine Kd.C_drewN ?_ _) | (with_reducible refine Kd.C_drew ?_))); (case side6 => exact HC0_2.out); rintro e w19 ⟨v476, rfl, ho0, hb⟩; refine ⟨_, rfl, ?_⟩; have n0_ := Aside0.mk (Kd.R_lower ho0 (below_size (bel HB))); have n1_ := Aside0.mk (bb BK472.out hb); have n2_ := Aside0.mk (below_step (bel HB) hb); clear BK472; clear HB; have HO477 := n0_; have BK472 := n1_; have HB := n2_; clear n0_ n1_ n2_; (try clear hb); (try clear hb2); (try clear hk); (try clear hi); (try clear ho0)))
       go_loopg [5] k2 (fun kq v5 w' => ∃ (x5_3 : Int), v5 = .int .i64 x5_3 ∧ Aside0 (crossbuckref05_Check.l1 kq t475 x5_3 l0_0 l0_1 l0_2 = some r) ∧ Aside0 (kq ≤ k2) ∧ Aside0 (Kd.R k128 128 w' w.heap.size (fun _ => True) v476 t475) ∧ Aside0 (w'.heap[gb472]? = some (.cells #[(.slice A0_0 l0_0.length c0_0), (.slice A0_1 l0_1.length c0_1), (.slice A0_2 l0_2.length c0_2)] 26 (0, 0))) ∧ Aside0 (Below w.heap.size w w'))
       case atStart => exact ⟨(0), (by first | rfl | (simp; done) | (simp [*]; done)), H', ⟨Nat.le_refl _⟩, ⟨rp HO477⟩, ⟨bkp⟩, ⟨by repeat (first | (with_reducible first | exact HB.out | apply below_alloc | apply pw_below_drewN | apply below_drew1 | refine below_set ?_ GE472.out) | exact HB.out)⟩⟩
       case round =>
        clear H'
        try clear c1
        try clear c2
        try clear p2
        try clear c4
        try clear c4b0
        try clear c4b1
        try clear p4
        try clear q4
        try clear hx4
        try clear c6
        try clear c6b0
        try clear c6b1
        try clear p6
        try clear c7
        try clear c9
        try clear c10
        try clear c10b0
        try clear c11
        try clear c11b0
        try clear c12
        try clear c12b0
        try clear c14
        try clear c14b0
        try clear hcz13
        try clear hcz15
        try clear hcz16
        try clear hcz18
        try clear hcz5
        try clear hcz7
        try clear hcz8
        try clear hx473_0
        try clear hx474_0
        try clear p2
        try clear p473
        try clear p474
        try clear q473
        try clear q474
        obtain ⟨x5_3, rfl, HA, HK3, HO_4, BK472, HB⟩ := hrel
        cases gk with
        | zero => exact absurd HA.out (by simp [crossbuckref05_Check.l1])
        | succ k3 =>
         have H := HA.out;clear HA;simp only [crossbuckref05_Check.l1] at H
         by_cases c20 : x5_3 < (t475.length : Int)
         ·rw [if_pos c20] at H
          have c20b0 : decide (x5_3 < (t475.length : Int)) = true := decide_eq_true c20;clear c20
          by_cases c21 : 0 ≤ x5_3
          ·rw [if_pos c21] at H
           have c21b0 : decide (0 ≤ x5_3) = true := decide_eq_true c21;clear c21;replace H := Option.bind_eq_some_iff.mp H;obtain ⟨t480, A220, H⟩ := H;replace H : (if t480 = 0 then (crossbuckref05_Check.l2 k3 t475 x5_3 0 l0_0 l0_1 l0_2) else (some t480)) = some r := H;have A22 := Aside0.mk A220;clear A220
           by_cases c23 : t480 = 0
           ·rw [if_pos c23] at H
            have c23b0 : (t480 == 0) = true := beq_iff_eq.mpr c23;have c23b1 : (t480 != 0) = false := bne_eq_false_iff_eq.mpr c23;clear c23;have H' := Aside0.mk H;clear H;obtain ⟨Ao24, co24, eo24⟩ := Kd.R_slice HO_4.out;subst eo24
            try go_wp2
            replace HO_4 := Aside0.mk (Kd.R_drew HO_4.out);replace BK472 := Aside0.mk (blk_drew BK472.out);replace HB := Aside0.mk (below_drew1 HB.out)
            have p478 : 0 ≤ (x5_3 : Int) := of_decide_eq_true (by first | (with_reducible assumption) | assumption)
            have q478 : x5_3 < (t475.length : Int) := of_decide_eq_true (by first | (with_reducible assumption) | assumption)
            obtain ⟨ad478, e478, hx478_0, hx478_1⟩ := at_T128 (Kd.R_reads' HO_4.out).2.2 x5_3 p478 q478
            cases e478
            replace p478 := eq_true p478;replace q478 := eq_true q478
            have p479 : 0 ≤ (x5_3 : Int) := of_decide_eq_true (by first | (with_reducible assumption) | assumption)
            have q479 : x5_3 < (t475.length : Int) := of_decide_eq_true (by first | (with_reducible assumption) | assumption)
            obtain ⟨ad479, e479, hx479_0, hx479_1⟩ := at_T128 (Kd.R_reads' HO_4.out).2.2 x5_3 p479 q479
            obtain rfl : ad478 = ad479 := (by injection e479)
            replace p479 := eq_true p479;replace q479 := eq_true q479
            refine start_ (n := 13) (S := fun w' => w'.cell? ⟨gb472, 0, none⟩ = some (.slice A0_0 l0_0.length c0_0) ∧ w'.cell? ⟨gb472, 1, none⟩ = some (.slice A0_1 l0_1.length c0_1) ∧ w'.cell? ⟨gb472, 2, none⟩ = some (.slice A0_2 l0_2.length c0_2) ∧ w'.cell? (ad478.add ((x5_3).toNat * 2)) = some (.int .i64 ((rd_T128 t475 x5_3).f0)) ∧ w'.cell? ⟨(ad478.add ((x5_3).toNat * 2)).block, (ad478.add ((x5_3).toNat * 2)).off + 1, none⟩ = some (.int .i64 ((rd_T128 t475 x5_3).f1)) ∧ w'.cell? (ad478.add ((x5_3).toNat * 2)) = some (.int .i64 ((rd_T128 t475 x5_3).f0)) ∧ w'.cell? ⟨(ad478.add ((x5_3).toNat * 2)).block, (ad478.add ((x5_3).toNat * 2)).off + 1, none⟩ = some (.int .i64 ((rd_T128 t475 x5_3).f1))) (ds := []) #[F,F,F,F,F,F,F,F,F,F,F,F,F] (by kernel_rfl) rfl rfl ⟨(blk_cell BK472.out 0).trans rfl, (blk_cell BK472.out 1).trans rfl, (blk_cell BK472.out 2).trans rfl, hx478_0, hx478_1, hx479_0, hx479_1⟩ (fun hHeld => ?_); refine with_tabW crossbuckref05_Check.tab12 crossbuckref05_Check.bits12 (fun HT_ HW_ => ?_)
            generalize wr.drew = w25 at HO_4 BK472 HB hx478_0 hx478_1 hx479_0 hx479_1 hHeld ⊢
            refine pu 1 (some 57) #[F,T,F,F,F,F,F,F,F,F,F,F,F] (any_of HT_.out (by kernel_rfl)) ?_
            refine pu 2 (some 58) #[F,T,T,F,F,F,F,F,F,F,F,F,F] (any_of HT_.out (by kernel_rfl)) ?_
            refine pu 3 (some 59) #[F,T,T,T,F,F,F,F,F,F,F,F,F] (any_of HT_.out (by kernel_rfl)) ?_
            refine pu 4 (some 60) #[F,T,T,T,T,F,F,F,F,F,F,F,F] (any_of HT_.out (by kernel_rfl)) ?_
            refine pu 6 (some 62) #[F,T,T,T,T,F,T,F,F,F,F,F,F] (any_of HT_.out (by kernel_rfl)) ?_
            refine pu 7 (some 63) #[F,T,T,T,T,F,T,T,F,F,F,F,F] (any_of HT_.out (by kernel_rfl)) ?_
            refine pu 8 (some 64) #[F,T,T,T,T,F,T,T,T,F,F,F,F] (any_of HT_.out (by kernel_rfl)) ?_
            refine pu 9 (some 65) #[F,T,T,T,T,F,T,T,T,T,F,F,F] (any_of HT_.out (by kernel_rfl)) ?_
            refine take_ (i := 0) (N := some 56) (v := ?_) (a' := ?_) #[T,T,T,T,T,F,T,T,T,T,F,F,F] rfl rfl (take_ofW HT_.out HW_.out (by kernel_rfl)) (fun _ _ _ h => h) (Or.inl ⟨by rfl, ?_⟩) hHeld ?_ ?_
            rotate_left
            ·rintro w' ⟨s0, s1, s2, s3, s4, s5, s6⟩
             go_simp;with_reducible rfl
            rotate_left;·simp only [Act.put, setIfInBounds_toArray, set_cons_zero, set_cons_succ, i64_w, i32_w];rfl
            refine take_ (i := 5) (N := some 61) (v := ?_) (a' := ?_) #[T,T,T,T,T,T,T,T,T,T,F,F,F] rfl rfl (take_ofW HT_.out HW_.out (by kernel_rfl)) (fun _ _ _ h => h) (Or.inl ⟨by rfl, ?_⟩) hHeld ?_ ?_
            rotate_left
            ·rintro w' ⟨s0, s1, s2, s3, s4, s5, s6⟩
             go_simp;with_reducible rfl
            rotate_left;·simp only [Act.put, setIfInBounds_toArray, set_cons_zero, set_cons_succ, i64_w, i32_w];rfl
            refine take_ (i := 10) (N := some 66) (v := ?_) (a' := ?_) #[T,T,T,T,T,T,T,T,T,T,T,F,F] rfl rfl (take_ofW HT_.out HW_.out (by kernel_rfl)) (fun _ _ _ h => h) (Or.inl ⟨by rfl, ?_⟩) hHeld ?_ ?_
            rotate_left
            ·rintro w' ⟨s0, s1, s2, s3, s4, s5, s6⟩
             go_simp;with_reducible rfl
            rotate_left;·simp only [Act.put, setIfInBounds_toArray, set_cons_zero, set_cons_succ, i64_w, i32_w];rfl
            refine one_ (i := 11) (N := some 67) #[T,T,T,T,T,T,T,T,T,T,T,T,F] rfl rfl (one_of HT_.out (by kernel_rfl)) (by decide) (fun K hK => ?_)
            refine goes_ Tryd.func75 (by kernel_rfl) rfl #[.agg #[.slice A0_0 l0_0.length c0_0, .slice A0_1 l0_1.length c0_1, .slice A0_2 l0_2.length c0_2], .int .i64 ((rd_T128 t475 x5_3).f0), .int .i64 ((rd_T128 t475 x5_3).f1)] (by rfl) rfl rfl aok ?_
            with_reducible refine (crossbuckref05_Port.calls k3 _ _ l0_0 _ _ l0_1 _ _ l0_2 ((rd_T128 t475 x5_3).f0) ((rd_T128 t475 x5_3).f1) t480 _ ?side1 ?side2 ?side3 ?side4 ?side5 ?side6 A22.out).mono ?_
            (case side1 => repeat (first | exact (Kd.C_below HR0_0.out HB.out) | (with_reducible refine Kd.C_alloc ?_ _) | (with_reducible refine Kd.C_drewN ?_ _) | (with_reducible refine Kd.C_drew ?_)))
            (case side2 => exact HC0_0.out)
            (case side3 => repeat (first | exact (Kd.C_below HR0_1.out HB.out) | (with_reducible refine Kd.C_alloc ?_ _) | (with_reducible refine Kd.C_drewN ?_ _) | (with_reducible refine Kd.C_drew ?_)))
            (case side4 => exact HC0_1.out)
            (case side5 => repeat (first | exact (Kd.C_below HR0_2.out HB.out) | (with_reducible refine Kd.C_alloc ?_ _) | (with_reducible refine Kd.C_drewN ?_ _) | (with_reducible refine Kd.C_drew ?_)))
            (case side6 => exact HC0_2.out)
            rintro e w26 ⟨rfl, hb⟩;have HS3_ := (hb.cell (World.block_lt_of_cell? _ _ (hHeld.2.2.2.1))).trans (hHeld.2.2.2.1);have HS4_ := (hb.cell (World.block_lt_of_cell? _ _ (hHeld.2.2.2.2.1))).trans (hHeld.2.2.2.2.1);have HS5_ := (hb.cell (World.block_lt_of_cell? _ _ (hHeld.2.2.2.2.2.1))).trans (hHeld.2.2.2.2.2.1);have HS6_ := (hb.cell (World.block_lt_of_cell? _ _ (hHeld.2.2.2.2.2.2))).trans (hHeld.2.2.2.2.2.2);refine ⟨_, rfl, ?_⟩
            replace HO_4 := Aside0.mk (Kd.R_below (rp HO_4) hb)
            replace BK472 := Aside0.mk (bb BK472.out hb)
            replace HB := Aside0.mk (below_step (bel HB) hb)
            (try clear hb);(try clear hb2);(try clear hk);(try clear hi)
            refine hK.out _ _ ⟨(blk_cell BK472.out 0).trans rfl, (blk_cell BK472.out 1).trans rfl, (blk_cell BK472.out 2).trans rfl, HS3_, HS4_, HS5_, HS6_⟩ (fun hHeld => ?_)
            clear hK K
            refine nput ?_
            refine pu 12 (some 6) #[T,T,T,T,T,T,T,T,T,T,T,T,T] (any_of HT_.out (by kernel_rfl)) ?_
            refine done_ (done_of HT_.out (by kernel_rfl)) ?_
            try go_wp2
            go_loopg [7] k3 (fun kq v7 w' => ∃ (x7_4 : Int), v7 = .int .i64 x7_4 ∧ Aside0 (crossbuckref05_Check.l2 kq t475 x5_3 x7_4 l0_0 l0_1 l0_2 = some r) ∧ Aside0 (kq ≤ k3) ∧ Aside0 (Kd.R k128 128 w' w.heap.size (fun _ => True) (.slice (some ad478) t475.length co24) t475) ∧ Aside0 (w'.heap[gb472]? = some (.cells #[(.slice A0_0 l0_0.length c0_0), (.slice A0_1 l0_1.length c0_1), (.slice A0_2 l0_2.length c0_2)] 26 (0, 0))) ∧ Aside0 (Below w.heap.size w w'))
            case atStart => exact ⟨(0), (by first | rfl | (simp; done) | (simp [*]; done)), H', ⟨Nat.le_refl _⟩, ⟨rp HO_4⟩, ⟨bkp⟩, ⟨by repeat (first | (with_reducible first | exact HB.out | apply below_alloc | apply pw_below_drewN | apply below_drew1 | refine below_set ?_ GE472.out) | exact HB.out)⟩⟩
            case round =>
             clear H'
             try clear c1
             try clear c2
             try clear p2
             try clear c4
             try clear c4b0
             try clear c4b1
             try clear p4
             try clear q4
             try clear hx4
             try clear c6
             try clear c6b0
             try clear c6b1
             try clear p6
             try clear c7
             try clear c9
             try clear c10
             try clear c10b0
             try clear c11
             try clear c11b0
             try clear c12
             try clear c12b0
             try clear c14
             try clear c14b0
             try clear c20
             try clear c20b0
             try clear c21
             try clear c21b0
             try clear c23
             try clear c23b0
             try clear c23b1
             try clear hcz13
             try clear hcz15
             try clear hcz16
             try clear hcz18
             try clear hcz5
             try clear hcz7
             try clear hcz8
             try clear hx473_0
             try clear hx474_0
             try clear hx478_0
             try clear hx478_1
             try clear hx479_0
             try clear hx479_1
             try clear p2
             try clear p4
             try clear p473
             try clear p474
             try clear p478
             try clear p479
             try clear p6
             try clear q4
             try clear q473
             try clear q474
             try clear q478
             try clear q479
             obtain ⟨x7_4, rfl, HA, HK4, HO_4, BK472, HB⟩ := hrel
             cases gk with
             | zero => exact absurd HA.out (by simp [crossbuckref05_Check.l2])
             | succ k4 =>
              have H := HA.out;clear HA;simp only [crossbuckref05_Check.l2] at H
              by_cases c27 : x7_4 < x5_3
              ·rw [if_pos c27] at H
               have c27b0 : decide (x7_4 < x5_3) = true := decide_eq_true c27;clear c27
               by_cases c28 : 0 ≤ x7_4
               ·rw [if_pos c28] at H
                have c28b0 : decide (0 ≤ x7_4) = true := decide_eq_true c28;clear c28
                by_cases c29 : x7_4 < (t475.length : Int)
                ·rw [if_pos c29] at H
                 have c29b0 : decide (x7_4 < (t475.length : Int)) = true := decide_eq_true c29;clear c29
                 by_cases c30 : 0 ≤ x5_3
                 ·rw [if_pos c30] at H
                  have c30b0 : decide (0 ≤ x5_3) = true := decide_eq_true c30;clear c30
                  by_cases c31 : x5_3 < (t475.length : Int)
                  ·rw [if_pos c31] at H
                   have c31b0 : decide (x5_3 < (t475.length : Int)) = true := decide_eq_true c31;clear c31
                   by_cases c32 : (((rd_T128 t475 x7_4).f0) == ((rd_T128 t475 x5_3).f0) && (((rd_T128 t475 x7_4).f1) == ((rd_T128 t475 x5_3).f1))) = true
                   ·rw [if_pos c32] at H
                    have c32b0 : (((rd_T128 t475 x7_4).f0) == ((rd_T128 t475 x5_3).f0) && (((rd_T128 t475 x7_4).f1) == ((rd_T128 t475 x5_3).f1))) = true := c32
                    (try (have c32b1 : decide (((rd_T128 t475 x7_4).f0) = ((rd_T128 t475 x5_3).f0) && (((rd_T128 t475 x7_4).f1) == ((rd_T128 t475 x5_3).f1))) = true := by simpa using c32))
                    (try (have c32b2 : (((rd_T128 t475 x7_4).f0) == ((rd_T128 t475 x5_3).f0) && (((rd_T128 t475 x7_4).f1) == ((rd_T128 t475 x5_3).f1))) = true := by simpa using c32))
                    clear c32;obtain rfl := Option.some.inj H
                    try go_wp2
                    replace HO_4 := Aside0.mk (Kd.R_drew HO_4.out);replace BK472 := Aside0.mk (blk_drew BK472.out);replace HB := Aside0.mk (below_drew1 HB.out)
                    have p481 : 0 ≤ (x7_4 : Int) := of_decide_eq_true (by first | (with_reducible assumption) | assumption)
                    have q481 : x7_4 < (t475.length : Int) := of_decide_eq_true (by first | (with_reducible assumption) | assumption)
                    obtain ⟨ad481, e481, hx481_0, hx481_1⟩ := at_T128 (Kd.R_reads' HO_4.out).2.2 x7_4 p481 q481
                    obtain rfl : ad478 = ad481 := (by injection e481)
                    replace p481 := eq_true p481;replace q481 := eq_true q481
                    have p482 : 0 ≤ (x5_3 : Int) := of_decide_eq_true (by first | (with_reducible assumption) | assumption)
                    have q482 : x5_3 < (t475.length : Int) := of_decide_eq_true (by first | (with_reducible assumption) | assumption)
                    obtain ⟨ad482, e482, hx482_0, hx482_1⟩ := at_T128 (Kd.R_reads' HO_4.out).2.2 x5_3 p482 q482
                    obtain rfl : ad478 = ad482 := (by injection e482)
                    replace p482 := eq_true p482;replace q482 := eq_true q482
                    refine start_ (n := 9) (S := fun w' => w'.cell? (ad478.add ((x7_4).toNat * 2)) = some (.int .i64 ((rd_T128 t475 x7_4).f0)) ∧ w'.cell? ⟨(ad478.add ((x7_4).toNat * 2)).block, (ad478.add ((x7_4).toNat * 2)).off + 1, none⟩ = some (.int .i64 ((rd_T128 t475 x7_4).f1)) ∧ w'.cell? (ad478.add ((x5_3).toNat * 2)) = some (.int .i64 ((rd_T128 t475 x5_3).f0)) ∧ w'.cell? ⟨(ad478.add ((x5_3).toNat * 2)).block, (ad478.add ((x5_3).toNat * 2)).off + 1, none⟩ = some (.int .i64 ((rd_T128 t475 x5_3).f1))) (ds := []) #[F,F,F,F,F,F,F,F,F] (by kernel_rfl) rfl rfl ⟨hx481_0, hx481_1, hx482_0, hx482_1⟩ (fun hHeld => ?_); refine with_tabW crossbuckref05_Check.tab18 crossbuckref05_Check.bits18 (fun HT_ HW_ => ?_)
                    generalize wr.drew = w33 at HO_4 BK472 HB hx481_0 hx481_1 hx482_0 hx482_1 hHeld ⊢
                    refine pu 0 (some 76) #[T,F,F,F,F,F,F,F,F] (any_of HT_.out (by kernel_rfl)) ?_
                    refine pu 1 (some 77) #[T,T,F,F,F,F,F,F,F] (any_of HT_.out (by kernel_rfl)) ?_
                    refine pu 2 (some 78) #[T,T,T,F,F,F,F,F,F] (any_of HT_.out (by kernel_rfl)) ?_
                    refine pu 4 (some 80) #[T,T,T,F,T,F,F,F,F] (any_of HT_.out (by kernel_rfl)) ?_
                    refine pu 5 (some 81) #[T,T,T,F,T,T,F,F,F] (any_of HT_.out (by kernel_rfl)) ?_
                    refine pu 6 (some 82) #[T,T,T,F,T,T,T,F,F] (any_of HT_.out (by kernel_rfl)) ?_
                    refine take_ (i := 3) (N := some 79) (v := ?_) (a' := ?_) #[T,T,T,T,T,T,T,F,F] rfl rfl (take_ofW HT_.out HW_.out (by kernel_rfl)) (fun _ _ _ h => h) (Or.inl ⟨by rfl, ?_⟩) hHeld ?_ ?_
                    rotate_left
                    ·rintro w' ⟨s0, s1, s2, s3⟩
                     go_simp;with_reducible rfl
                    rotate_left;·simp only [Act.put, setIfInBounds_toArray, set_cons_zero, set_cons_succ, i64_w, i32_w];rfl
                    refine take_ (i := 7) (N := some 83) (v := ?_) (a' := ?_) #[T,T,T,T,T,T,T,T,F] rfl rfl (take_ofW HT_.out HW_.out (by kernel_rfl)) (fun _ _ _ h => h) (Or.inl ⟨by rfl, ?_⟩) hHeld ?_ ?_
                    rotate_left
                    ·rintro w' ⟨s0, s1, s2, s3⟩
                     go_simp;with_reducible rfl
                    rotate_left;·simp only [Act.put, setIfInBounds_toArray, set_cons_zero, set_cons_succ, i64_w, i32_w];rfl
                    refine pu 8 (some 84) #[T,T,T,T,T,T,T,T,T] (any_of HT_.out (by kernel_rfl)) ?_
                    refine done_ (done_of HT_.out (by kernel_rfl)) ?_
                    try go_wp2
                    go_ret
                    exact ⟨fin, bel HB⟩
                   ·rw [if_neg c32] at H
                    have c32b0 : (((rd_T128 t475 x7_4).f0) == ((rd_T128 t475 x5_3).f0) && (((rd_T128 t475 x7_4).f1) == ((rd_T128 t475 x5_3).f1))) = false := by simpa using c32
                    (try (have c32b1 : decide (((rd_T128 t475 x7_4).f0) = ((rd_T128 t475 x5_3).f0) && (((rd_T128 t475 x7_4).f1) == ((rd_T128 t475 x5_3).f1))) = false := by simpa using c32))
                    (try (have c32b2 : (((rd_T128 t475 x7_4).f0) == ((rd_T128 t475 x5_3).f0) && (((rd_T128 t475 x7_4).f1) == ((rd_T128 t475 x5_3).f1))) = false := by simpa using c32))
                    (try (have c32b3 : ¬ (((rd_T128 t475 x7_4).f0) = ((rd_T128 t475 x5_3).f0) && (((rd_T128 t475 x7_4).f1) == ((rd_T128 t475 x5_3).f1))) := by simpa using c32))
                    clear c32;have H' := Aside0.mk H;clear H
                    try go_wp2
                    replace HO_4 := Aside0.mk (Kd.R_drew HO_4.out);replace BK472 := Aside0.mk (blk_drew BK472.out);replace HB := Aside0.mk (below_drew1 HB.out)
                    have p481 : 0 ≤ (x7_4 : Int) := of_decide_eq_true (by first | (with_reducible assumption) | assumption)
                    have q481 : x7_4 < (t475.length : Int) := of_decide_eq_true (by first | (with_reducible assumption) | assumption)
                    obtain ⟨ad481, e481, hx481_0, hx481_1⟩ := at_T128 (Kd.R_reads' HO_4.out).2.2 x7_4 p481 q481
                    obtain rfl : ad478 = ad481 := (by injection e481)
                    replace p481 := eq_true p481;replace q481 := eq_true q481
                    have p482 : 0 ≤ (x5_3 : Int) := of_decide_eq_true (by first | (with_reducible assumption) | assumption)
                    have q482 : x5_3 < (t475.length : Int) := of_decide_eq_true (by first | (with_reducible assumption) | assumption)
                    obtain ⟨ad482, e482, hx482_0, hx482_1⟩ := at_T128 (Kd.R_reads' HO_4.out).2.2 x5_3 p482 q482
                    obtain rfl : ad478 = ad482 := (by injection e482)
                    replace p482 := eq_true p482;replace q482 := eq_true q482
                    refine start_ (n := 9) (S := fun w' => w'.cell? (ad478.add ((x7_4).toNat * 2)) = some (.int .i64 ((rd_T128 t475 x7_4).f0)) ∧ w'.cell? ⟨(ad478.add ((x7_4).toNat * 2)).block, (ad478.add ((x7_4).toNat * 2)).off + 1, none⟩ = some (.int .i64 ((rd_T128 t475 x7_4).f1)) ∧ w'.cell? (ad478.add ((x5_3).toNat * 2)) = some (.int .i64 ((rd_T128 t475 x5_3).f0)) ∧ w'.cell? ⟨(ad478.add ((x5_3).toNat * 2)).block, (ad478.add ((x5_3).toNat * 2)).off + 1, none⟩ = some (.int .i64 ((rd_T128 t475 x5_3).f1))) (ds := []) #[F,F,F,F,F,F,F,F,F] (by kernel_rfl) rfl rfl ⟨hx481_0, hx481_1, hx482_0, hx482_1⟩ (fun hHeld => ?_); refine with_tabW crossbuckref05_Check.tab18 crossbuckref05_Check.bits18 (fun HT_ HW_ => ?_)
                    generalize wr.drew = w34 at HO_4 BK472 HB hx481_0 hx481_1 hx482_0 hx482_1 hHeld ⊢
                    refine pu 0 (some 76) #[T,F,F,F,F,F,F,F,F] (any_of HT_.out (by kernel_rfl)) ?_
                    refine pu 1 (some 77) #[T,T,F,F,F,F,F,F,F] (any_of HT_.out (by kernel_rfl)) ?_
                    refine pu 2 (some 78) #[T,T,T,F,F,F,F,F,F] (any_of HT_.out (by kernel_rfl)) ?_
                    refine pu 4 (some 80) #[T,T,T,F,T,F,F,F,F] (any_of HT_.out (by kernel_rfl)) ?_
                    refine pu 5 (some 81) #[T,T,T,F,T,T,F,F,F] (any_of HT_.out (by kernel_rfl)) ?_
                    refine pu 6 (some 82) #[T,T,T,F,T,T,T,F,F] (any_of HT_.out (by kernel_rfl)) ?_
                    refine take_ (i := 3) (N := some 79) (v := ?_) (a' := ?_) #[T,T,T,T,T,T,T,F,F] rfl rfl (take_ofW HT_.out HW_.out (by kernel_rfl)) (fun _ _ _ h => h) (Or.inl ⟨by rfl, ?_⟩) hHeld ?_ ?_
                    rotate_left
                    ·rintro w' ⟨s0, s1, s2, s3⟩
                     go_simp;with_reducible rfl
                    rotate_left;·simp only [Act.put, setIfInBounds_toArray, set_cons_zero, set_cons_succ, i64_w, i32_w];rfl
                    refine take_ (i := 7) (N := some 83) (v := ?_) (a' := ?_) #[T,T,T,T,T,T,T,T,F] rfl rfl (take_ofW HT_.out HW_.out (by kernel_rfl)) (fun _ _ _ h => h) (Or.inl ⟨by rfl, ?_⟩) hHeld ?_ ?_
                    rotate_left
                    ·rintro w' ⟨s0, s1, s2, s3⟩
                     go_simp;with_reducible rfl
                    rotate_left;·simp only [Act.put, setIfInBounds_toArray, set_cons_zero, set_cons_succ, i64_w, i32_w];rfl
                    refine pu 8 (some 84) #[T,T,T,T,T,T,T,T,T] (any_of HT_.out (by kernel_rfl)) ?_
                    refine done_ (done_of HT_.out (by kernel_rfl)) ?_
                    try go_wp2
                    go_roundg k4
                    case measure => have := HJ1.out; have := HK2.out; have := HK3.out; have := HK4.out; omega
                    case rel => exact ⟨(wrap64 (x7_4 + 1)), (by first | rfl | (simp; done) | (simp [*]; done)), H', ⟨by have := HJ1.out; have := HK2.out; have := HK3.out; have := HK4.out; omega⟩, ⟨rp HO_4⟩, ⟨bkp⟩, ⟨by repeat (first | (with_reducible first | exact HB.out | apply below_alloc | apply pw_below_drewN | apply below_drew1 | refine below_set ?_ GE472.out) | exact HB.out)⟩⟩
                  ·rw [if_neg c31] at H
                   exact absurd H (by simp)
                 ·rw [if_neg c30] at H
                  exact absurd H (by simp)
                ·rw [if_neg c29] at H
                 exact absurd H (by simp)
               ·rw [if_neg c28] at H
                exact absurd H (by simp)
              ·rw [if_neg c27] at H
               have c27b0 : decide (x7_4 < x5_3) = false := decide_eq_false c27;clear c27;have H' := Aside0.mk H;clear H;go_wp2;go_roundg k4
               case measure => have := HJ1.out; have := HK2.out; have := HK3.out; have := HK4.out; omega
               case rel => exact ⟨(wrap64 (x5_3 + 1)), (by first | rfl | (simp; done) | (simp [*]; done)), H', ⟨by have := HJ1.out; have := HK2.out; have := HK3.out; have := HK4.out; omega⟩, ⟨rp HO_4⟩, ⟨bkp⟩, ⟨by repeat (first | (with_reducible first | exact HB.out | apply below_alloc | apply pw_below_drewN | apply below_drew1 | refine below_set ?_ GE472.out) | exact HB.out)⟩⟩
           ·rw [if_neg c23] at H
            have c23b0 : (t480 == 0) = false := beq_eq_false_iff_ne.mpr c23;have c23b1 : (t480 != 0) = true := bne_iff_ne.mpr c23;obtain rfl := Option.some.inj H;obtain ⟨Ao35, co35, eo35⟩ := Kd.R_slice HO_4.out;subst eo35
            try go_wp2
            replace HO_4 := Aside0.mk (Kd.R_drew HO_4.out);replace BK472 := Aside0.mk (blk_drew BK472.out);replace HB := Aside0.mk (below_drew1 HB.out)
            have p478 : 0 ≤ (x5_3 : Int) := of_decide_eq_true (by first | (with_reducible assumption) | assumption)
            have q478 : x5_3 < (t475.length : Int) := of_decide_eq_true (by first | (with_reducible assumption) | assumption)
            obtain ⟨ad478, e478, hx478_0, hx478_1⟩ := at_T128 (Kd.R_reads' HO_4.out).2.2 x5_3 p478 q478
            cases e478
            replace p478 := eq_true p478;replace q478 := eq_true q478
            have p479 : 0 ≤ (x5_3 : Int) := of_decide_eq_true (by first | (with_reducible assumption) | assumption)
            have q479 : x5_3 < (t475.length : Int) := of_decide_eq_true (by first | (with_reducible assumption) | assumption)
            obtain ⟨ad479, e479, hx479_0, hx479_1⟩ := at_T128 (Kd.R_reads' HO_4.out).2.2 x5_3 p479 q479
            obtain rfl : ad478 = ad479 := (by injection e479)
            replace p479 := eq_true p479;replace q479 := eq_true q479
            refine start_ (n := 13) (S := fun w' => w'.cell? ⟨gb472, 0, none⟩ = some (.slice A0_0 l0_0.length c0_0) ∧ w'.cell? ⟨gb472, 1, none⟩ = some (.slice A0_1 l0_1.length c0_1) ∧ w'.cell? ⟨gb472, 2, none⟩ = some (.slice A0_2 l0_2.length c0_2) ∧ w'.cell? (ad478.add ((x5_3).toNat * 2)) = some (.int .i64 ((rd_T128 t475 x5_3).f0)) ∧ w'.cell? ⟨(ad478.add ((x5_3).toNat * 2)).block, (ad478.add ((x5_3).toNat * 2)).off + 1, none⟩ = some (.int .i64 ((rd_T128 t475 x5_3).f1)) ∧ w'.cell? (ad478.add ((x5_3).toNat * 2)) = some (.int .i64 ((rd_T128 t475 x5_3).f0)) ∧ w'.cell? ⟨(ad478.add ((x5_3).toNat * 2)).block, (ad478.add ((x5_3).toNat * 2)).off + 1, none⟩ = some (.int .i64 ((rd_T128 t475 x5_3).f1))) (ds := []) #[F,F,F,F,F,F,F,F,F,F,F,F,F] (by kernel_rfl) rfl rfl ⟨(blk_cell BK472.out 0).trans rfl, (blk_cell BK472.out 1).trans rfl, (blk_cell BK472.out 2).trans rfl, hx478_0, hx478_1, hx479_0, hx479_1⟩ (fun hHeld => ?_); refine with_tabW crossbuckref05_Check.tab12 crossbuckref05_Check.bits12 (fun HT_ HW_ => ?_)
            generalize wr.drew = w36 at HO_4 BK472 HB hx478_0 hx478_1 hx479_0 hx479_1 hHeld ⊢
            refine pu 1 (some 57) #[F,T,F,F,F,F,F,F,F,F,F,F,F] (any_of HT_.out (by kernel_rfl)) ?_
            refine pu 2 (some 58) #[F,T,T,F,F,F,F,F,F,F,F,F,F] (any_of HT_.out (by kernel_rfl)) ?_
            refine pu 3 (some 59) #[F,T,T,T,F,F,F,F,F,F,F,F,F] (any_of HT_.out (by kernel_rfl)) ?_
            refine pu 4 (some 60) #[F,T,T,T,T,F,F,F,F,F,F,F,F] (any_of HT_.out (by kernel_rfl)) ?_
            refine pu 6 (some 62) #[F,T,T,T,T,F,T,F,F,F,F,F,F] (any_of HT_.out (by kernel_rfl)) ?_
            refine pu 7 (some 63) #[F,T,T,T,T,F,T,T,F,F,F,F,F] (any_of HT_.out (by kernel_rfl)) ?_
            refine pu 8 (some 64) #[F,T,T,T,T,F,T,T,T,F,F,F,F] (any_of HT_.out (by kernel_rfl)) ?_
            refine pu 9 (some 65) #[F,T,T,T,T,F,T,T,T,T,F,F,F] (any_of HT_.out (by kernel_rfl)) ?_
            refine take_ (i := 0) (N := some 56) (v := ?_) (a' := ?_) #[T,T,T,T,T,F,T,T,T,T,F,F,F] rfl rfl (take_ofW HT_.out HW_.out (by kernel_rfl)) (fun _ _ _ h => h) (Or.inl ⟨by rfl, ?_⟩) hHeld ?_ ?_
            rotate_left
            ·rintro w' ⟨s0, s1, s2, s3, s4, s5, s6⟩
             go_simp;with_reducible rfl
            rotate_left;·simp only [Act.put, setIfInBounds_toArray, set_cons_zero, set_cons_succ, i64_w, i32_w];rfl
            refine take_ (i := 5) (N := some 61) (v := ?_) (a' := ?_) #[T,T,T,T,T,T,T,T,T,T,F,F,F] rfl rfl (take_ofW HT_.out HW_.out (by kernel_rfl)) (fun _ _ _ h => h) (Or.inl ⟨by rfl, ?_⟩) hHeld ?_ ?_
            rotate_left
            ·rintro w' ⟨s0, s1, s2, s3, s4, s5, s6⟩
             go_simp;with_reducible rfl
            rotate_left;·simp only [Act.put, setIfInBounds_toArray, set_cons_zero, set_cons_succ, i64_w, i32_w];rfl
            refine take_ (i := 10) (N := some 66) (v := ?_) (a' := ?_) #[T,T,T,T,T,T,T,T,T,T,T,F,F] rfl rfl (take_ofW HT_.out HW_.out (by kernel_rfl)) (fun _ _ _ h => h) (Or.inl ⟨by rfl, ?_⟩) hHeld ?_ ?_
            rotate_left
            ·rintro w' ⟨s0, s1, s2, s3, s4, s5, s6⟩
             go_simp;with_reducible rfl
            rotate_left;·simp only [Act.put, setIfInBounds_toArray, set_cons_zero, set_cons_succ, i64_w, i32_w];rfl
            refine one_ (i := 11) (N := some 67) #[T,T,T,T,T,T,T,T,T,T,T,T,F] rfl rfl (one_of HT_.out (by kernel_rfl)) (by decide) (fun K hK => ?_)
            refine goes_ Tryd.func75 (by kernel_rfl) rfl #[.agg #[.slice A0_0 l0_0.length c0_0, .slice A0_1 l0_1.length c0_1, .slice A0_2 l0_2.length c0_2], .int .i64 ((rd_T128 t475 x5_3).f0), .int .i64 ((rd_T128 t475 x5_3).f1)] (by rfl) rfl rfl aok ?_
            with_reducible refine (crossbuckref05_Port.calls k3 _ _ l0_0 _ _ l0_1 _ _ l0_2 ((rd_T128 t475 x5_3).f0) ((rd_T128 t475 x5_3).f1) t480 _ ?side1 ?side2 ?side3 ?side4 ?side5 ?side6 A22.out).mono ?_
            (case side1 => repeat (first | exact (Kd.C_below HR0_0.out HB.out) | (with_reducible refine Kd.C_alloc ?_ _) | (with_reducible refine Kd.C_drewN ?_ _) | (with_reducible refine Kd.C_drew ?_)))
            (case side2 => exact HC0_0.out)
            (case side3 => repeat (first | exact (Kd.C_below HR0_1.out HB.out) | (with_reducible refine Kd.C_alloc ?_ _) | (with_reducible refine Kd.C_drewN ?_ _) | (with_reducible refine Kd.C_drew ?_)))
            (case side4 => exact HC0_1.out)
            (case side5 => repeat (first | exact (Kd.C_below HR0_2.out HB.out) | (with_reducible refine Kd.C_alloc ?_ _) | (with_reducible refine Kd.C_drewN ?_ _) | (with_reducible refine Kd.C_drew ?_)))
            (case side6 => exact HC0_2.out)
            rintro e w37 ⟨rfl, hb⟩;have HS3_ := (hb.cell (World.block_lt_of_cell? _ _ (hHeld.2.2.2.1))).trans (hHeld.2.2.2.1);have HS4_ := (hb.cell (World.block_lt_of_cell? _ _ (hHeld.2.2.2.2.1))).trans (hHeld.2.2.2.2.1);have HS5_ := (hb.cell (World.block_lt_of_cell? _ _ (hHeld.2.2.2.2.2.1))).trans (hHeld.2.2.2.2.2.1);have HS6_ := (hb.cell (World.block_lt_of_cell? _ _ (hHeld.2.2.2.2.2.2))).trans (hHeld.2.2.2.2.2.2);refine ⟨_, rfl, ?_⟩
            replace HO_4 := Aside0.mk (Kd.R_below (rp HO_4) hb)
            replace BK472 := Aside0.mk (bb BK472.out hb)
            replace HB := Aside0.mk (below_step (bel HB) hb)
            (try clear hb);(try clear hb2);(try clear hk);(try clear hi)
            refine hK.out _ _ ⟨(blk_cell BK472.out 0).trans rfl, (blk_cell BK472.out 1).trans rfl, (blk_cell BK472.out 2).trans rfl, HS3_, HS4_, HS5_, HS6_⟩ (fun hHeld => ?_)
            clear hK K
            refine nput ?_
            refine pu 12 (some 6) #[T,T,T,T,T,T,T,T,T,T,T,T,T] (any_of HT_.out (by kernel_rfl)) ?_
            refine done_ (done_of HT_.out (by kernel_rfl)) ?_
            try go_wp2
            go_ret
            exact ⟨fin, bel HB⟩
          ·rw [if_neg c21] at H
           exact absurd H (by simp)
         ·rw [if_neg c20] at H
          have c20b0 : decide (x5_3 < (t475.length : Int)) = false := decide_eq_false c20;clear c20;have H' := Aside0.mk H;clear H;obtain ⟨Ao38, co38, eo38⟩ := Kd.R_slice HO_4.out;subst eo38;go_wp2
          go_loopg [8] k3 (fun kq v8 w' => ∃ (x8_4 : Int), v8 = .int .i64 x8_4 ∧ Aside0 (crossbuckref05_Check.l3 kq x8_4 l0_0 l0_1 l0_2 = some r) ∧ Aside0 (kq ≤ k3) ∧ Aside0 (w'.heap[gb472]? = some (.cells #[(.slice A0_0 l0_0.length c0_0), (.slice A0_1 l0_1.length c0_1), (.slice A0_2 l0_2.length c0_2)] 26 (0, 0))) ∧ Aside0 (Below w.heap.size w w'))
          case atStart => exact ⟨(0), (by first | rfl | (simp; done) | (simp [*]; done)), H', ⟨Nat.le_refl _⟩, ⟨bkp⟩, ⟨by repeat (first | (with_reducible first | exact HB.out | apply below_alloc | apply pw_below_drewN | apply below_drew1 | refine below_set ?_ GE472.out) | exact HB.out)⟩⟩
          case round =>
           clear H'
           try clear c1
           try clear c2
           try clear p2
           try clear c3
           try clear c4
           try clear c4b0
           try clear c4b1
           try clear p4
           try clear q4
           try clear hx4
           try clear c6
           try clear c6b0
           try clear c6b1
           try clear p6
           try clear c7
           try clear c9
           try clear c10
           try clear c10b0
           try clear c11
           try clear c11b0
           try clear c12
           try clear c12b0
           try clear c14
           try clear c14b0
           try clear c20
           try clear c20b0
           try clear c21
           try clear c21b0
           try clear c23
           try clear c23b0
           try clear c23b1
           try clear c27
           try clear c27b0
           try clear c28
           try clear c28b0
           try clear c29
           try clear c29b0
           try clear c30
           try clear c30b0
           try clear c31
           try clear c31b0
           try clear c32
           try clear c32b0
           try clear c32b1
           try clear c32b2
           try clear hcz13
           try clear hcz15
           try clear hcz16
           try clear hcz18
           try clear hcz5
           try clear hcz7
           try clear hcz8
           try clear hx473_0
           try clear hx474_0
           try clear hx478_0
           try clear hx478_1
           try clear hx479_0
           try clear hx479_1
           try clear hx481_0
           try clear hx481_1
           try clear hx482_0
           try clear hx482_1
           try clear p2
           try clear p4
           try clear p473
           try clear p474
           try clear p478
           try clear p479
           try clear p481
           try clear p482
           try clear p6
           try clear q4
           try clear q473
           try clear q474
           try clear q478
           try clear q479
           try clear q481
           try clear q482
           obtain ⟨x8_4, rfl, HA, HK4, BK472, HB⟩ := hrel
           cases gk with
           | zero => exact absurd HA.out (by simp [crossbuckref05_Check.l3])
           | succ k4 =>
            have H := HA.out;clear HA;simp only [crossbuckref05_Check.l3] at H
            by_cases c39 : x8_4 < (l0_2.length : Int)
            ·rw [if_pos c39] at H
             have c39b0 : decide (x8_4 < (l0_2.length : Int)) = true := decide_eq_true c39;clear c39
             by_cases c40 : 0 ≤ x8_4
             ·rw [if_pos c40] at H
              have c40b0 : decide (0 ≤ x8_4) = true := decide_eq_true c40;clear c40;replace H := Option.bind_eq_some_iff.mp H;obtain ⟨t485, A410, H⟩ := H
              replace H : (if t485 = 0 then ((crossbuckref04_Check.f k4 ((rd_T130 l0_2 x8_4).f4.f0.f0) ((rd_T130 l0_2 x8_4).f4.f0.f1) ((rd_T130 l0_2 x8_4).f4.f1.f0) ((rd_T130 l0_2 x8_4).f4.f1.f1) ((rd_T130 l0_2 x8_4).f4.f2) ((rd_T130 l0_2 x8_4).f4.f3.f0) ((rd_T130 l0_2 x8_4).f4.f3.f1) ((rd_T130 l0_2 x8_4).f4.f4.f0) ((rd_T130 l0_2 x8_4).f4.f4.f1)).bind fun t487 => (if t487 = 0 then (crossbuckref05_Check.l3 k4 (wrap64 (x8_4 + 1)) l0_0 l0_1 l0_2) else (some t487))) else (some t485)) = some r := H
              have A41 := Aside0.mk A410;clear A410
              by_cases c42 : t485 = 0
              ·rw [if_pos c42] at H
               have c42b0 : (t485 == 0) = true := beq_iff_eq.mpr c42;have c42b1 : (t485 != 0) = false := bne_eq_false_iff_eq.mpr c42;clear c42;replace H := Option.bind_eq_some_iff.mp H;obtain ⟨t487, A430, H⟩ := H;replace H : (if t487 = 0 then (crossbuckref05_Check.l3 k4 (wrap64 (x8_4 + 1)) l0_0 l0_1 l0_2) else (some t487)) = some r := H;have A43 := Aside0.mk A430;clear A430
               by_cases c44 : t487 = 0
               ·rw [if_pos c44] at H
                have c44b0 : (t487 == 0) = true := beq_iff_eq.mpr c44;have c44b1 : (t487 != 0) = false := bne_eq_false_iff_eq.mpr c44;clear c44;have H' := Aside0.mk H;clear H;have hcz45 := cz3 BK472.out
                try go_wp2
                replace BK472 := Aside0.mk (blk_drew BK472.out);replace HB := Aside0.mk (below_drew1 HB.out)
                have p483 : 0 ≤ (x8_4 : Int) := of_decide_eq_true (by first | (with_reducible assumption) | assumption)
                have q483 : x8_4 < (l0_2.length : Int) := of_decide_eq_true (by first | (with_reducible assumption) | assumption)
                obtain ⟨ad483, e483, hx483_0, hx483_1, hx483_2, hx483_3, hx483_4, hx483_5, hx483_6, hx483_7, hx483_8, hx483_9, hx483_10, hx483_11, hx483_12⟩ := at_T130 HR0_2.out x8_4 p483 q483;have hw483_12 := hx483_12;have hw483_11 := hx483_11;have hw483_10 := hx483_10;have hw483_9 := hx483_9;have hw483_8 := hx483_8;have hw483_7 := hx483_7;have hw483_6 := hx483_6;have hw483_5 := hx483_5;have hw483_4 := hx483_4;have hw483_3 := hx483_3;have hw483_2 := hx483_2;have hw483_1 := hx483_1;have hw483_0 := hx483_0
                cases e483
                replace hx483_0 := mv HB hx483_0;replace hx483_1 := mv HB hx483_1;replace hx483_2 := mv HB hx483_2;replace hx483_3 := mv HB hx483_3;replace hx483_4 := mv HB hx483_4;replace hx483_5 := mv HB hx483_5;replace hx483_6 := mv HB hx483_6;replace hx483_7 := mv HB hx483_7;replace hx483_8 := mv HB hx483_8;replace hx483_9 := mv HB hx483_9;replace hx483_10 := mv HB hx483_10;replace hx483_11 := mv HB hx483_11;replace hx483_12 := mv HB hx483_12;replace p483 := eq_true p483;replace q483 := eq_true q483
                have p484 : 0 ≤ (x8_4 : Int) := of_decide_eq_true (by first | (with_reducible assumption) | assumption)
                have q484 : x8_4 < (l0_2.length : Int) := of_decide_eq_true (by first | (with_reducible assumption) | assumption)
                obtain ⟨ad484, e484, hx484_0, hx484_1, hx484_2, hx484_3, hx484_4, hx484_5, hx484_6, hx484_7, hx484_8, hx484_9, hx484_10, hx484_11, hx484_12⟩ := at_T130 HR0_2.out x8_4 p484 q484;have hw484_12 := hx484_12;have hw484_11 := hx484_11;have hw484_10 := hx484_10;have hw484_9 := hx484_9;have hw484_8 := hx484_8;have hw484_7 := hx484_7;have hw484_6 := hx484_6;have hw484_5 := hx484_5;have hw484_4 := hx484_4;have hw484_3 := hx484_3;have hw484_2 := hx484_2;have hw484_1 := hx484_1;have hw484_0 := hx484_0
                obtain rfl : ad483 = ad484 := (by injection e484)
                replace hx484_0 := mv HB hx484_0;replace hx484_1 := mv HB hx484_1;replace hx484_2 := mv HB hx484_2;replace hx484_3 := mv HB hx484_3;replace hx484_4 := mv HB hx484_4;replace hx484_5 := mv HB hx484_5;replace hx484_6 := mv HB hx484_6;replace hx484_7 := mv HB hx484_7;replace hx484_8 := mv HB hx484_8;replace hx484_9 := mv HB hx484_9;replace hx484_10 := mv HB hx484_10;replace hx484_11 := mv HB hx484_11;replace hx484_12 := mv HB hx484_12;replace p484 := eq_true p484;replace q484 := eq_true q484
                refine start_ (n := 15) (S := fun w' => w'.cell? ⟨gb472, 0, none⟩ = some (.slice A0_0 l0_0.length c0_0) ∧ w'.cell? ⟨gb472, 1, none⟩ = some (.slice A0_1 l0_1.length c0_1) ∧ w'.cell? ⟨gb472, 2, none⟩ = some (.slice (some ad483) l0_2.length c0_2) ∧ w'.cell? (ad483.add ((x8_4).toNat * 13)) = some (.int .i64 ((rd_T130 l0_2 x8_4).f0)) ∧ w'.cell? ⟨(ad483.add ((x8_4).toNat * 13)).block, (ad483.add ((x8_4).toNat * 13)).off + 1, none⟩ = some (.int .i64 ((rd_T130 l0_2 x8_4).f1)) ∧ w'.cell? ⟨(ad483.add ((x8_4).toNat * 13)).block, (ad483.add ((x8_4).toNat * 13)).off + 2, none⟩ = some (.bool ((rd_T130 l0_2 x8_4).f2)) ∧ w'.cell? ⟨(ad483.add ((x8_4).toNat * 13)).block, (ad483.add ((x8_4).toNat * 13)).off + 3, none⟩ = some (.bool ((rd_T130 l0_2 x8_4).f3)) ∧ w'.cell? ⟨(ad483.add ((x8_4).toNat * 13)).block, (ad483.add ((x8_4).toNat * 13)).off + 4, none⟩ = some (.int .u32 ((rd_T130 l0_2 x8_4).f4.f0.f0)) ∧ w'.cell? ⟨(ad483.add ((x8_4).toNat * 13)).block, (ad483.add ((x8_4).toNat * 13)).off + 5, none⟩ = some (.int .i64 ((rd_T130 l0_2 x8_4).f4.f0.f1)) ∧ w'.cell? ⟨(ad483.add ((x8_4).toNat * 13)).block, (ad483.add ((x8_4).toNat * 13)).off + 6, none⟩ = some (.int .u32 ((rd_T130 l0_2 x8_4).f4.f1.f0)) ∧ w'.cell? ⟨(ad483.add ((x8_4).toNat * 13)).block, (ad483.add ((x8_4).toNat * 13)).off + 7, none⟩ = some (.int .i64 ((rd_T130 l0_2 x8_4).f4.f1.f1)) ∧ w'.cell? ⟨(ad483.add ((x8_4).toNat * 13)).block, (ad483.add ((x8_4).toNat * 13)).off + 8, none⟩ = some (.int .i64 ((rd_T130 l0_2 x8_4).f4.f2)) ∧ w'.cell? ⟨(ad483.add ((x8_4).toNat * 13)).block, (ad483.add ((x8_4).toNat * 13)).off + 9, none⟩ = some (.int .u16 ((rd_T130 l0_2 x8_4).f4.f3.f0)) ∧ w'.cell? ⟨(ad483.add ((x8_4).toNat * 13)).block, (ad483.add ((x8_4).toNat * 13)).off + 10, none⟩ = some (.int .u16 ((rd_T130 l0_2 x8_4).f4.f3.f1)) ∧ w'.cell? ⟨(ad483.add ((x8_4).toNat * 13)).block, (ad483.add ((x8_4).toNat * 13)).off + 11, none⟩ = some (.int .u16 ((rd_T130 l0_2 x8_4).f4.f4.f0)) ∧ w'.cell? ⟨(ad483.add ((x8_4).toNat * 13)).block, (ad483.add ((x8_4).toNat * 13)).off + 12, none⟩ = some (.int .u16 ((rd_T130 l0_2 x8_4).f4.f4.f1)) ∧ w'.cell? (ad483.add ((x8_4).toNat * 13)) = some (.int .i64 ((rd_T130 l0_2 x8_4).f0)) ∧ w'.cell? ⟨(ad483.add ((x8_4).toNat * 13)).block, (ad483.add ((x8_4).toNat * 13)).off + 1, none⟩ = some (.int .i64 ((rd_T130 l0_2 x8_4).f1)) ∧ w'.cell? ⟨(ad483.add ((x8_4).toNat * 13)).block, (ad483.add ((x8_4).toNat * 13)).off + 2, none⟩ = some (.bool ((rd_T130 l0_2 x8_4).f2)) ∧ w'.cell? ⟨(ad483.add ((x8_4).toNat * 13)).block, (ad483.add ((x8_4).toNat * 13)).off + 3, none⟩ = some (.bool ((rd_T130 l0_2 x8_4).f3)) ∧ w'.cell? ⟨(ad483.add ((x8_4).toNat * 13)).block, (ad483.add ((x8_4).toNat * 13)).off + 4, none⟩ = some (.int .u32 ((rd_T130 l0_2 x8_4).f4.f0.f0)) ∧ w'.cell? ⟨(ad483.add ((x8_4).toNat * 13)).block, (ad483.add ((x8_4).toNat * 13)).off + 5, none⟩ = some (.int .i64 ((rd_T130 l0_2 x8_4).f4.f0.f1)) ∧ w'.cell? ⟨(ad483.add ((x8_4).toNat * 13)).block, (ad483.add ((x8_4).toNat * 13)).off + 6, none⟩ = some (.int .u32 ((rd_T130 l0_2 x8_4).f4.f1.f0)) ∧ w'.cell? ⟨(ad483.add ((x8_4).toNat * 13)).block, (ad483.add ((x8_4).toNat * 13)).off + 7, none⟩ = some (.int .i64 ((rd_T130 l0_2 x8_4).f4.f1.f1)) ∧ w'.cell? ⟨(ad483.add ((x8_4).toNat * 13)).block, (ad483.add ((x8_4).toNat * 13)).off + 8, none⟩ = some (.int .i64 ((rd_T130 l0_2 x8_4).f4.f2)) ∧ w'.cell? ⟨(ad483.add ((x8_4).toNat * 13)).block, (ad483.add ((x8_4).toNat * 13)).off + 9, none⟩ = some (.int .u16 ((rd_T130 l0_2 x8_4).f4.f3.f0)) ∧ w'.cell? ⟨(ad483.add ((x8_4).toNat * 13)).block, (ad483.add ((x8_4).toNat * 13)).off + 10, none⟩ = some (.int .u16 ((rd_T130 l0_2 x8_4).f4.f3.f1)) ∧ w'.cell? ⟨(ad483.add ((x8_4).toNat * 13)).block, (ad483.add ((x8_4).toNat * 13)).off + 11, none⟩ = some (.int .u16 ((rd_T130 l0_2 x8_4).f4.f4.f0)) ∧ w'.cell? ⟨(ad483.add ((x8_4).toNat * 13)).block, (ad483.add ((x8_4).toNat * 13)).off + 12, none⟩ = some (.int .u16 ((rd_T130 l0_2 x8_4).f4.f4.f1))) (ds := []) #[F,F,F,F,F,F,F,F,F,F,F,F,F,F,F] (by kernel_rfl) rfl rfl ⟨(blk_cell BK472.out 0).trans rfl, (blk_cell BK472.out 1).trans rfl, (blk_cell BK472.out 2).trans rfl, ((HB.out.cell (World.block_lt_of_cell? w _ hw483_0)).trans hw483_0), ((HB.out.cell (World.block_lt_of_cell? w _ hw483_1)).trans hw483_1), ((HB.out.cell (World.block_lt_of_cell? w _ hw483_2)).trans hw483_2), ((HB.out.cell (World.block_lt_of_cell? w _ hw483_3)).trans hw483_3), ((HB.out.cell (World.block_lt_of_cell? w _ hw483_4)).trans hw483_4), ((HB.out.cell (World.block_lt_of_cell? w _ hw483_5)).trans hw483_5), ((HB.out.cell (World.block_lt_of_cell? w _ hw483_6)).trans hw483_6), ((HB.out.cell (World.block_lt_of_cell? w _ hw483_7)).trans hw483_7), ((HB.out.cell (World.block_lt_of_cell? w _ hw483_8)).trans hw483_8), ((HB.out.cell (World.block_lt_of_cell? w _ hw483_9)).trans hw483_9), ((HB.out.cell (World.block_lt_of_cell? w _ hw483_10)).trans hw483_10), ((HB.out.cell (World.block_lt_of_cell? w _ hw483_11)).trans hw483_11), ((HB.out.cell (World.block_lt_of_cell? w _ hw483_12)).trans hw483_12), ((HB.out.cell (World.block_lt_of_cell? w _ hw484_0)).trans hw484_0), ((HB.out.cell (World.block_lt_of_cell? w _ hw484_1)).trans hw484_1), ((HB.out.cell (World.block_lt_of_cell? w _ hw484_2)).trans hw484_2), ((HB.out.cell (World.block_lt_of_cell? w _ hw484_3)).trans hw484_3), ((HB.out.cell (World.block_lt_of_cell? w _ hw484_4)).trans hw484_4), ((HB.out.cell (World.block_lt_of_cell? w _ hw484_5)).trans hw484_5), ((HB.out.cell (World.block_lt_of_cell? w _ hw484_6)).trans hw484_6), ((HB.out.cell (World.block_lt_of_cell? w _ hw484_7)).trans hw484_7), ((HB.out.cell (World.block_lt_of_cell? w _ hw484_8)).trans hw484_8), ((HB.out.cell (World.block_lt_of_cell? w _ hw484_9)).trans hw484_9), ((HB.out.cell (World.block_lt_of_cell? w _ hw484_10)).trans hw484_10), ((HB.out.cell (World.block_lt_of_cell? w _ hw484_11)).trans hw484_11), ((HB.out.cell (World.block_lt_of_cell? w _ hw484_12)).trans hw484_12)⟩ (fun hHeld => ?_); refine with_tabW crossbuckref05_Check.tab23 crossbuckref05_Check.bits23 (fun HT_ HW_ => ?_)
                generalize wr.drew = w46 at BK472 HB hx483_0 hx483_1 hx483_10 hx483_11 hx483_12 hx483_2 hx483_3 hx483_4 hx483_5 hx483_6 hx483_7 hx483_8 hx483_9 hx484_0 hx484_1 hx484_10 hx484_11 hx484_12 hx484_2 hx484_3 hx484_4 hx484_5 hx484_6 hx484_7 hx484_8 hx484_9 hHeld ⊢
                refine pu 1 (some 93) #[F,T,F,F,F,F,F,F,F,F,F,F,F,F,F] (any_of HT_.out (by kernel_rfl)) ?_
                refine pu 3 (some 95) #[F,T,F,T,F,F,F,F,F,F,F,F,F,F,F] (any_of HT_.out (by kernel_rfl)) ?_
                refine pu 7 (some 99) #[F,T,F,T,F,F,F,T,F,F,F,F,F,F,F] (any_of HT_.out (by kernel_rfl)) ?_
                refine pu 9 (some 101) #[F,T,F,T,F,F,F,T,F,T,F,F,F,F,F] (any_of HT_.out (by kernel_rfl)) ?_
                refine take_ (i := 0) (N := some 92) (v := ?_) (a' := ?_) #[T,T,F,T,F,F,F,T,F,T,F,F,F,F,F] rfl rfl (take_ofW HT_.out HW_.out (by kernel_rfl)) (fun _ _ _ h => h) (Or.inl ⟨by rfl, ?_⟩) hHeld ?_ ?_
                rotate_left
                ·rintro w' ⟨s0, s1, s2, s3, s4, s5, s6, s7, s8, s9, s10, s11, s12, s13, s14, s15, s16, s17, s18, s19, s20, s21, s22, s23, s24, s25, s26, s27, s28⟩
                 go_simp;with_reducible rfl
                rotate_left;·simp only [Act.put, setIfInBounds_toArray, set_cons_zero, set_cons_succ, i64_w, i32_w];rfl
                refine take_ (i := 2) (N := some 94) (v := ?_) (a' := ?_) #[T,T,T,T,F,F,F,T,F,T,F,F,F,F,F] rfl rfl (take_ofW HT_.out HW_.out (by kernel_rfl)) (fun _ _ _ h => h) (Or.inl ⟨by rfl, ?_⟩) hHeld ?_ ?_
                rotate_left
                ·rintro w' ⟨s0, s1, s2, s3, s4, s5, s6, s7, s8, s9, s10, s11, s12, s13, s14, s15, s16, s17, s18, s19, s20, s21, s22, s23, s24, s25, s26, s27, s28⟩
                 go_simp;with_reducible rfl
                rotate_left;·simp only [Act.put, setIfInBounds_toArray, set_cons_zero, set_cons_succ, i64_w, i32_w];rfl
                refine pu 4 (some 96) #[T,T,T,T,T,F,F,T,F,T,F,F,F,F,F] (any_of HT_.out (by kernel_rfl)) ?_
                refine pu 5 (some 97) #[T,T,T,T,T,T,F,T,F,T,F,F,F,F,F] (any_of HT_.out (by kernel_rfl)) ?_
                refine take_ (i := 6) (N := some 98) (v := ?_) (a' := ?_) #[T,T,T,T,T,T,T,T,F,T,F,F,F,F,F] rfl rfl (take_ofW HT_.out HW_.out (by kernel_rfl)) (fun _ _ _ h => h) (Or.inl ⟨by rfl, ?_⟩) hHeld ?_ ?_
                rotate_left
                ·rintro w' ⟨s0, s1, s2, s3, s4, s5, s6, s7, s8, s9, s10, s11, s12, s13, s14, s15, s16, s17, s18, s19, s20, s21, s22, s23, s24, s25, s26, s27, s28⟩
                 go_simp;with_reducible rfl
                rotate_left;·simp only [Act.put, setIfInBounds_toArray, set_cons_zero, set_cons_succ, i64_w, i32_w];rfl
                refine take_ (i := 8) (N := some 100) (v := ?_) (a' := ?_) #[T,T,T,T,T,T,T,T,T,T,F,F,F,F,F] rfl rfl (take_ofW HT_.out HW_.out (by kernel_rfl)) (fun _ _ _ h => h) (Or.inl ⟨by rfl, ?_⟩) hHeld ?_ ?_
                rotate_left
                ·rintro w' ⟨s0, s1, s2, s3, s4, s5, s6, s7, s8, s9, s10, s11, s12, s13, s14, s15, s16, s17, s18, s19, s20, s21, s22, s23, s24, s25, s26, s27, s28⟩
                 go_simp;with_reducible rfl
                rotate_left;·simp only [Act.put, setIfInBounds_toArray, set_cons_zero, set_cons_succ, i64_w, i32_w];rfl
                refine pu 10 (some 102) #[T,T,T,T,T,T,T,T,T,T,T,F,F,F,F] (any_of HT_.out (by kernel_rfl)) ?_
                refine pu 11 (some 103) #[T,T,T,T,T,T,T,T,T,T,T,T,F,F,F] (any_of HT_.out (by kernel_rfl)) ?_
                refine take_ (i := 12) (N := some 104) (v := ?_) (a' := ?_) #[T,T,T,T,T,T,T,T,T,T,T,T,T,F,F] rfl rfl (take_ofW HT_.out HW_.out (by kernel_rfl)) (fun _ _ _ h => h) (Or.inl ⟨by rfl, ?_⟩) hHeld ?_ ?_
                rotate_left
                ·rintro w' ⟨s0, s1, s2, s3, s4, s5, s6, s7, s8, s9, s10, s11, s12, s13, s14, s15, s16, s17, s18, s19, s20, s21, s22, s23, s24, s25, s26, s27, s28⟩
                 go_simp;with_reducible rfl
                rotate_left;·simp only [Act.put, setIfInBounds_toArray, set_cons_zero, set_cons_succ, i64_w, i32_w];rfl
                refine one_ (i := 13) (N := some 105) #[T,T,T,T,T,T,T,T,T,T,T,T,T,T,F] rfl rfl (one_of HT_.out (by kernel_rfl)) (by decide) (fun K hK => ?_)
                refine goes_ Tryd.func75 (by kernel_rfl) rfl #[.agg #[.slice A0_0 l0_0.length c0_0, .slice A0_1 l0_1.length c0_1, .slice (some ad483) l0_2.length c0_2], .int .i64 ((rd_T130 l0_2 x8_4).f0), .int .i64 ((rd_T130 l0_2 x8_4).f1)] (by rfl) rfl rfl aok ?_
                with_reducible refine (crossbuckref05_Port.calls k4 _ _ l0_0 _ _ l0_1 _ _ l0_2 ((rd_T130 l0_2 x8_4).f0) ((rd_T130 l0_2 x8_4).f1) t485 _ ?side1 ?side2 ?side3 ?side4 ?side5 ?side6 A41.out).mono ?_
                (case side1 => repeat (first | exact (Kd.C_below HR0_0.out HB.out) | (with_reducible refine Kd.C_alloc ?_ _) | (with_reducible refine Kd.C_drewN ?_ _) | (with_reducible refine Kd.C_drew ?_)))
                (case side2 => exact HC0_0.out)
                (case side3 => repeat (first | exact (Kd.C_below HR0_1.out HB.out) | (with_reducible refine Kd.C_alloc ?_ _) | (with_reducible refine Kd.C_drewN ?_ _) | (with_reducible refine Kd.C_drew ?_)))
                (case side4 => exact HC0_1.out)
                (case side5 => repeat (first | exact (Kd.C_below HR0_2.out HB.out) | (with_reducible refine Kd.C_alloc ?_ _) | (with_reducible refine Kd.C_drewN ?_ _) | (with_reducible refine Kd.C_drew ?_)))
                (case side6 => exact HC0_2.out)
                rintro e w47 ⟨rfl, hb⟩;refine ⟨_, rfl, ?_⟩;replace BK472 := Aside0.mk (bb BK472.out hb)
                replace HB := Aside0.mk (below_step (bel HB) hb)
                (try clear hb);(try clear hb2);(try clear hk);(try clear hi)
                refine hK.out _ _ ⟨(blk_cell BK472.out 0).trans rfl, (blk_cell BK472.out 1).trans rfl, (blk_cell BK472.out 2).trans rfl, ((HB.out.cell (World.block_lt_of_cell? w _ hw483_0)).trans hw483_0), ((HB.out.cell (World.block_lt_of_cell? w _ hw483_1)).trans hw483_1), ((HB.out.cell (World.block_lt_of_cell? w _ hw483_2)).trans hw483_2), ((HB.out.cell (World.block_lt_of_cell? w _ hw483_3)).trans hw483_3), ((HB.out.cell (World.block_lt_of_cell? w _ hw483_4)).trans hw483_4), ((HB.out.cell (World.block_lt_of_cell? w _ hw483_5)).trans hw483_5), ((HB.out.cell (World.block_lt_of_cell? w _ hw483_6)).trans hw483_6), ((HB.out.cell (World.block_lt_of_cell? w _ hw483_7)).trans hw483_7), ((HB.out.cell (World.block_lt_of_cell? w _ hw483_8)).trans hw483_8), ((HB.out.cell (World.block_lt_of_cell? w _ hw483_9)).trans hw483_9), ((HB.out.cell (World.block_lt_of_cell? w _ hw483_10)).trans hw483_10), ((HB.out.cell (World.block_lt_of_cell? w _ hw483_11)).trans hw483_11), ((HB.out.cell (World.block_lt_of_cell? w _ hw483_12)).trans hw483_12), ((HB.out.cell (World.block_lt_of_cell? w _ hw484_0)).trans hw484_0), ((HB.out.cell (World.block_lt_of_cell? w _ hw484_1)).trans hw484_1), ((HB.out.cell (World.block_lt_of_cell? w _ hw484_2)).trans hw484_2), ((HB.out.cell (World.block_lt_of_cell? w _ hw484_3)).trans hw484_3), ((HB.out.cell (World.block_lt_of_cell? w _ hw484_4)).trans hw484_4), ((HB.out.cell (World.block_lt_of_cell? w _ hw484_5)).trans hw484_5), ((HB.out.cell (World.block_lt_of_cell? w _ hw484_6)).trans hw484_6), ((HB.out.cell (World.block_lt_of_cell? w _ hw484_7)).trans hw484_7), ((HB.out.cell (World.block_lt_of_cell? w _ hw484_8)).trans hw484_8), ((HB.out.cell (World.block_lt_of_cell? w _ hw484_9)).trans hw484_9), ((HB.out.cell (World.block_lt_of_cell? w _ hw484_10)).trans hw484_10), ((HB.out.cell (World.block_lt_of_cell? w _ hw484_11)).trans hw484_11), ((HB.out.cell (World.block_lt_of_cell? w _ hw484_12)).trans hw484_12)⟩ (fun hHeld => ?_)
                clear hK K
                refine nput ?_
                refine pu 14 (some 9) #[T,T,T,T,T,T,T,T,T,T,T,T,T,T,T] (any_of HT_.out (by kernel_rfl)) ?_
                refine done_ (done_of HT_.out (by kernel_rfl)) ?_
                have hcz48 := cz3 BK472.out
                have p486 : 0 ≤ (x8_4 : Int) := of_decide_eq_true (by first | (with_reducible assumption) | assumption)
                have q486 : x8_4 < (l0_2.length : Int) := of_decide_eq_true (by first | (with_reducible assumption) | assumption)
                obtain ⟨ad486, e486, hx486_0, hx486_1, hx486_2, hx486_3, hx486_4, hx486_5, hx486_6, hx486_7, hx486_8, hx486_9, hx486_10, hx486_11, hx486_12⟩ := at_T130 HR0_2.out x8_4 p486 q486
                obtain rfl : ad483 = ad486 := (by injection e486)
                replace hx486_0 := mv HB hx486_0;replace hx486_1 := mv HB hx486_1;replace hx486_2 := mv HB hx486_2;replace hx486_3 := mv HB hx486_3;replace hx486_4 := mv HB hx486_4;replace hx486_5 := mv HB hx486_5;replace hx486_6 := mv HB hx486_6;replace hx486_7 := mv HB hx486_7;replace hx486_8 := mv HB hx486_8;replace hx486_9 := mv HB hx486_9;replace hx486_10 := mv HB hx486_10;replace hx486_11 := mv HB hx486_11;replace hx486_12 := mv HB hx486_12;replace p486 := eq_true p486;replace q486 := eq_true q486
                try go_wp2_with (first | ((with_reducible refine gate_callee (f := 43) rfl ?_); refine goesL_ (some 115) rfl rfl Tryd.func43 (by kernel_rfl) rfl #[.agg #[.int .u32 ((rd_T130 l0_2 x8_4).f4.f0.f0), .int .i64 ((rd_T130 l0_2 x8_4).f4.f0.f1), .int .u32 ((rd_T130 l0_2 x8_4).f4.f1.f0), .int .i64 ((rd_T130 l0_2 x8_4).f4.f1.f1), .int .i64 ((rd_T130 l0_2 x8_4).f4.f2), .int .u16 ((rd_T130 l0_2 x8_4).f4.f3.f0), .int .u16 ((rd_T130 l0_2 x8_4).f4.f3.f1), .int .u16 ((rd_T130 l0_2 x8_4).f4.f4.f0), .int .u16 ((rd_T130 l0_2 x8_4).f4.f4.f1)]] rfl aok ?_; (with_reducible refine (crossbuckref04_Check.calls k4 ((rd_T130 l0_2 x8_4).f4.f0.f0) ((rd_T130 l0_2 x8_4).f4.f0.f1) ((rd_T130 l0_2 x8_4).f4.f1.f0) ((rd_T130 l0_2 x8_4).f4.f1.f1) ((rd_T130 l0_2 x8_4).f4.f2) ((rd_T130 l0_2 x8_4).f4.f3.f0) ((rd_T130 l0_2 x8_4).f4.f3.f1) ((rd_T130 l0_2 x8_4).f4.f4.f0) ((rd_T130 l0_2 x8_4).f4.f4.f1) t487 _ A43.out).mono ?_); rintro e w49 ⟨rfl, hb⟩; refine ⟨_, rfl, ?_⟩; have n0_ := Aside0.mk (bb BK472.out hb); have n1_ := Aside0.mk (below_step (bel HB) hb); clear BK472; clear HB; have BK472 := n0_; have HB := n1_; clear n0_ n1_; (try clear hb); (try clear hb2); (try clear hk); (try clear hi)))
                go_roundg k4
                case measure => have := HJ1.out; have := HK2.out; have := HK3.out; have := HK4.out; omega
                case rel => exact ⟨(wrap64 (x8_4 + 1)), (by first | rfl | (simp; done) | (simp [*]; done)), H', ⟨by have := HJ1.out; have := HK2.out; have := HK3.out; have := HK4.out; omega⟩, ⟨bkp⟩, ⟨by repeat (first | (with_reducible first | exact HB.out | apply below_alloc | apply pw_below_drewN | apply below_drew1 | refine below_set ?_ GE472.out) | exact HB.out)⟩⟩
               ·rw [if_neg c44] at H
                have c44b0 : (t487 == 0) = false := beq_eq_false_iff_ne.mpr c44;have c44b1 : (t487 != 0) = true := bne_iff_ne.mpr c44;obtain rfl := Option.some.inj H;have hcz50 := cz3 BK472.out
                try go_wp2
                replace BK472 := Aside0.mk (blk_drew BK472.out);replace HB := Aside0.mk (below_drew1 HB.out)
                have p483 : 0 ≤ (x8_4 : Int) := of_decide_eq_true (by first | (with_reducible assumption) | assumption)
                have q483 : x8_4 < (l0_2.length : Int) := of_decide_eq_true (by first | (with_reducible assumption) | assumption)
                obtain ⟨ad483, e483, hx483_0, hx483_1, hx483_2, hx483_3, hx483_4, hx483_5, hx483_6, hx483_7, hx483_8, hx483_9, hx483_10, hx483_11, hx483_12⟩ := at_T130 HR0_2.out x8_4 p483 q483;have hw483_12 := hx483_12;have hw483_11 := hx483_11;have hw483_10 := hx483_10;have hw483_9 := hx483_9;have hw483_8 := hx483_8;have hw483_7 := hx483_7;have hw483_6 := hx483_6;have hw483_5 := hx483_5;have hw483_4 := hx483_4;have hw483_3 := hx483_3;have hw483_2 := hx483_2;have hw483_1 := hx483_1;have hw483_0 := hx483_0
                cases e483
                replace hx483_0 := mv HB hx483_0;replace hx483_1 := mv HB hx483_1;replace hx483_2 := mv HB hx483_2;replace hx483_3 := mv HB hx483_3;replace hx483_4 := mv HB hx483_4;replace hx483_5 := mv HB hx483_5;replace hx483_6 := mv HB hx483_6;replace hx483_7 := mv HB hx483_7;replace hx483_8 := mv HB hx483_8;replace hx483_9 := mv HB hx483_9;replace hx483_10 := mv HB hx483_10;replace hx483_11 := mv HB hx483_11;replace hx483_12 := mv HB hx483_12;replace p483 := eq_true p483;replace q483 := eq_true q483
                have p484 : 0 ≤ (x8_4 : Int) := of_decide_eq_true (by first | (with_reducible assumption) | assumption)
                have q484 : x8_4 < (l0_2.length : Int) := of_decide_eq_true (by first | (with_reducible assumption) | assumption)
                obtain ⟨ad484, e484, hx484_0, hx484_1, hx484_2, hx484_3, hx484_4, hx484_5, hx484_6, hx484_7, hx484_8, hx484_9, hx484_10, hx484_11, hx484_12⟩ := at_T130 HR0_2.out x8_4 p484 q484;have hw484_12 := hx484_12;have hw484_11 := hx484_11;have hw484_10 := hx484_10;have hw484_9 := hx484_9;have hw484_8 := hx484_8;have hw484_7 := hx484_7;have hw484_6 := hx484_6;have hw484_5 := hx484_5;have hw484_4 := hx484_4;have hw484_3 := hx484_3;have hw484_2 := hx484_2;have hw484_1 := hx484_1;have hw484_0 := hx484_0
                obtain rfl : ad483 = ad484 := (by injection e484)
                replace hx484_0 := mv HB hx484_0;replace hx484_1 := mv HB hx484_1;replace hx484_2 := mv HB hx484_2;replace hx484_3 := mv HB hx484_3;replace hx484_4 := mv HB hx484_4;replace hx484_5 := mv HB hx484_5;replace hx484_6 := mv HB hx484_6;replace hx484_7 := mv HB hx484_7;replace hx484_8 := mv HB hx484_8;replace hx484_9 := mv HB hx484_9;replace hx484_10 := mv HB hx484_10;replace hx484_11 := mv HB hx484_11;replace hx484_12 := mv HB hx484_12;replace p484 := eq_true p484;replace q484 := eq_true q484
                refine start_ (n := 15) (S := fun w' => w'.cell? ⟨gb472, 0, none⟩ = some (.slice A0_0 l0_0.length c0_0) ∧ w'.cell? ⟨gb472, 1, none⟩ = some (.slice A0_1 l0_1.length c0_1) ∧ w'.cell? ⟨gb472, 2, none⟩ = some (.slice (some ad483) l0_2.length c0_2) ∧ w'.cell? (ad483.add ((x8_4).toNat * 13)) = some (.int .i64 ((rd_T130 l0_2 x8_4).f0)) ∧ w'.cell? ⟨(ad483.add ((x8_4).toNat * 13)).block, (ad483.add ((x8_4).toNat * 13)).off + 1, none⟩ = some (.int .i64 ((rd_T130 l0_2 x8_4).f1)) ∧ w'.cell? ⟨(ad483.add ((x8_4).toNat * 13)).block, (ad483.add ((x8_4).toNat * 13)).off + 2, none⟩ = some (.bool ((rd_T130 l0_2 x8_4).f2)) ∧ w'.cell? ⟨(ad483.add ((x8_4).toNat * 13)).block, (ad483.add ((x8_4).toNat * 13)).off + 3, none⟩ = some (.bool ((rd_T130 l0_2 x8_4).f3)) ∧ w'.cell? ⟨(ad483.add ((x8_4).toNat * 13)).block, (ad483.add ((x8_4).toNat * 13)).off + 4, none⟩ = some (.int .u32 ((rd_T130 l0_2 x8_4).f4.f0.f0)) ∧ w'.cell? ⟨(ad483.add ((x8_4).toNat * 13)).block, (ad483.add ((x8_4).toNat * 13)).off + 5, none⟩ = some (.int .i64 ((rd_T130 l0_2 x8_4).f4.f0.f1)) ∧ w'.cell? ⟨(ad483.add ((x8_4).toNat * 13)).block, (ad483.add ((x8_4).toNat * 13)).off + 6, none⟩ = some (.int .u32 ((rd_T130 l0_2 x8_4).f4.f1.f0)) ∧ w'.cell? ⟨(ad483.add ((x8_4).toNat * 13)).block, (ad483.add ((x8_4).toNat * 13)).off + 7, none⟩ = some (.int .i64 ((rd_T130 l0_2 x8_4).f4.f1.f1)) ∧ w'.cell? ⟨(ad483.add ((x8_4).toNat * 13)).block, (ad483.add ((x8_4).toNat * 13)).off + 8, none⟩ = some (.int .i64 ((rd_T130 l0_2 x8_4).f4.f2)) ∧ w'.cell? ⟨(ad483.add ((x8_4).toNat * 13)).block, (ad483.add ((x8_4).toNat * 13)).off + 9, none⟩ = some (.int .u16 ((rd_T130 l0_2 x8_4).f4.f3.f0)) ∧ w'.cell? ⟨(ad483.add ((x8_4).toNat * 13)).block, (ad483.add ((x8_4).toNat * 13)).off + 10, none⟩ = some (.int .u16 ((rd_T130 l0_2 x8_4).f4.f3.f1)) ∧ w'.cell? ⟨(ad483.add ((x8_4).toNat * 13)).block, (ad483.add ((x8_4).toNat * 13)).off + 11, none⟩ = some (.int .u16 ((rd_T130 l0_2 x8_4).f4.f4.f0)) ∧ w'.cell? ⟨(ad483.add ((x8_4).toNat * 13)).block, (ad483.add ((x8_4).toNat * 13)).off + 12, none⟩ = some (.int .u16 ((rd_T130 l0_2 x8_4).f4.f4.f1)) ∧ w'.cell? (ad483.add ((x8_4).toNat * 13)) = some (.int .i64 ((rd_T130 l0_2 x8_4).f0)) ∧ w'.cell? ⟨(ad483.add ((x8_4).toNat * 13)).block, (ad483.add ((x8_4).toNat * 13)).off + 1, none⟩ = some (.int .i64 ((rd_T130 l0_2 x8_4).f1)) ∧ w'.cell? ⟨(ad483.add ((x8_4).toNat * 13)).block, (ad483.add ((x8_4).toNat * 13)).off + 2, none⟩ = some (.bool ((rd_T130 l0_2 x8_4).f2)) ∧ w'.cell? ⟨(ad483.add ((x8_4).toNat * 13)).block, (ad483.add ((x8_4).toNat * 13)).off + 3, none⟩ = some (.bool ((rd_T130 l0_2 x8_4).f3)) ∧ w'.cell? ⟨(ad483.add ((x8_4).toNat * 13)).block, (ad483.add ((x8_4).toNat * 13)).off + 4, none⟩ = some (.int .u32 ((rd_T130 l0_2 x8_4).f4.f0.f0)) ∧ w'.cell? ⟨(ad483.add ((x8_4).toNat * 13)).block, (ad483.add ((x8_4).toNat * 13)).off + 5, none⟩ = some (.int .i64 ((rd_T130 l0_2 x8_4).f4.f0.f1)) ∧ w'.cell? ⟨(ad483.add ((x8_4).toNat * 13)).block, (ad483.add ((x8_4).toNat * 13)).off + 6, none⟩ = some (.int .u32 ((rd_T130 l0_2 x8_4).f4.f1.f0)) ∧ w'.cell? ⟨(ad483.add ((x8_4).toNat * 13)).block, (ad483.add ((x8_4).toNat * 13)).off + 7, none⟩ = some (.int .i64 ((rd_T130 l0_2 x8_4).f4.f1.f1)) ∧ w'.cell? ⟨(ad483.add ((x8_4).toNat * 13)).block, (ad483.add ((x8_4).toNat * 13)).off + 8, none⟩ = some (.int .i64 ((rd_T130 l0_2 x8_4).f4.f2)) ∧ w'.cell? ⟨(ad483.add ((x8_4).toNat * 13)).block, (ad483.add ((x8_4).toNat * 13)).off + 9, none⟩ = some (.int .u16 ((rd_T130 l0_2 x8_4).f4.f3.f0)) ∧ w'.cell? ⟨(ad483.add ((x8_4).toNat * 13)).block, (ad483.add ((x8_4).toNat * 13)).off + 10, none⟩ = some (.int .u16 ((rd_T130 l0_2 x8_4).f4.f3.f1)) ∧ w'.cell? ⟨(ad483.add ((x8_4).toNat * 13)).block, (ad483.add ((x8_4).toNat * 13)).off + 11, none⟩ = some (.int .u16 ((rd_T130 l0_2 x8_4).f4.f4.f0)) ∧ w'.cell? ⟨(ad483.add ((x8_4).toNat * 13)).block, (ad483.add ((x8_4).toNat * 13)).off + 12, none⟩ = some (.int .u16 ((rd_T130 l0_2 x8_4).f4.f4.f1))) (ds := []) #[F,F,F,F,F,F,F,F,F,F,F,F,F,F,F] (by kernel_rfl) rfl rfl ⟨(blk_cell BK472.out 0).trans rfl, (blk_cell BK472.out 1).trans rfl, (blk_cell BK472.out 2).trans rfl, ((HB.out.cell (World.block_lt_of_cell? w _ hw483_0)).trans hw483_0), ((HB.out.cell (World.block_lt_of_cell? w _ hw483_1)).trans hw483_1), ((HB.out.cell (World.block_lt_of_cell? w _ hw483_2)).trans hw483_2), ((HB.out.cell (World.block_lt_of_cell? w _ hw483_3)).trans hw483_3), ((HB.out.cell (World.block_lt_of_cell? w _ hw483_4)).trans hw483_4), ((HB.out.cell (World.block_lt_of_cell? w _ hw483_5)).trans hw483_5), ((HB.out.cell (World.block_lt_of_cell? w _ hw483_6)).trans hw483_6), ((HB.out.cell (World.block_lt_of_cell? w _ hw483_7)).trans hw483_7), ((HB.out.cell (World.block_lt_of_cell? w _ hw483_8)).trans hw483_8), ((HB.out.cell (World.block_lt_of_cell? w _ hw483_9)).trans hw483_9), ((HB.out.cell (World.block_lt_of_cell? w _ hw483_10)).trans hw483_10), ((HB.out.cell (World.block_lt_of_cell? w _ hw483_11)).trans hw483_11), ((HB.out.cell (World.block_lt_of_cell? w _ hw483_12)).trans hw483_12), ((HB.out.cell (World.block_lt_of_cell? w _ hw484_0)).trans hw484_0), ((HB.out.cell (World.block_lt_of_cell? w _ hw484_1)).trans hw484_1), ((HB.out.cell (World.block_lt_of_cell? w _ hw484_2)).trans hw484_2), ((HB.out.cell (World.block_lt_of_cell? w _ hw484_3)).trans hw484_3), ((HB.out.cell (World.block_lt_of_cell? w _ hw484_4)).trans hw484_4), ((HB.out.cell (World.block_lt_of_cell? w _ hw484_5)).trans hw484_5), ((HB.out.cell (World.block_lt_of_cell? w _ hw484_6)).trans hw484_6), ((HB.out.cell (World.block_lt_of_cell? w _ hw484_7)).trans hw484_7), ((HB.out.cell (World.block_lt_of_cell? w _ hw484_8)).trans hw484_8), ((HB.out.cell (World.block_lt_of_cell? w _ hw484_9)).trans hw484_9), ((HB.out.cell (World.block_lt_of_cell? w _ hw484_10)).trans hw484_10), ((HB.out.cell (World.block_lt_of_cell? w _ hw484_11)).trans hw484_11), ((HB.out.cell (World.block_lt_of_cell? w _ hw484_12)).trans hw484_12)⟩ (fun hHeld => ?_); refine with_tabW crossbuckref05_Check.tab23 crossbuckref05_Check.bits23 (fun HT_ HW_ => ?_)
                generalize wr.drew = w51 at BK472 HB hx483_0 hx483_1 hx483_10 hx483_11 hx483_12 hx483_2 hx483_3 hx483_4 hx483_5 hx483_6 hx483_7 hx483_8 hx483_9 hx484_0 hx484_1 hx484_10 hx484_11 hx484_12 hx484_2 hx484_3 hx484_4 hx484_5 hx484_6 hx484_7 hx484_8 hx484_9 hHeld ⊢
                refine pu 1 (some 93) #[F,T,F,F,F,F,F,F,F,F,F,F,F,F,F] (any_of HT_.out (by kernel_rfl)) ?_
                refine pu 3 (some 95) #[F,T,F,T,F,F,F,F,F,F,F,F,F,F,F] (any_of HT_.out (by kernel_rfl)) ?_
                refine pu 7 (some 99) #[F,T,F,T,F,F,F,T,F,F,F,F,F,F,F] (any_of HT_.out (by kernel_rfl)) ?_
                refine pu 9 (some 101) #[F,T,F,T,F,F,F,T,F,T,F,F,F,F,F] (any_of HT_.out (by kernel_rfl)) ?_
                refine take_ (i := 0) (N := some 92) (v := ?_) (a' := ?_) #[T,T,F,T,F,F,F,T,F,T,F,F,F,F,F] rfl rfl (take_ofW HT_.out HW_.out (by kernel_rfl)) (fun _ _ _ h => h) (Or.inl ⟨by rfl, ?_⟩) hHeld ?_ ?_
                rotate_left
                ·rintro w' ⟨s0, s1, s2, s3, s4, s5, s6, s7, s8, s9, s10, s11, s12, s13, s14, s15, s16, s17, s18, s19, s20, s21, s22, s23, s24, s25, s26, s27, s28⟩
                 go_simp;with_reducible rfl
                rotate_left;·simp only [Act.put, setIfInBounds_toArray, set_cons_zero, set_cons_succ, i64_w, i32_w];rfl
                refine take_ (i := 2) (N := some 94) (v := ?_) (a' := ?_) #[T,T,T,T,F,F,F,T,F,T,F,F,F,F,F] rfl rfl (take_ofW HT_.out HW_.out (by kernel_rfl)) (fun _ _ _ h => h) (Or.inl ⟨by rfl, ?_⟩) hHeld ?_ ?_
                rotate_left
                ·rintro w' ⟨s0, s1, s2, s3, s4, s5, s6, s7, s8, s9, s10, s11, s12, s13, s14, s15, s16, s17, s18, s19, s20, s21, s22, s23, s24, s25, s26, s27, s28⟩
                 go_simp;with_reducible rfl
                rotate_left;·simp only [Act.put, setIfInBounds_toArray, set_cons_zero, set_cons_succ, i64_w, i32_w];rfl
                refine pu 4 (some 96) #[T,T,T,T,T,F,F,T,F,T,F,F,F,F,F] (any_of HT_.out (by kernel_rfl)) ?_
                refine pu 5 (some 97) #[T,T,T,T,T,T,F,T,F,T,F,F,F,F,F] (any_of HT_.out (by kernel_rfl)) ?_
                refine take_ (i := 6) (N := some 98) (v := ?_) (a' := ?_) #[T,T,T,T,T,T,T,T,F,T,F,F,F,F,F] rfl rfl (take_ofW HT_.out HW_.out (by kernel_rfl)) (fun _ _ _ h => h) (Or.inl ⟨by rfl, ?_⟩) hHeld ?_ ?_
                rotate_left
                ·rintro w' ⟨s0, s1, s2, s3, s4, s5, s6, s7, s8, s9, s10, s11, s12, s13, s14, s15, s16, s17, s18, s19, s20, s21, s22, s23, s24, s25, s26, s27, s28⟩
                 go_simp;with_reducible rfl
                rotate_left;·simp only [Act.put, setIfInBounds_toArray, set_cons_zero, set_cons_succ, i64_w, i32_w];rfl
                refine take_ (i := 8) (N := some 100) (v := ?_) (a' := ?_) #[T,T,T,T,T,T,T,T,T,T,F,F,F,F,F] rfl rfl (take_ofW HT_.out HW_.out (by kernel_rfl)) (fun _ _ _ h => h) (Or.inl ⟨by rfl, ?_⟩) hHeld ?_ ?_
                rotate_left
                ·rintro w' ⟨s0, s1, s2, s3, s4, s5, s6, s7, s8, s9, s10, s11, s12, s13, s14, s15, s16, s17, s18, s19, s20, s21, s22, s23, s24, s25, s26, s27, s28⟩
                 go_simp;with_reducible rfl
                rotate_left;·simp only [Act.put, setIfInBounds_toArray, set_cons_zero, set_cons_succ, i64_w, i32_w];rfl
                refine pu 10 (some 102) #[T,T,T,T,T,T,T,T,T,T,T,F,F,F,F] (any_of HT_.out (by kernel_rfl)) ?_
                refine pu 11 (some 103) #[T,T,T,T,T,T,T,T,T,T,T,T,F,F,F] (any_of HT_.out (by kernel_rfl)) ?_
                refine take_ (i := 12) (N := some 104) (v := ?_) (a' := ?_) #[T,T,T,T,T,T,T,T,T,T,T,T,T,F,F] rfl rfl (take_ofW HT_.out HW_.out (by kernel_rfl)) (fun _ _ _ h => h) (Or.inl ⟨by rfl, ?_⟩) hHeld ?_ ?_
                rotate_left
                ·rintro w' ⟨s0, s1, s2, s3, s4, s5, s6, s7, s8, s9, s10, s11, s12, s13, s14, s15, s16, s17, s18, s19, s20, s21, s22, s23, s24, s25, s26, s27, s28⟩
                 go_simp;with_reducible rfl
                rotate_left;·simp only [Act.put, setIfInBounds_toArray, set_cons_zero, set_cons_succ, i64_w, i32_w];rfl
                refine one_ (i := 13) (N := some 105) #[T,T,T,T,T,T,T,T,T,T,T,T,T,T,F] rfl rfl (one_of HT_.out (by kernel_rfl)) (by decide) (fun K hK => ?_)
                refine goes_ Tryd.func75 (by kernel_rfl) rfl #[.agg #[.slice A0_0 l0_0.length c0_0, .slice A0_1 l0_1.length c0_1, .slice (some ad483) l0_2.length c0_2], .int .i64 ((rd_T130 l0_2 x8_4).f0), .int .i64 ((rd_T130 l0_2 x8_4).f1)] (by rfl) rfl rfl aok ?_
                with_reducible refine (crossbuckref05_Port.calls k4 _ _ l0_0 _ _ l0_1 _ _ l0_2 ((rd_T130 l0_2 x8_4).f0) ((rd_T130 l0_2 x8_4).f1) t485 _ ?side1 ?side2 ?side3 ?side4 ?side5 ?side6 A41.out).mono ?_
                (case side1 => repeat (first | exact (Kd.C_below HR0_0.out HB.out) | (with_reducible refine Kd.C_alloc ?_ _) | (with_reducible refine Kd.C_drewN ?_ _) | (with_reducible refine Kd.C_drew ?_)))
                (case side2 => exact HC0_0.out)
                (case side3 => repeat (first | exact (Kd.C_below HR0_1.out HB.out) | (with_reducible refine Kd.C_alloc ?_ _) | (with_reducible refine Kd.C_drewN ?_ _) | (with_reducible refine Kd.C_drew ?_)))
                (case side4 => exact HC0_1.out)
                (case side5 => repeat (first | exact (Kd.C_below HR0_2.out HB.out) | (with_reducible refine Kd.C_alloc ?_ _) | (with_reducible refine Kd.C_drewN ?_ _) | (with_reducible refine Kd.C_drew ?_)))
                (case side6 => exact HC0_2.out)
                rintro e w52 ⟨rfl, hb⟩;refine ⟨_, rfl, ?_⟩;replace BK472 := Aside0.mk (bb BK472.out hb)
                replace HB := Aside0.mk (below_step (bel HB) hb)
                (try clear hb);(try clear hb2);(try clear hk);(try clear hi)
                refine hK.out _ _ ⟨(blk_cell BK472.out 0).trans rfl, (blk_cell BK472.out 1).trans rfl, (blk_cell BK472.out 2).trans rfl, ((HB.out.cell (World.block_lt_of_cell? w _ hw483_0)).trans hw483_0), ((HB.out.cell (World.block_lt_of_cell? w _ hw483_1)).trans hw483_1), ((HB.out.cell (World.block_lt_of_cell? w _ hw483_2)).trans hw483_2), ((HB.out.cell (World.block_lt_of_cell? w _ hw483_3)).trans hw483_3), ((HB.out.cell (World.block_lt_of_cell? w _ hw483_4)).trans hw483_4), ((HB.out.cell (World.block_lt_of_cell? w _ hw483_5)).trans hw483_5), ((HB.out.cell (World.block_lt_of_cell? w _ hw483_6)).trans hw483_6), ((HB.out.cell (World.block_lt_of_cell? w _ hw483_7)).trans hw483_7), ((HB.out.cell (World.block_lt_of_cell? w _ hw483_8)).trans hw483_8), ((HB.out.cell (World.block_lt_of_cell? w _ hw483_9)).trans hw483_9), ((HB.out.cell (World.block_lt_of_cell? w _ hw483_10)).trans hw483_10), ((HB.out.cell (World.block_lt_of_cell? w _ hw483_11)).trans hw483_11), ((HB.out.cell (World.block_lt_of_cell? w _ hw483_12)).trans hw483_12), ((HB.out.cell (World.block_lt_of_cell? w _ hw484_0)).trans hw484_0), ((HB.out.cell (World.block_lt_of_cell? w _ hw484_1)).trans hw484_1), ((HB.out.cell (World.block_lt_of_cell? w _ hw484_2)).trans hw484_2), ((HB.out.cell (World.block_lt_of_cell? w _ hw484_3)).trans hw484_3), ((HB.out.cell (World.block_lt_of_cell? w _ hw484_4)).trans hw484_4), ((HB.out.cell (World.block_lt_of_cell? w _ hw484_5)).trans hw484_5), ((HB.out.cell (World.block_lt_of_cell? w _ hw484_6)).trans hw484_6), ((HB.out.cell (World.block_lt_of_cell? w _ hw484_7)).trans hw484_7), ((HB.out.cell (World.block_lt_of_cell? w _ hw484_8)).trans hw484_8), ((HB.out.cell (World.block_lt_of_cell? w _ hw484_9)).trans hw484_9), ((HB.out.cell (World.block_lt_of_cell? w _ hw484_10)).trans hw484_10), ((HB.out.cell (World.block_lt_of_cell? w _ hw484_11)).trans hw484_11), ((HB.out.cell (World.block_lt_of_cell? w _ hw484_12)).trans hw484_12)⟩ (fun hHeld => ?_)
                clear hK K
                refine nput ?_
                refine pu 14 (some 9) #[T,T,T,T,T,T,T,T,T,T,T,T,T,T,T] (any_of HT_.out (by kernel_rfl)) ?_
                refine done_ (done_of HT_.out (by kernel_rfl)) ?_
                have hcz53 := cz3 BK472.out
                have p486 : 0 ≤ (x8_4 : Int) := of_decide_eq_true (by first | (with_reducible assumption) | assumption)
                have q486 : x8_4 < (l0_2.length : Int) := of_decide_eq_true (by first | (with_reducible assumption) | assumption)
                obtain ⟨ad486, e486, hx486_0, hx486_1, hx486_2, hx486_3, hx486_4, hx486_5, hx486_6, hx486_7, hx486_8, hx486_9, hx486_10, hx486_11, hx486_12⟩ := at_T130 HR0_2.out x8_4 p486 q486
                obtain rfl : ad483 = ad486 := (by injection e486)
                replace hx486_0 := mv HB hx486_0;replace hx486_1 := mv HB hx486_1;replace hx486_2 := mv HB hx486_2;replace hx486_3 := mv HB hx486_3;replace hx486_4 := mv HB hx486_4;replace hx486_5 := mv HB hx486_5;replace hx486_6 := mv HB hx486_6;replace hx486_7 := mv HB hx486_7;replace hx486_8 := mv HB hx486_8;replace hx486_9 := mv HB hx486_9;replace hx486_10 := mv HB hx486_10;replace hx486_11 := mv HB hx486_11;replace hx486_12 := mv HB hx486_12;replace p486 := eq_true p486;replace q486 := eq_true q486
                try go_wp2_with (first | ((with_reducible refine gate_callee (f := 43) rfl ?_); refine goesL_ (some 115) rfl rfl Tryd.func43 (by kernel_rfl) rfl #[.agg #[.int .u32 ((rd_T130 l0_2 x8_4).f4.f0.f0), .int .i64 ((rd_T130 l0_2 x8_4).f4.f0.f1), .int .u32 ((rd_T130 l0_2 x8_4).f4.f1.f0), .int .i64 ((rd_T130 l0_2 x8_4).f4.f1.f1), .int .i64 ((rd_T130 l0_2 x8_4).f4.f2), .int .u16 ((rd_T130 l0_2 x8_4).f4.f3.f0), .int .u16 ((rd_T130 l0_2 x8_4).f4.f3.f1), .int .u16 ((rd_T130 l0_2 x8_4).f4.f4.f0), .int .u16 ((rd_T130 l0_2 x8_4).f4.f4.f1)]] rfl aok ?_; (with_reducible refine (crossbuckref04_Check.calls k4 ((rd_T130 l0_2 x8_4).f4.f0.f0) ((rd_T130 l0_2 x8_4).f4.f0.f1) ((rd_T130 l0_2 x8_4).f4.f1.f0) ((rd_T130 l0_2 x8_4).f4.f1.f1) ((rd_T130 l0_2 x8_4).f4.f2) ((rd_T130 l0_2 x8_4).f4.f3.f0) ((rd_T130 l0_2 x8_4).f4.f3.f1) ((rd_T130 l0_2 x8_4).f4.f4.f0) ((rd_T130 l0_2 x8_4).f4.f4.f1) t487 _ A43.out).mono ?_); rintro e w54 ⟨rfl, hb⟩; refine ⟨_, rfl, ?_⟩; have n0_ := Aside0.mk (bb BK472.out hb); have n1_ := Aside0.mk (below_step (bel HB) hb); clear BK472; clear HB; have BK472 := n0_; have HB := n1_; clear n0_ n1_; (try clear hb); (try clear hb2); (try clear hk); (try clear hi)))
                go_ret
                exact ⟨fin, bel HB⟩
              ·rw [if_neg c42] at H
               have c42b0 : (t485 == 0) = false := beq_eq_false_iff_ne.mpr c42;have c42b1 : (t485 != 0) = true := bne_iff_ne.mpr c42;obtain rfl := Option.some.inj H;have hcz55 := cz3 BK472.out
               try go_wp2
               replace BK472 := Aside0.mk (blk_drew BK472.out);replace HB := Aside0.mk (below_drew1 HB.out)
               have p483 : 0 ≤ (x8_4 : Int) := of_decide_eq_true (by first | (with_reducible assumption) | assumption)
               have q483 : x8_4 < (l0_2.length : Int) := of_decide_eq_true (by first | (with_reducible assumption) | assumption)
               obtain ⟨ad483, e483, hx483_0, hx483_1, hx483_2, hx483_3, hx483_4, hx483_5, hx483_6, hx483_7, hx483_8, hx483_9, hx483_10, hx483_11, hx483_12⟩ := at_T130 HR0_2.out x8_4 p483 q483;have hw483_12 := hx483_12;have hw483_11 := hx483_11;have hw483_10 := hx483_10;have hw483_9 := hx483_9;have hw483_8 := hx483_8;have hw483_7 := hx483_7;have hw483_6 := hx483_6;have hw483_5 := hx483_5;have hw483_4 := hx483_4;have hw483_3 := hx483_3;have hw483_2 := hx483_2;have hw483_1 := hx483_1;have hw483_0 := hx483_0
               cases e483
               replace hx483_0 := mv HB hx483_0;replace hx483_1 := mv HB hx483_1;replace hx483_2 := mv HB hx483_2;replace hx483_3 := mv HB hx483_3;replace hx483_4 := mv HB hx483_4;replace hx483_5 := mv HB hx483_5;replace hx483_6 := mv HB hx483_6;replace hx483_7 := mv HB hx483_7;replace hx483_8 := mv HB hx483_8;replace hx483_9 := mv HB hx483_9;replace hx483_10 := mv HB hx483_10;replace hx483_11 := mv HB hx483_11;replace hx483_12 := mv HB hx483_12;replace p483 := eq_true p483;replace q483 := eq_true q483
               have p484 : 0 ≤ (x8_4 : Int) := of_decide_eq_true (by first | (with_reducible assumption) | assumption)
               have q484 : x8_4 < (l0_2.length : Int) := of_decide_eq_true (by first | (with_reducible assumption) | assumption)
               obtain ⟨ad484, e484, hx484_0, hx484_1, hx484_2, hx484_3, hx484_4, hx484_5, hx484_6, hx484_7, hx484_8, hx484_9, hx484_10, hx484_11, hx484_12⟩ := at_T130 HR0_2.out x8_4 p484 q484;have hw484_12 := hx484_12;have hw484_11 := hx484_11;have hw484_10 := hx484_10;have hw484_9 := hx484_9;have hw484_8 := hx484_8;have hw484_7 := hx484_7;have hw484_6 := hx484_6;have hw484_5 := hx484_5;have hw484_4 := hx484_4;have hw484_3 := hx484_3;have hw484_2 := hx484_2;have hw484_1 := hx484_1;have hw484_0 := hx484_0
               obtain rfl : ad483 = ad484 := (by injection e484)
               replace hx484_0 := mv HB hx484_0;replace hx484_1 := mv HB hx484_1;replace hx484_2 := mv HB hx484_2;replace hx484_3 := mv HB hx484_3;replace hx484_4 := mv HB hx484_4;replace hx484_5 := mv HB hx484_5;replace hx484_6 := mv HB hx484_6;replace hx484_7 := mv HB hx484_7;replace hx484_8 := mv HB hx484_8;replace hx484_9 := mv HB hx484_9;replace hx484_10 := mv HB hx484_10;replace hx484_11 := mv HB hx484_11;replace hx484_12 := mv HB hx484_12;replace p484 := eq_true p484;replace q484 := eq_true q484
               refine start_ (n := 15) (S := fun w' => w'.cell? ⟨gb472, 0, none⟩ = some (.slice A0_0 l0_0.length c0_0) ∧ w'.cell? ⟨gb472, 1, none⟩ = some (.slice A0_1 l0_1.length c0_1) ∧ w'.cell? ⟨gb472, 2, none⟩ = some (.slice (some ad483) l0_2.length c0_2) ∧ w'.cell? (ad483.add ((x8_4).toNat * 13)) = some (.int .i64 ((rd_T130 l0_2 x8_4).f0)) ∧ w'.cell? ⟨(ad483.add ((x8_4).toNat * 13)).block, (ad483.add ((x8_4).toNat * 13)).off + 1, none⟩ = some (.int .i64 ((rd_T130 l0_2 x8_4).f1)) ∧ w'.cell? ⟨(ad483.add ((x8_4).toNat * 13)).block, (ad483.add ((x8_4).toNat * 13)).off + 2, none⟩ = some (.bool ((rd_T130 l0_2 x8_4).f2)) ∧ w'.cell? ⟨(ad483.add ((x8_4).toNat * 13)).block, (ad483.add ((x8_4).toNat * 13)).off + 3, none⟩ = some (.bool ((rd_T130 l0_2 x8_4).f3)) ∧ w'.cell? ⟨(ad483.add ((x8_4).toNat * 13)).block, (ad483.add ((x8_4).toNat * 13)).off + 4, none⟩ = some (.int .u32 ((rd_T130 l0_2 x8_4).f4.f0.f0)) ∧ w'.cell? ⟨(ad483.add ((x8_4).toNat * 13)).block, (ad483.add ((x8_4).toNat * 13)).off + 5, none⟩ = some (.int .i64 ((rd_T130 l0_2 x8_4).f4.f0.f1)) ∧ w'.cell? ⟨(ad483.add ((x8_4).toNat * 13)).block, (ad483.add ((x8_4).toNat * 13)).off + 6, none⟩ = some (.int .u32 ((rd_T130 l0_2 x8_4).f4.f1.f0)) ∧ w'.cell? ⟨(ad483.add ((x8_4).toNat * 13)).block, (ad483.add ((x8_4).toNat * 13)).off + 7, none⟩ = some (.int .i64 ((rd_T130 l0_2 x8_4).f4.f1.f1)) ∧ w'.cell? ⟨(ad483.add ((x8_4).toNat * 13)).block, (ad483.add ((x8_4).toNat * 13)).off + 8, none⟩ = some (.int .i64 ((rd_T130 l0_2 x8_4).f4.f2)) ∧ w'.cell? ⟨(ad483.add ((x8_4).toNat * 13)).block, (ad483.add ((x8_4).toNat * 13)).off + 9, none⟩ = some (.int .u16 ((rd_T130 l0_2 x8_4).f4.f3.f0)) ∧ w'.cell? ⟨(ad483.add ((x8_4).toNat * 13)).block, (ad483.add ((x8_4).toNat * 13)).off + 10, none⟩ = some (.int .u16 ((rd_T130 l0_2 x8_4).f4.f3.f1)) ∧ w'.cell? ⟨(ad483.add ((x8_4).toNat * 13)).block, (ad483.add ((x8_4).toNat * 13)).off + 11, none⟩ = some (.int .u16 ((rd_T130 l0_2 x8_4).f4.f4.f0)) ∧ w'.cell? ⟨(ad483.add ((x8_4).toNat * 13)).block, (ad483.add ((x8_4).toNat * 13)).off + 12, none⟩ = some (.int .u16 ((rd_T130 l0_2 x8_4).f4.f4.f1)) ∧ w'.cell? (ad483.add ((x8_4).toNat * 13)) = some (.int .i64 ((rd_T130 l0_2 x8_4).f0)) ∧ w'.cell? ⟨(ad483.add ((x8_4).toNat * 13)).block, (ad483.add ((x8_4).toNat * 13)).off + 1, none⟩ = some (.int .i64 ((rd_T130 l0_2 x8_4).f1)) ∧ w'.cell? ⟨(ad483.add ((x8_4).toNat * 13)).block, (ad483.add ((x8_4).toNat * 13)).off + 2, none⟩ = some (.bool ((rd_T130 l0_2 x8_4).f2)) ∧ w'.cell? ⟨(ad483.add ((x8_4).toNat * 13)).block, (ad483.add ((x8_4).toNat * 13)).off + 3, none⟩ = some (.bool ((rd_T130 l0_2 x8_4).f3)) ∧ w'.cell? ⟨(ad483.add ((x8_4).toNat * 13)).block, (ad483.add ((x8_4).toNat * 13)).off + 4, none⟩ = some (.int .u32 ((rd_T130 l0_2 x8_4).f4.f0.f0)) ∧ w'.cell? ⟨(ad483.add ((x8_4).toNat * 13)).block, (ad483.add ((x8_4).toNat * 13)).off + 5, none⟩ = some (.int .i64 ((rd_T130 l0_2 x8_4).f4.f0.f1)) ∧ w'.cell? ⟨(ad483.add ((x8_4).toNat * 13)).block, (ad483.add ((x8_4).toNat * 13)).off + 6, none⟩ = some (.int .u32 ((rd_T130 l0_2 x8_4).f4.f1.f0)) ∧ w'.cell? ⟨(ad483.add ((x8_4).toNat * 13)).block, (ad483.add ((x8_4).toNat * 13)).off + 7, none⟩ = some (.int .i64 ((rd_T130 l0_2 x8_4).f4.f1.f1)) ∧ w'.cell? ⟨(ad483.add ((x8_4).toNat * 13)).block, (ad483.add ((x8_4).toNat * 13)).off + 8, none⟩ = some (.int .i64 ((rd_T130 l0_2 x8_4).f4.f2)) ∧ w'.cell? ⟨(ad483.add ((x8_4).toNat * 13)).block, (ad483.add ((x8_4).toNat * 13)).off + 9, none⟩ = some (.int .u16 ((rd_T130 l0_2 x8_4).f4.f3.f0)) ∧ w'.cell? ⟨(ad483.add ((x8_4).toNat * 13)).block, (ad483.add ((x8_4).toNat * 13)).off + 10, none⟩ = some (.int .u16 ((rd_T130 l0_2 x8_4).f4.f3.f1)) ∧ w'.cell? ⟨(ad483.add ((x8_4).toNat * 13)).block, (ad483.add ((x8_4).toNat * 13)).off + 11, none⟩ = some (.int .u16 ((rd_T130 l0_2 x8_4).f4.f4.f0)) ∧ w'.cell? ⟨(ad483.add ((x8_4).toNat * 13)).block, (ad483.add ((x8_4).toNat * 13)).off + 12, none⟩ = some (.int .u16 ((rd_T130 l0_2 x8_4).f4.f4.f1))) (ds := []) #[F,F,F,F,F,F,F,F,F,F,F,F,F,F,F] (by kernel_rfl) rfl rfl ⟨(blk_cell BK472.out 0).trans rfl, (blk_cell BK472.out 1).trans rfl, (blk_cell BK472.out 2).trans rfl, ((HB.out.cell (World.block_lt_of_cell? w _ hw483_0)).trans hw483_0), ((HB.out.cell (World.block_lt_of_cell? w _ hw483_1)).trans hw483_1), ((HB.out.cell (World.block_lt_of_cell? w _ hw483_2)).trans hw483_2), ((HB.out.cell (World.block_lt_of_cell? w _ hw483_3)).trans hw483_3), ((HB.out.cell (World.block_lt_of_cell? w _ hw483_4)).trans hw483_4), ((HB.out.cell (World.block_lt_of_cell? w _ hw483_5)).trans hw483_5), ((HB.out.cell (World.block_lt_of_cell? w _ hw483_6)).trans hw483_6), ((HB.out.cell (World.block_lt_of_cell? w _ hw483_7)).trans hw483_7), ((HB.out.cell (World.block_lt_of_cell? w _ hw483_8)).trans hw483_8), ((HB.out.cell (World.block_lt_of_cell? w _ hw483_9)).trans hw483_9), ((HB.out.cell (World.block_lt_of_cell? w _ hw483_10)).trans hw483_10), ((HB.out.cell (World.block_lt_of_cell? w _ hw483_11)).trans hw483_11), ((HB.out.cell (World.block_lt_of_cell? w _ hw483_12)).trans hw483_12), ((HB.out.cell (World.block_lt_of_cell? w _ hw484_0)).trans hw484_0), ((HB.out.cell (World.block_lt_of_cell? w _ hw484_1)).trans hw484_1), ((HB.out.cell (World.block_lt_of_cell? w _ hw484_2)).trans hw484_2), ((HB.out.cell (World.block_lt_of_cell? w _ hw484_3)).trans hw484_3), ((HB.out.cell (World.block_lt_of_cell? w _ hw484_4)).trans hw484_4), ((HB.out.cell (World.block_lt_of_cell? w _ hw484_5)).trans hw484_5), ((HB.out.cell (World.block_lt_of_cell? w _ hw484_6)).trans hw484_6), ((HB.out.cell (World.block_lt_of_cell? w _ hw484_7)).trans hw484_7), ((HB.out.cell (World.block_lt_of_cell? w _ hw484_8)).trans hw484_8), ((HB.out.cell (World.block_lt_of_cell? w _ hw484_9)).trans hw484_9), ((HB.out.cell (World.block_lt_of_cell? w _ hw484_10)).trans hw484_10), ((HB.out.cell (World.block_lt_of_cell? w _ hw484_11)).trans hw484_11), ((HB.out.cell (World.block_lt_of_cell? w _ hw484_12)).trans hw484_12)⟩ (fun hHeld => ?_); refine with_tabW crossbuckref05_Check.tab23 crossbuckref05_Check.bits23 (fun HT_ HW_ => ?_)
               generalize wr.drew = w56 at BK472 HB hx483_0 hx483_1 hx483_10 hx483_11 hx483_12 hx483_2 hx483_3 hx483_4 hx483_5 hx483_6 hx483_7 hx483_8 hx483_9 hx484_0 hx484_1 hx484_10 hx484_11 hx484_12 hx484_2 hx484_3 hx484_4 hx484_5 hx484_6 hx484_7 hx484_8 hx484_9 hHeld ⊢
               refine pu 1 (some 93) #[F,T,F,F,F,F,F,F,F,F,F,F,F,F,F] (any_of HT_.out (by kernel_rfl)) ?_
               refine pu 3 (some 95) #[F,T,F,T,F,F,F,F,F,F,F,F,F,F,F] (any_of HT_.out (by kernel_rfl)) ?_
               refine pu 7 (some 99) #[F,T,F,T,F,F,F,T,F,F,F,F,F,F,F] (any_of HT_.out (by kernel_rfl)) ?_
               refine pu 9 (some 101) #[F,T,F,T,F,F,F,T,F,T,F,F,F,F,F] (any_of HT_.out (by kernel_rfl)) ?_
               refine take_ (i := 0) (N := some 92) (v := ?_) (a' := ?_) #[T,T,F,T,F,F,F,T,F,T,F,F,F,F,F] rfl rfl (take_ofW HT_.out HW_.out (by kernel_rfl)) (fun _ _ _ h => h) (Or.inl ⟨by rfl, ?_⟩) hHeld ?_ ?_
               rotate_left
               ·rintro w' ⟨s0, s1, s2, s3, s4, s5, s6, s7, s8, s9, s10, s11, s12, s13, s14, s15, s16, s17, s18, s19, s20, s21, s22, s23, s24, s25, s26, s27, s28⟩
                go_simp;with_reducible rfl
               rotate_left;·simp only [Act.put, setIfInBounds_toArray, set_cons_zero, set_cons_succ, i64_w, i32_w];rfl
               refine take_ (i := 2) (N := some 94) (v := ?_) (a' := ?_) #[T,T,T,T,F,F,F,T,F,T,F,F,F,F,F] rfl rfl (take_ofW HT_.out HW_.out (by kernel_rfl)) (fun _ _ _ h => h) (Or.inl ⟨by rfl, ?_⟩) hHeld ?_ ?_
               rotate_left
               ·rintro w' ⟨s0, s1, s2, s3, s4, s5, s6, s7, s8, s9, s10, s11, s12, s13, s14, s15, s16, s17, s18, s19, s20, s21, s22, s23, s24, s25, s26, s27, s28⟩
                go_simp;with_reducible rfl
               rotate_left;·simp only [Act.put, setIfInBounds_toArray, set_cons_zero, set_cons_succ, i64_w, i32_w];rfl
               refine pu 4 (some 96) #[T,T,T,T,T,F,F,T,F,T,F,F,F,F,F] (any_of HT_.out (by kernel_rfl)) ?_
               refine pu 5 (some 97) #[T,T,T,T,T,T,F,T,F,T,F,F,F,F,F] (any_of HT_.out (by kernel_rfl)) ?_
               refine take_ (i := 6) (N := some 98) (v := ?_) (a' := ?_) #[T,T,T,T,T,T,T,T,F,T,F,F,F,F,F] rfl rfl (take_ofW HT_.out HW_.out (by kernel_rfl)) (fun _ _ _ h => h) (Or.inl ⟨by rfl, ?_⟩) hHeld ?_ ?_
               rotate_left
               ·rintro w' ⟨s0, s1, s2, s3, s4, s5, s6, s7, s8, s9, s10, s11, s12, s13, s14, s15, s16, s17, s18, s19, s20, s21, s22, s23, s24, s25, s26, s27, s28⟩
                go_simp;with_reducible rfl
               rotate_left;·simp only [Act.put, setIfInBounds_toArray, set_cons_zero, set_cons_succ, i64_w, i32_w];rfl
               refine take_ (i := 8) (N := some 100) (v := ?_) (a' := ?_) #[T,T,T,T,T,T,T,T,T,T,F,F,F,F,F] rfl rfl (take_ofW HT_.out HW_.out (by kernel_rfl)) (fun _ _ _ h => h) (Or.inl ⟨by rfl, ?_⟩) hHeld ?_ ?_
               rotate_left
               ·rintro w' ⟨s0, s1, s2, s3, s4, s5, s6, s7, s8, s9, s10, s11, s12, s13, s14, s15, s16, s17, s18, s19, s20, s21, s22, s23, s24, s25, s26, s27, s28⟩
                go_simp;with_reducible rfl
               rotate_left;·simp only [Act.put, setIfInBounds_toArray, set_cons_zero, set_cons_succ, i64_w, i32_w];rfl
               refine pu 10 (some 102) #[T,T,T,T,T,T,T,T,T,T,T,F,F,F,F] (any_of HT_.out (by kernel_rfl)) ?_
               refine pu 11 (some 103) #[T,T,T,T,T,T,T,T,T,T,T,T,F,F,F] (any_of HT_.out (by kernel_rfl)) ?_
               refine take_ (i := 12) (N := some 104) (v := ?_) (a' := ?_) #[T,T,T,T,T,T,T,T,T,T,T,T,T,F,F] rfl rfl (take_ofW HT_.out HW_.out (by kernel_rfl)) (fun _ _ _ h => h) (Or.inl ⟨by rfl, ?_⟩) hHeld ?_ ?_
               rotate_left
               ·rintro w' ⟨s0, s1, s2, s3, s4, s5, s6, s7, s8, s9, s10, s11, s12, s13, s14, s15, s16, s17, s18, s19, s20, s21, s22, s23, s24, s25, s26, s27, s28⟩
                go_simp;with_reducible rfl
               rotate_left;·simp only [Act.put, setIfInBounds_toArray, set_cons_zero, set_cons_succ, i64_w, i32_w];rfl
               refine one_ (i := 13) (N := some 105) #[T,T,T,T,T,T,T,T,T,T,T,T,T,T,F] rfl rfl (one_of HT_.out (by kernel_rfl)) (by decide) (fun K hK => ?_)
               refine goes_ Tryd.func75 (by kernel_rfl) rfl #[.agg #[.slice A0_0 l0_0.length c0_0, .slice A0_1 l0_1.length c0_1, .slice (some ad483) l0_2.length c0_2], .int .i64 ((rd_T130 l0_2 x8_4).f0), .int .i64 ((rd_T130 l0_2 x8_4).f1)] (by rfl) rfl rfl aok ?_
               with_reducible refine (crossbuckref05_Port.calls k4 _ _ l0_0 _ _ l0_1 _ _ l0_2 ((rd_T130 l0_2 x8_4).f0) ((rd_T130 l0_2 x8_4).f1) t485 _ ?side1 ?side2 ?side3 ?side4 ?side5 ?side6 A41.out).mono ?_
               (case side1 => repeat (first | exact (Kd.C_below HR0_0.out HB.out) | (with_reducible refine Kd.C_alloc ?_ _) | (with_reducible refine Kd.C_drewN ?_ _) | (with_reducible refine Kd.C_drew ?_)))
               (case side2 => exact HC0_0.out)
               (case side3 => repeat (first | exact (Kd.C_below HR0_1.out HB.out) | (with_reducible refine Kd.C_alloc ?_ _) | (with_reducible refine Kd.C_drewN ?_ _) | (with_reducible refine Kd.C_drew ?_)))
               (case side4 => exact HC0_1.out)
               (case side5 => repeat (first | exact (Kd.C_below HR0_2.out HB.out) | (with_reducible refine Kd.C_alloc ?_ _) | (with_reducible refine Kd.C_drewN ?_ _) | (with_reducible refine Kd.C_drew ?_)))
               (case side6 => exact HC0_2.out)
               rintro e w57 ⟨rfl, hb⟩;refine ⟨_, rfl, ?_⟩;replace BK472 := Aside0.mk (bb BK472.out hb)
               replace HB := Aside0.mk (below_step (bel HB) hb)
               (try clear hb);(try clear hb2);(try clear hk);(try clear hi)
               refine hK.out _ _ ⟨(blk_cell BK472.out 0).trans rfl, (blk_cell BK472.out 1).trans rfl, (blk_cell BK472.out 2).trans rfl, ((HB.out.cell (World.block_lt_of_cell? w _ hw483_0)).trans hw483_0), ((HB.out.cell (World.block_lt_of_cell? w _ hw483_1)).trans hw483_1), ((HB.out.cell (World.block_lt_of_cell? w _ hw483_2)).trans hw483_2), ((HB.out.cell (World.block_lt_of_cell? w _ hw483_3)).trans hw483_3), ((HB.out.cell (World.block_lt_of_cell? w _ hw483_4)).trans hw483_4), ((HB.out.cell (World.block_lt_of_cell? w _ hw483_5)).trans hw483_5), ((HB.out.cell (World.block_lt_of_cell? w _ hw483_6)).trans hw483_6), ((HB.out.cell (World.block_lt_of_cell? w _ hw483_7)).trans hw483_7), ((HB.out.cell (World.block_lt_of_cell? w _ hw483_8)).trans hw483_8), ((HB.out.cell (World.block_lt_of_cell? w _ hw483_9)).trans hw483_9), ((HB.out.cell (World.block_lt_of_cell? w _ hw483_10)).trans hw483_10), ((HB.out.cell (World.block_lt_of_cell? w _ hw483_11)).trans hw483_11), ((HB.out.cell (World.block_lt_of_cell? w _ hw483_12)).trans hw483_12), ((HB.out.cell (World.block_lt_of_cell? w _ hw484_0)).trans hw484_0), ((HB.out.cell (World.block_lt_of_cell? w _ hw484_1)).trans hw484_1), ((HB.out.cell (World.block_lt_of_cell? w _ hw484_2)).trans hw484_2), ((HB.out.cell (World.block_lt_of_cell? w _ hw484_3)).trans hw484_3), ((HB.out.cell (World.block_lt_of_cell? w _ hw484_4)).trans hw484_4), ((HB.out.cell (World.block_lt_of_cell? w _ hw484_5)).trans hw484_5), ((HB.out.cell (World.block_lt_of_cell? w _ hw484_6)).trans hw484_6), ((HB.out.cell (World.block_lt_of_cell? w _ hw484_7)).trans hw484_7), ((HB.out.cell (World.block_lt_of_cell? w _ hw484_8)).trans hw484_8), ((HB.out.cell (World.block_lt_of_cell? w _ hw484_9)).trans hw484_9), ((HB.out.cell (World.block_lt_of_cell? w _ hw484_10)).trans hw484_10), ((HB.out.cell (World.block_lt_of_cell? w _ hw484_11)).trans hw484_11), ((HB.out.cell (World.block_lt_of_cell? w _ hw484_12)).trans hw484_12)⟩ (fun hHeld => ?_)
               clear hK K
               refine nput ?_
               refine pu 14 (some 9) #[T,T,T,T,T,T,T,T,T,T,T,T,T,T,T] (any_of HT_.out (by kernel_rfl)) ?_
               refine done_ (done_of HT_.out (by kernel_rfl)) ?_
               try go_wp2
               go_ret
               exact ⟨fin, bel HB⟩
             ·rw [if_neg c40] at H
              exact absurd H (by simp)
            ·rw [if_neg c39] at H
             have c39b0 : decide (x8_4 < (l0_2.length : Int)) = false := decide_eq_false c39;clear c39;obtain rfl := Option.some.inj H;have hcz58 := cz3 BK472.out;go_wp2;go_ret
             exact ⟨fin, bel HB⟩

end Go.Proofs.YtloclimoffhbhaaDoor.PSto
