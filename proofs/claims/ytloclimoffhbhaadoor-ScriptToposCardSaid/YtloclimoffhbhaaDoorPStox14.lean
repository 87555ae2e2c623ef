-- Written by wip/myprint.py and wip/merge.py (this session's own programs); Lean checks it.
-- halved
import Derived.Test.YtloclimoffhbhaaDoorSq6
import Derived.Test.YtloclimoffhbhaaDoorPStox0
import Derived.Test.YtloclimoffhbhaaDoorPStox7
import Derived.Test.YtloclimoffhbhaaDoorPStox9
namespace Go.Proofs.YtloclimoffhbhaaDoor.PSto
open Go.RowKit Go.Proofs.YtloclimoffhbhaaDoorW.PrintWords Go.Proofs.YtloclimoffhbhaaDoorW.PrintLast Go.Proofs.YtloclimoffhbhaaDoorW.PrintMore Go.Proofs.YtloclimoffhbhaaDoorW.PrintSq List
attribute [local go_sem] max2_int min2_int max_two min_two max_three min_three max_four min_four   -- for this text's walks alone
set_option linter.unusedVariables false
set_option linter.unusedSimpArgs false

/-! ### crossbuckref25_Topo: function 23 -/
mutual
def crossbuckref25_Topo.l0 : Nat → List ByteArray → Int → List Int → List (S133) → List (S130) → Option (List ByteArray)
 | 0, _, _, _, _, _ => none
 | k + 1, x3, x4, x489000, x489001, x489002 => if x4 < (x489000.length : Int) then (if 0 ≤ x4 then ((crossbuckref25_n.f k (rd x489000 x4)).bind fun t490 => (if 7 + t490.size ≤ 9223372036854775807 then (if x3.length < 8796093022208 then (crossbuckref25_Topo.l0 k (x3 ++ [(⟨#[100, 101, 118, 105, 99, 101, 32]⟩ : ByteArray) ++ t490]) (wrap64 (x4 + 1)) x489000 x489001 x489002) else (none)) else (none))) else (none)) else (crossbuckref25_Topo.l1 k x3 0 x489000 x489001 x489002)
def crossbuckref25_Topo.l1 : Nat → List ByteArray → Int → List Int → List (S133) → List (S130) → Option (List ByteArray)
 | 0, _, _, _, _, _ => none
 | k + 1, x3, x5, x489000, x489001, x489002 => if x5 < (x489001.length : Int) then (if 0 ≤ x5 then ((crossbuckref25_n.f k ((rd_T133 x489001 x5).f0)).bind fun t496 => (if 5 + t496.size ≤ 9223372036854775807 then (if ((⟨#[108, 105, 110, 107, 32]⟩ : ByteArray) ++ t496).size + 1 ≤ 9223372036854775807 then ((crossbuckref25_n.f k ((rd_T133 x489001 x5).f1)).bind fun t497 => (if (((⟨#[108, 105, 110, 107, 32]⟩ : ByteArray) ++ t496) ++ (⟨#[32]⟩ : ByteArray)).size + t497.size ≤ 9223372036854775807 then (if ((((⟨#[108, 105, 110, 107, 32]⟩ : ByteArray) ++ t496) ++ (⟨#[32]⟩ : ByteArray)) ++ t497).size + 1 ≤ 9223372036854775807 then ((crossbuckref25_n.f k ((rd_T133 x489001 x5).f2)).bind fun t498 => (if (((((⟨#[108, 105, 110, 107, 32]⟩ : ByteArray) ++ t496) ++ (⟨#[32]⟩ : ByteArray)) ++ t497) ++ (⟨#[32]⟩ : ByteArray)).size + t498.size ≤ 9223372036854775807 then (if ((((((⟨#[108, 105, 110, 107, 32]⟩ : ByteArray) ++ t496) ++ (⟨#[32]⟩ : ByteArray)) ++ t497) ++ (⟨#[32]⟩ : ByteArray)) ++ t498).size + 1 ≤ 9223372036854775807 then ((crossbuckref25_n.f k ((rd_T133 x489001 x5).f3)).bind fun t499 => (if (((((((⟨#[108, 105, 110, 107, 32]⟩ : ByteArray) ++ t496) ++ (⟨#[32]⟩ : ByteArray)) ++ t497) ++ (⟨#[32]⟩ : ByteArray)) ++ t498) ++ (⟨#[32]⟩ : ByteArray)).size + t499.size ≤ 9223372036854775807 then (if x3.length < 8796093022208 then (crossbuckref25_Topo.l1 k (x3 ++ [(((((((⟨#[108, 105, 110, 107, 32]⟩ : ByteArray) ++ t496) ++ (⟨#[32]⟩ : ByteArray)) ++ t497) ++ (⟨#[32]⟩ : ByteArray)) ++ t498) ++ (⟨#[32]⟩ : ByteArray)) ++ t499]) (wrap64 (x5 + 1)) x489000 x489001 x489002) else (none)) else (none))) else (none)) else (none))) else (none)) else (none))) else (none)) else (none))) else (none)) else (crossbuckref25_Topo.l2 k x3 0 x489000 x489001 x489002)
def crossbuckref25_Topo.l2 : Nat → List ByteArray → Int → List Int → List (S133) → List (S130) → Option (List ByteArray)
 | 0, _, _, _, _, _ => none
 | k + 1, x3, x7, x489000, x489001, x489002 => if x7 < (x489002.length : Int) then (if 0 ≤ x7 then (if (rd_T130 x489002 x7).f2 = true then (crossbuckref25_Topo.j3 k x3 x7 (⟨#[32, 105, 110]⟩ : ByteArray) x489000 x489001 x489002 ((rd_T130 x489002 x7).f0) ((rd_T130 x489002 x7).f1) ((rd_T130 x489002 x7).f2) ((rd_T130 x489002 x7).f3) ((rd_T130 x489002 x7).f4.f0.f0) ((rd_T130 x489002 x7).f4.f0.f1) ((rd_T130 x489002 x7).f4.f1.f0) ((rd_T130 x489002 x7).f4.f1.f1) ((rd_T130 x489002 x7).f4.f2) ((rd_T130 x489002 x7).f4.f3.f0) ((rd_T130 x489002 x7).f4.f3.f1) ((rd_T130 x489002 x7).f4.f4.f0) ((rd_T130 x489002 x7).f4.f4.f1)) else (crossbuckref25_Topo.j3 k x3 x7 (⟨#[32, 111, 117, 116]⟩ : ByteArray) x489000 x489001 x489002 ((rd_T130 x489002 x7).f0) ((rd_T130 x489002 x7).f1) ((rd_T130 x489002 x7).f2) ((rd_T130 x489002 x7).f3) ((rd_T130 x489002 x7).f4.f0.f0) ((rd_T130 x489002 x7).f4.f0.f1) ((rd_T130 x489002 x7).f4.f1.f0) ((rd_T130 x489002 x7).f4.f1.f1) ((rd_T130 x489002 x7).f4.f2) ((rd_T130 x489002 x7).f4.f3.f0) ((rd_T130 x489002 x7).f4.f3.f1) ((rd_T130 x489002 x7).f4.f4.f0) ((rd_T130 x489002 x7).f4.f4.f1))) else (none)) else (some x3)
def crossbuckref25_Topo.j3 : Nat → List ByteArray → Int → ByteArray → List Int → List (S133) → List (S130) → Int → Int → Bool → Bool → Int → Int → Int → Int → Int → Int → Int → Int → Int → Option (List ByteArray)
 | 0, _, _, _, _, _, _, _, _, _, _, _, _, _, _, _, _, _, _, _ => none
 | k + 1, x3, x7, x9, x489000, x489001, x489002, x505000, x505001, x505002, x505003, x505004, x505005, x505006, x505007, x505008, x505009, x505010, x505011, x505012 => if x505003 = true then (if x9.size + 8 ≤ 9223372036854775807 then ((crossbuckref25_n.f k x505000).bind fun t505 => (if 4 + t505.size ≤ 9223372036854775807 then (if ((⟨#[97, 99, 108, 32]⟩ : ByteArray) ++ t505).size + 1 ≤ 9223372036854775807 then ((crossbuckref25_n.f k x505001).bind fun t506 => (if (((⟨#[97, 99, 108, 32]⟩ : ByteArray) ++ t505) ++ (⟨#[32]⟩ : ByteArray)).size + t506.size ≤ 9223372036854775807 then (if ((((⟨#[97, 99, 108, 32]⟩ : ByteArray) ++ t505) ++ (⟨#[32]⟩ : ByteArray)) ++ t506).size + (x9 ++ (⟨#[32, 112, 101, 114, 109, 105, 116, 32]⟩ : ByteArray)).size ≤ 9223372036854775807 then ((crossbuckref04_Print.f k x505004 x505005 x505006 x505007 x505008 x505009 x505010 x505011 x505012).bind fun t507 => (if (((((⟨#[97, 99, 108, 32]⟩ : ByteArray) ++ t505) ++ (⟨#[32]⟩ : ByteArray)) ++ t506) ++ (x9 ++ (⟨#[32, 112, 101, 114, 109, 105, 116, 32]⟩ : ByteArray))).size + t507.size ≤ 9223372036854775807 then (if x3.length < 8796093022208 then (crossbuckref25_Topo.l2 k (x3 ++ [(((((⟨#[97, 99, 108, 32]⟩ : ByteArray) ++ t505) ++ (⟨#[32]⟩ : ByteArray)) ++ t506) ++ (x9 ++ (⟨#[32, 112, 101, 114, 109, 105, 116, 32]⟩ : ByteArray))) ++ t507]) (wrap64 (x7 + 1)) x489000 x489001 x489002) else (none)) else (none))) else (none)) else (none))) else (none)) else (none))) else (none)) else (if x9.size + 6 ≤ 9223372036854775807 then ((crossbuckref25_n.f k x505000).bind fun t511 => (if 4 + t511.size ≤ 9223372036854775807 then (if ((⟨#[97, 99, 108, 32]⟩ : ByteArray) ++ t511).size + 1 ≤ 9223372036854775807 then ((crossbuckref25_n.f k x505001).bind fun t512 => (if (((⟨#[97, 99, 108, 32]⟩ : ByteArray) ++ t511) ++ (⟨#[32]⟩ : ByteArray)).size + t512.size ≤ 9223372036854775807 then (if ((((⟨#[97, 99, 108, 32]⟩ : ByteArray) ++ t511) ++ (⟨#[32]⟩ : ByteArray)) ++ t512).size + (x9 ++ (⟨#[32, 100, 101, 110, 121, 32]⟩ : ByteArray)).size ≤ 9223372036854775807 then ((crossbuckref04_Print.f k x505004 x505005 x505006 x505007 x505008 x505009 x505010 x505011 x505012).bind fun t513 => (if (((((⟨#[97, 99, 108, 32]⟩ : ByteArray) ++ t511) ++ (⟨#[32]⟩ : ByteArray)) ++ t512) ++ (x9 ++ (⟨#[32, 100, 101, 110, 121, 32]⟩ : ByteArray))).size + t513.size ≤ 9223372036854775807 then (if x3.length < 8796093022208 then (crossbuckref25_Topo.l2 k (x3 ++ [(((((⟨#[97, 99, 108, 32]⟩ : ByteArray) ++ t511) ++ (⟨#[32]⟩ : ByteArray)) ++ t512) ++ (x9 ++ (⟨#[32, 100, 101, 110, 121, 32]⟩ : ByteArray))) ++ t513]) (wrap64 (x7 + 1)) x489000 x489001 x489002) else (none)) else (none))) else (none)) else (none))) else (none)) else (none))) else (none))
end
def crossbuckref25_Topo.f (k : Nat) (l0_0 : List Int) (l0_1 : List (S133)) (l0_2 : List (S130)) : Option (List ByteArray) := crossbuckref25_Topo.l0 k ([] : List ByteArray) 0 l0_0 l0_1 l0_2
def crossbuckref25_Topo.T10 : Bool × List (List Nat × List Nat) := (true, [([], []), ([], []), ([1], [1]), ([2], [2]), ([3], [3]), ([4], [4]), ([], []), ([6], [6]), ([7, 3], [7]), ([5, 8], [5, 8]), ([9], [9]), ([], []), ([11], [11]), ([12, 8], [12]), ([10, 13], [10, 13]), ([14], [14]), ([], []), ([16], [16]), ([17, 13], [17]), ([15, 18], [15, 18]), ([19], [19]), ([0, 20, 18], [0, 20]), ([21, 21, 0, 1, 2, 3, 4, 5, 6, 7, 8, 9, 10, 11, 12, 13, 14, 15, 16, 17, 18, 19, 20, 21], [0, 21])])
def crossbuckref25_Topo.B10 : List Nat := [0, 0, 2, 6, 14, 30, 0, 64, 206, 510, 1022, 0, 2048, 6606, 16382, 32766, 0, 65536, 211406, 524286, 1048574, 2097151, 4194303]
theorem crossbuckref25_Topo.tab10 : rtab .any (opsOf Tryd.f23 10) = crossbuckref25_Topo.T10 := by kernel_rfl
theorem crossbuckref25_Topo.bits10 : waitsOk crossbuckref25_Topo.T10.2 crossbuckref25_Topo.B10 = true := by kernel_rfl
def crossbuckref25_Topo.T21 : Bool × List (List Nat × List Nat) := (true, [([], []), ([], []), ([1], [1]), ([2], [2]), ([3], [3]), ([4], [4]), ([], []), ([6], [6]), ([7, 3], [7]), ([5, 8], [5, 8]), ([], []), ([9, 10], [9, 10]), ([], []), ([12], [12]), ([13, 8], [13]), ([11, 14], [11, 14]), ([15], [15]), ([0, 16, 14], [0, 16]), ([17, 17, 0, 1, 2, 3, 4, 5, 6, 7, 8, 9, 10, 11, 12, 13, 14, 15, 16, 17], [0, 17])])
def crossbuckref25_Topo.B21 : List Nat := [0, 0, 2, 6, 14, 30, 0, 64, 206, 510, 0, 2046, 0, 4096, 12750, 32766, 65534, 131071, 262143]
theorem crossbuckref25_Topo.tab21 : rtab .any (opsOf Tryd.f23 21) = crossbuckref25_Topo.T21 := by kernel_rfl
theorem crossbuckref25_Topo.bits21 : waitsOk crossbuckref25_Topo.T21.2 crossbuckref25_Topo.B21 = true := by kernel_rfl
set_option maxHeartbeats 8000000 in
set_option maxRecDepth 100000 in
theorem crossbuckref25_Topo.calls (k : Nat) (A0_0 : Option Addr) (c0_0 : Nat) (l0_0 : List Int) (A0_1 : Option Addr) (c0_1 : Nat) (l0_1 : List (S133)) (A0_2 : Option Addr) (c0_2 : Nat) (l0_2 : List (S130)) (r : List ByteArray) (w : World) (hr0_0 : Kd.C (Kd.int .i64) w A0_0 l0_0.length l0_0) (hc0_0 : l0_0.length ≤ c0_0) (hr0_1 : Kd.C k133 w A0_1 l0_1.length l0_1) (hc0_1 : l0_1.length ≤ c0_1) (hr0_2 : Kd.C k130 w A0_2 l0_2.length l0_2) (hc0_2 : l0_2.length ≤ c0_2) (h : crossbuckref25_Topo.f k l0_0 l0_1 l0_2 = some r) :
  Calls Tryd.prog 23 #[.agg #[.slice A0_0 l0_0.length c0_0, .slice A0_1 l0_1.length c0_1, .slice A0_2 l0_2.length c0_2]] w fun e w' => ∃ v0_ : Value, e = .returned (v0_) ∧ Kd.R Kd.string 9 w' w.heap.size (fun _ => True) v0_ r ∧ Below w.heap.size w w' := by
 have hu26 := Tryd.underlying26;have hu133 := Tryd.underlying133;have hu130 := Tryd.underlying130;have hu77 := Tryd.underlying77;have HR0_0 := Aside0.mk hr0_0;have HC0_0 := Aside0.mk hc0_0;clear hr0_0 hc0_0;have HR0_1 := Aside0.mk hr0_1;have HC0_1 := Aside0.mk hc0_1;clear hr0_1 hc0_1;have HR0_2 := Aside0.mk hr0_2;have HC0_2 := Aside0.mk hc0_2;clear hr0_2 hc0_2;have HB := Aside0.mk (Below.refl w.heap.size w);have H : (crossbuckref25_Topo.l0 k ([] : List ByteArray) 0 l0_0 l0_1 l0_2) = some r := h;clear h;have H' := Aside0.mk H;clear H;go_enter Tryd.func23, Tryd.ntmps23
 go_wp2_with (first | ((with_reducible refine gate_dst (N := 1) rfl ?_); refine box_event rfl (N := 1) rfl (cs := #[.slice A0_0 l0_0.length c0_0, .slice A0_1 l0_1.length c0_1, .slice A0_2 l0_2.length c0_2]) (t := 26) gs ?_; intro gb488 hg w2 hbox hb; have n0_ := Aside0.mk (below_step (bel HB) hb); have n1_ := Aside0.mk (hbox); have n2_ := gew HB hg; have n3_ := gew HB hg; clear HB; have HB := n0_; have BK488 := n1_; have GW488 := n2_; have GE488 := n3_; clear n0_ n1_ n2_ n3_; clear hb hbox hg))
 go_loopg [3, 4] k (fun kq v3 v4 w' => ∃ (x3_1 : List ByteArray) (x4_1 : Int), v4 = .int .i64 x4_1 ∧ Aside0 (crossbuckref25_Topo.l0 kq x3_1 x4_1 l0_0 l0_1 l0_2 = some r) ∧ Aside0 (kq ≤ k) ∧ Aside0 (Kd.R Kd.string 9 w' w.heap.size (fun _ => True) v3 x3_1) ∧ Aside0 (w'.heap[gb488]? = some (.cells #[(.slice A0_0 l0_0.length c0_0), (.slice A0_1 l0_1.length c0_1), (.slice A0_2 l0_2.length c0_2)] 26 (0, 0))) ∧ Aside0 (Below w.heap.size w w'))
 case atStart => exact ⟨(([] : List ByteArray)), (0), (by first | rfl | (simp; done) | (simp [*]; done)), H', ⟨Nat.le_refl _⟩, ⟨by first | exact Kd.R_nil _ _ _ _ _ | exact Kd.N_nil _ _ _ _ _ | exact Kd.V_nil _ _ _ _ _ | exact Kd.Q_nil _ _ _ _ _ | exact Kd.S_nil _ _ _ _ _⟩, ⟨bkp⟩, ⟨by repeat (first | (with_reducible first | exact HB.out | apply below_alloc | apply pw_below_drewN | apply below_drew1 | refine below_set ?_ GE488.out) | exact HB.out)⟩⟩
 case round =>
  clear H'
  try clear c2
  try clear p2
  obtain ⟨x3_1, x4_1, rfl, HA, HK1, HO_3, BK488, HB⟩ := hrel
  cases gk with
  | zero => exact absurd HA.out (by simp [crossbuckref25_Topo.l0])
  | succ k1 =>
   have H := HA.out;clear HA;simp only [crossbuckref25_Topo.l0] at H
   by_cases c3 : x4_1 < (l0_0.length : Int)
   ·rw [if_pos c3] at H
    have c3b0 : decide (x4_1 < (l0_0.length : Int)) = true := decide_eq_true c3;clear c3
    by_cases c4 : 0 ≤ x4_1
    ·rw [if_pos c4] at H
     have c4b0 : decide (0 ≤ x4_1) = true := decide_eq_true c4;clear c4;replace H := Option.bind_eq_some_iff.mp H;obtain ⟨t490, A50, H⟩ := H;replace H : (if 7 + t490.size ≤ 9223372036854775807 then (if x3_1.length < 8796093022208 then (crossbuckref25_Topo.l0 k1 (x3_1 ++ [(⟨#[100, 101, 118, 105, 99, 101, 32]⟩ : ByteArray) ++ t490]) (wrap64 (x4_1 + 1)) l0_0 l0_1 l0_2) else (none)) else (none)) = some r := H;have A5 := Aside0.mk A50;clear A50
     by_cases c6 : 7 + t490.size ≤ 9223372036854775807
     ·rw [if_pos c6] at H
      have c6b0 := eq_true c6;have c6b1 : decide (7 + t490.size ≤ 9223372036854775807) = true := decide_eq_true c6
      try have c6b2 : (9223372036854775807 < 7 + t490.size) = False := eq_false (Nat.not_lt.2 c6)
      by_cases c7 : x3_1.length < 8796093022208
      ·rw [if_pos c7] at H
       have LMc7 := Aside0.mk c7;clear c7;obtain ⟨y491, hy491⟩ : ∃ y_ : List ByteArray, y_ = (x3_1 ++ [(⟨#[100, 101, 118, 105, 99, 101, 32]⟩ : ByteArray) ++ t490]) := ⟨_, rfl⟩
       replace H : (crossbuckref25_Topo.l0 k1 y491 (wrap64 (x4_1 + 1)) l0_0 l0_1 l0_2) = some r := by first | (rw [hy491]; with_reducible exact H) | (have H2_ := (Option.bind_some _ _).symm.trans H; rw [hy491]; with_reducible exact H2_) | (have H2_ := (Option.bind_some _ _).symm.trans H; with_reducible exact H2_) | with_reducible exact H | (rw [hy491]; exact H) | exact H
       have Ny491 := Aside0.mk hy491;clear hy491;have H' := Aside0.mk H;clear H;have hcz8 := cz3 BK488.out
       have p489 : 0 ≤ (x4_1 : Int) := of_decide_eq_true (by first | (with_reducible assumption) | assumption)
       have q489 : x4_1 < (l0_0.length : Int) := of_decide_eq_true (by first | (with_reducible assumption) | assumption)
       obtain ⟨ad489, e489, hx489_0⟩ := Kd.at_int HR0_0.out x4_1 p489 q489
       cases e489
       replace hx489_0 := mv HB hx489_0;replace p489 := eq_true p489;replace q489 := eq_true q489
       go_wp2_with (first | ((with_reducible refine gate_callee (f := 78) rfl ?_); refine goesL_ (some 23) rfl rfl Tryd.func78 (by kernel_rfl) rfl #[.int .i64 (rd l0_0 x4_1)] rfl aok ?_; (with_reducible refine (crossbuckref25_n.calls k1 (rd l0_0 x4_1) t490 _ A5.out).mono ?_); rintro e w9 ⟨rfl, hb⟩; refine ⟨_, rfl, ?_⟩; have n0_ := Aside0.mk (Kd.R_below (rp HO_3) hb); have n1_ := Aside0.mk (bb BK488.out hb); have n2_ := Aside0.mk (below_step (bel HB) hb); clear HO_3; clear BK488; clear HB; have HO_3 := n0_; have BK488 := n1_; have HB := n2_; clear n0_ n1_ n2_; (try clear hb); (try clear hb2); (try clear hk); (try clear hi)) | ((with_reducible refine gate_builtin (b := .append) (xs := #[.tmp 17, .tmp 25]) rfl ?_); at_builtin; refine Kd.R_append Kd.string (w0 := w) w.heap.size rfl (.tmp 17) (.tmp 25) 30 9 (.string ⟨#[]⟩) 16 rfl Tryd.underlying30 info9 rfl (by decide) (by omega) u3 x3_1 ((⟨#[100, 101, 118, 105, 99, 101, 32]⟩ : ByteArray) ++ t490) [.string ((⟨#[100, 101, 118, 105, 99, 101, 32]⟩ : ByteArray) ++ t490)] (fun _ => True) (fun _ => False) rfl rfl ?aP (fun _ hk => hk.elim) ?aF ?aO ?aB ?aS ?aL ?_; (case aP => exact rfl); (case aB => exact (bel HB)); (case aF => exact (fun _ _ => trivial)); (case aO => exact (rp HO_3)); (case aS => exact (below_size (bel HB))); (case aL => have := LMc7.out; omega); intro v492 w10 ho hb hg hat; rw [← Ny491.out] at ho; have n0_ := Aside0.mk (blk_grown (g := gb488) (o := .cells #[.slice (some ad489) l0_0.length c0_0, .slice A0_1 l0_1.length c0_1, .slice A0_2 l0_2.length c0_2] 26 (0, 0)) bkp hg (Kd.R_ne HO_3.out BK488.out (by decide))); have n1_ := Aside0.mk (hb); have n2_ := Aside0.mk (ho); clear BK488; clear HB; clear HO_3; have BK488 := n0_; have HB := n1_; have HO493 := n2_; clear n0_ n1_ n2_; clear ho hb hg hat))
       go_roundg k1
       case measure => have := HK1.out; omega
       case rel => exact ⟨(y491), (wrap64 (x4_1 + 1)), (by first | rfl | (simp; done) | (simp [*]; done)), H', ⟨by have := HK1.out; omega⟩, ⟨rp HO493⟩, ⟨bkp⟩, ⟨by repeat (first | (with_reducible first | exact HB.out | apply below_alloc | apply pw_below_drewN | apply below_drew1 | refine below_set ?_ GE488.out) | exact HB.out)⟩⟩
      ·rw [if_neg c7] at H
       exact absurd H (by simp)
     ·rw [if_neg c6] at H
      exact absurd H (by simp)
    ·rw [if_neg c4] at H
     exact absurd H (by simp)
   ·rw [if_neg c3] at H
    have c3b0 : decide (x4_1 < (l0_0.length : Int)) = false := decide_eq_false c3;clear c3;have H' := Aside0.mk H;clear H;have hcz11 := cz3 BK488.out;go_wp2
    go_loopg [3, 5] k1 (fun kq v3 v5 w' => ∃ (x3_2 : List ByteArray) (x5_2 : Int), v5 = .int .i64 x5_2 ∧ Aside0 (crossbuckref25_Topo.l1 kq x3_2 x5_2 l0_0 l0_1 l0_2 = some r) ∧ Aside0 (kq ≤ k1) ∧ Aside0 (Kd.R Kd.string 9 w' w.heap.size (fun _ => True) v3 x3_2) ∧ Aside0 (w'.heap[gb488]? = some (.cells #[(.slice A0_0 l0_0.length c0_0), (.slice A0_1 l0_1.length c0_1), (.slice A0_2 l0_2.length c0_2)] 26 (0, 0))) ∧ Aside0 (Below w.heap.size w w'))
    case atStart => exact ⟨(x3_1), (0), (by first | rfl | (simp; done) | (simp [*]; done)), H', ⟨Nat.le_refl _⟩, ⟨rp HO_3⟩, ⟨bkp⟩, ⟨by repeat (first | (with_reducible first | exact HB.out | apply below_alloc | apply pw_below_drewN | apply below_drew1 | refine below_set ?_ GE488.out) | exact HB.out)⟩⟩
    case round =>
     clear H'
     try clear c2
     try clear p2
     try clear c3
     try clear c3b0
     try clear c4
     try clear c4b0
     try clear p4
     try clear q4
     try clear hx4
     try clear c6
     try clear c6b0
     try clear c6b1
     try clear c6b2
     try clear p6
     try clear c7
     try clear hcz11
     try clear hcz8
     try clear hx489_0
     try clear p2
     try clear p489
     try clear q489
     obtain ⟨x3_2, x5_2, rfl, HA, HK2, HO_3, BK488, HB⟩ := hrel
     cases gk with
     | zero => exact absurd HA.out (by simp [crossbuckref25_Topo.l1])
     | succ k2 =>
      have H := HA.out;clear HA;simp only [crossbuckref25_Topo.l1] at H
      by_cases c12 : x5_2 < (l0_1.length : Int)
      ·rw [if_pos c12] at H
       have c12b0 : decide (x5_2 < (l0_1.length : Int)) = true := decide_eq_true c12;clear c12
       by_cases c13 : 0 ≤ x5_2
       ·rw [if_pos c13] at H
        have c13b0 : decide (0 ≤ x5_2) = true := decide_eq_true c13;clear c13;replace H := Option.bind_eq_some_iff.mp H;obtain ⟨t496, A140, H⟩ := H
        replace H : (if 5 + t496.size ≤ 9223372036854775807 then (if ((⟨#[108, 105, 110, 107, 32]⟩ : ByteArray) ++ t496).size + 1 ≤ 9223372036854775807 then ((crossbuckref25_n.f k2 ((rd_T133 l0_1 x5_2).f1)).bind fun t497 => (if (((⟨#[108, 105, 110, 107, 32]⟩ : ByteArray) ++ t496) ++ (⟨#[32]⟩ : ByteArray)).size + t497.size ≤ 9223372036854775807 then (if ((((⟨#[108, 105, 110, 107, 32]⟩ : ByteArray) ++ t496) ++ (⟨#[32]⟩ : ByteArray)) ++ t497).size + 1 ≤ 9223372036854775807 then ((crossbuckref25_n.f k2 ((rd_T133 l0_1 x5_2).f2)).bind fun t498 => (if (((((⟨#[108, 105, 110, 107, 32]⟩ : ByteArray) ++ t496) ++ (⟨#[32]⟩ : ByteArray)) ++ t497) ++ (⟨#[32]⟩ : ByteArray)).size + t498.size ≤ 9223372036854775807 then (if ((((((⟨#[108, 105, 110, 107, 32]⟩ : ByteArray) ++ t496) ++ (⟨#[32]⟩ : ByteArray)) ++ t497) ++ (⟨#[32]⟩ : ByteArray)) ++ t498).size + 1 ≤ 9223372036854775807 then ((crossbuckref25_n.f k2 ((rd_T133 l0_1 x5_2).f3)).bind fun t499 => (if (((((((⟨#[108, 105, 110, 107, 32]⟩ : ByteArray) ++ t496) ++ (⟨#[32]⟩ : ByteArray)) ++ t497) ++ (⟨#[32]⟩ : ByteArray)) ++ t498) ++ (⟨#[32]⟩ : ByteArray)).size + t499.size ≤ 9223372036854775807 then (if x3_2.length < 8796093022208 then (crossbuckref25_Topo.l1 k2 (x3_2 ++ [(((((((⟨#[108, 105, 110, 107, 32]⟩ : ByteArray) ++ t496) ++ (⟨#[32]⟩ : ByteArray)) ++ t497) ++ (⟨#[32]⟩ : ByteArray)) ++ t498) ++ (⟨#[32]⟩ : ByteArray)) ++ t499]) (wrap64 (x5_2 + 1)) l0_0 l0_1 l0_2) else (none)) else (none))) else (none)) else (none))) else (none)) else (none))) else (none)) else (none)) = some r := H
        have A14 := Aside0.mk A140;clear A140
        by_cases c15 : 5 + t496.size ≤ 9223372036854775807
        ·rw [if_pos c15] at H
         have c15b0 := eq_true c15;have c15b1 : decide (5 + t496.size ≤ 9223372036854775807) = true := decide_eq_true c15
         try have c15b2 : (9223372036854775807 < 5 + t496.size) = False := eq_false (Nat.not_lt.2 c15)
         by_cases c16 : ((⟨#[108, 105, 110, 107, 32]⟩ : ByteArray) ++ t496).size + 1 ≤ 9223372036854775807
         ·rw [if_pos c16] at H
          have c16b0 := eq_true c16;have c16b1 : decide (((⟨#[108, 105, 110, 107, 32]⟩ : ByteArray) ++ t496).size + 1 ≤ 9223372036854775807) = true := decide_eq_true c16
          try have c16b2 : (9223372036854775807 < ((⟨#[108, 105, 110, 107, 32]⟩ : ByteArray) ++ t496).size + 1) = False := eq_false (Nat.not_lt.2 c16)
          try have c16b3 := c16b2
          try simp only [ByteArray.size_append, Hand.lit_size, List.length_cons, List.length_nil, Nat.zero_add, Nat.reduceAdd] at c16b3
          replace H := Option.bind_eq_some_iff.mp H;obtain ⟨t497, A170, H⟩ := H
          replace H : (if (((⟨#[108, 105, 110, 107, 32]⟩ : ByteArray) ++ t496) ++ (⟨#[32]⟩ : ByteArray)).size + t497.size ≤ 9223372036854775807 then (if ((((⟨#[108, 105, 110, 107, 32]⟩ : ByteArray) ++ t496) ++ (⟨#[32]⟩ : ByteArray)) ++ t497).size + 1 ≤ 9223372036854775807 then ((crossbuckref25_n.f k2 ((rd_T133 l0_1 x5_2).f2)).bind fun t498 => (if (((((⟨#[108, 105, 110, 107, 32]⟩ : ByteArray) ++ t496) ++ (⟨#[32]⟩ : ByteArray)) ++ t497) ++ (⟨#[32]⟩ : ByteArray)).size + t498.size ≤ 9223372036854775807 then (if ((((((⟨#[108, 105, 110, 107, 32]⟩ : ByteArray) ++ t496) ++ (⟨#[32]⟩ : ByteArray)) ++ t497) ++ (⟨#[32]⟩ : ByteArray)) ++ t498).size + 1 ≤ 9223372036854775807 then ((crossbuckref25_n.f k2 ((rd_T133 l0_1 x5_2).f3)).bind fun t499 => (if (((((((⟨#[108, 105, 110, 107, 32]⟩ : ByteArray) ++ t496) ++ (⟨#[32]⟩ : ByteArray)) ++ t497) ++ (⟨#[32]⟩ : ByteArray)) ++ t498) ++ (⟨#[32]⟩ : ByteArray)).size + t499.size ≤ 9223372036854775807 then (if x3_2.length < 8796093022208 then (crossbuckref25_Topo.l1 k2 (x3_2 ++ [(((((((⟨#[108, 105, 110, 107, 32]⟩ : ByteArray) ++ t496) ++ (⟨#[32]⟩ : ByteArray)) ++ t497) ++ (⟨#[32]⟩ : ByteArray)) ++ t498) ++ (⟨#[32]⟩ : ByteArray)) ++ t499]) (wrap64 (x5_2 + 1)) l0_0 l0_1 l0_2) else (none)) else (none))) else (none)) else (none))) else (none)) else (none)) = some r := H
          have A17 := Aside0.mk A170;clear A170
          by_cases c18 : (((⟨#[108, 105, 110, 107, 32]⟩ : ByteArray) ++ t496) ++ (⟨#[32]⟩ : ByteArray)).size + t497.size ≤ 9223372036854775807
          ·rw [if_pos c18] at H
           have c18b0 := eq_true c18;have c18b1 : decide ((((⟨#[108, 105, 110, 107, 32]⟩ : ByteArray) ++ t496) ++ (⟨#[32]⟩ : ByteArray)).size + t497.size ≤ 9223372036854775807) = true := decide_eq_true c18
           try have c18b2 : (9223372036854775807 < (((⟨#[108, 105, 110, 107, 32]⟩ : ByteArray) ++ t496) ++ (⟨#[32]⟩ : ByteArray)).size + t497.size) = False := eq_false (Nat.not_lt.2 c18)
           try have c18b3 := c18b2
           try simp only [ByteArray.size_append, Hand.lit_size, List.length_cons, List.length_nil, Nat.zero_add, Nat.reduceAdd] at c18b3
           by_cases c19 : ((((⟨#[108, 105, 110, 107, 32]⟩ : ByteArray) ++ t496) ++ (⟨#[32]⟩ : ByteArray)) ++ t497).size + 1 ≤ 9223372036854775807
           ·rw [if_pos c19] at H
            have c19b0 := eq_true c19;have c19b1 : decide (((((⟨#[108, 105, 110, 107, 32]⟩ : ByteArray) ++ t496) ++ (⟨#[32]⟩ : ByteArray)) ++ t497).size + 1 ≤ 9223372036854775807) = true := decide_eq_true c19
            try have c19b2 : (9223372036854775807 < ((((⟨#[108, 105, 110, 107, 32]⟩ : ByteArray) ++ t496) ++ (⟨#[32]⟩ : ByteArray)) ++ t497).size + 1) = False := eq_false (Nat.not_lt.2 c19)
            try have c19b3 := c19b2
            try simp only [ByteArray.size_append, Hand.lit_size, List.length_cons, List.length_nil, Nat.zero_add, Nat.reduceAdd] at c19b3
            replace H := Option.bind_eq_some_iff.mp H;obtain ⟨t498, A200, H⟩ := H
            replace H : (if (((((⟨#[108, 105, 110, 107, 32]⟩ : ByteArray) ++ t496) ++ (⟨#[32]⟩ : ByteArray)) ++ t497) ++ (⟨#[32]⟩ : ByteArray)).size + t498.size ≤ 9223372036854775807 then (if ((((((⟨#[108, 105, 110, 107, 32]⟩ : ByteArray) ++ t496) ++ (⟨#[32]⟩ : ByteArray)) ++ t497) ++ (⟨#[32]⟩ : ByteArray)) ++ t498).size + 1 ≤ 9223372036854775807 then ((crossbuckref25_n.f k2 ((rd_T133 l0_1 x5_2).f3)).bind fun t499 => (if (((((((⟨#[108, 105, 110, 107, 32]⟩ : ByteArray) ++ t496) ++ (⟨#[32]⟩ : ByteArray)) ++ t497) ++ (⟨#[32]⟩ : ByteArray)) ++ t498) ++ (⟨#[32]⟩ : ByteArray)).size + t499.size ≤ 9223372036854775807 then (if x3_2.length < 8796093022208 then (crossbuckref25_Topo.l1 k2 (x3_2 ++ [(((((((⟨#[108, 105, 110, 107, 32]⟩ : ByteArray) ++ t496) ++ (⟨#[32]⟩ : ByteArray)) ++ t497) ++ (⟨#[32]⟩ : ByteArray)) ++ t498) ++ (⟨#[32]⟩ : ByteArray)) ++ t499]) (wrap64 (x5_2 + 1)) l0_0 l0_1 l0_2) else (none)) else (none))) else (none)) else (none)) = some r := H
            have A20 := Aside0.mk A200;clear A200
            by_cases c21 : (((((⟨#[108, 105, 110, 107, 32]⟩ : ByteArray) ++ t496) ++ (⟨#[32]⟩ : ByteArray)) ++ t497) ++ (⟨#[32]⟩ : ByteArray)).size + t498.size ≤ 9223372036854775807
            ·rw [if_pos c21] at H
             have c21b0 := eq_true c21;have c21b1 : decide ((((((⟨#[108, 105, 110, 107, 32]⟩ : ByteArray) ++ t496) ++ (⟨#[32]⟩ : ByteArray)) ++ t497) ++ (⟨#[32]⟩ : ByteArray)).size + t498.size ≤ 9223372036854775807) = true := decide_eq_true c21
             try have c21b2 : (9223372036854775807 < (((((⟨#[108, 105, 110, 107, 32]⟩ : ByteArray) ++ t496) ++ (⟨#[32]⟩ : ByteArray)) ++ t497) ++ (⟨#[32]⟩ : ByteArray)).size + t498.size) = False := eq_false (Nat.not_lt.2 c21)
             try have c21b3 := c21b2
             try simp only [ByteArray.size_append, Hand.lit_size, List.length_cons, List.length_nil, Nat.zero_add, Nat.reduceAdd] at c21b3
             by_cases c22 : ((((((⟨#[108, 105, 110, 107, 32]⟩ : ByteArray) ++ t496) ++ (⟨#[32]⟩ : ByteArray)) ++ t497) ++ (⟨#[32]⟩ : ByteArray)) ++ t498).size + 1 ≤ 9223372036854775807
             ·rw [if_pos c22] at H
              have c22b0 := eq_true c22;have c22b1 : decide (((((((⟨#[108, 105, 110, 107, 32]⟩ : ByteArray) ++ t496) ++ (⟨#[32]⟩ : ByteArray)) ++ t497) ++ (⟨#[32]⟩ : ByteArray)) ++ t498).size + 1 ≤ 9223372036854775807) = true := decide_eq_true c22
              try have c22b2 : (9223372036854775807 < ((((((⟨#[108, 105, 110, 107, 32]⟩ : ByteArray) ++ t496) ++ (⟨#[32]⟩ : ByteArray)) ++ t497) ++ (⟨#[32]⟩ : ByteArray)) ++ t498).size + 1) = False := eq_false (Nat.not_lt.2 c22)
              try have c22b3 := c22b2
              try simp only [ByteArray.size_append, Hand.lit_size, List.length_cons, List.length_nil, Nat.zero_add, Nat.reduceAdd] at c22b3
              replace H := Option.bind_eq_some_iff.mp H;obtain ⟨t499, A230, H⟩ := H;replace H : (if (((((((⟨#[108, 105, 110, 107, 32]⟩ : ByteArray) ++ t496) ++ (⟨#[32]⟩ : ByteArray)) ++ t497) ++ (⟨#[32]⟩ : ByteArray)) ++ t498) ++ (⟨#[32]⟩ : ByteArray)).size + t499.size ≤ 9223372036854775807 then (if x3_2.length < 8796093022208 then (crossbuckref25_Topo.l1 k2 (x3_2 ++ [(((((((⟨#[108, 105, 110, 107, 32]⟩ : ByteArray) ++ t496) ++ (⟨#[32]⟩ : ByteArray)) ++ t497) ++ (⟨#[32]⟩ : ByteArray)) ++ t498) ++ (⟨#[32]⟩ : ByteArray)) ++ t499]) (wrap64 (x5_2 + 1)) l0_0 l0_1 l0_2) else (none)) else (none)) = some r := H;have A23 := Aside0.mk A230;clear A230
              by_cases c24 : (((((((⟨#[108, 105, 110, 107, 32]⟩ : ByteArray) ++ t496) ++ (⟨#[32]⟩ : ByteArray)) ++ t497) ++ (⟨#[32]⟩ : ByteArray)) ++ t498) ++ (⟨#[32]⟩ : ByteArray)).size + t499.size ≤ 9223372036854775807
              ·rw [if_pos c24] at H
               have c24b0 := eq_true c24;have c24b1 : decide ((((((((⟨#[108, 105, 110, 107, 32]⟩ : ByteArray) ++ t496) ++ (⟨#[32]⟩ : ByteArray)) ++ t497) ++ (⟨#[32]⟩ : ByteArray)) ++ t498) ++ (⟨#[32]⟩ : ByteArray)).size + t499.size ≤ 9223372036854775807) = true := decide_eq_true c24
               try have c24b2 : (9223372036854775807 < (((((((⟨#[108, 105, 110, 107, 32]⟩ : ByteArray) ++ t496) ++ (⟨#[32]⟩ : ByteArray)) ++ t497) ++ (⟨#[32]⟩ : ByteArray)) ++ t498) ++ (⟨#[32]⟩ : ByteArray)).size + t499.size) = False := eq_false (Nat.not_lt.2 c24)
               try have c24b3 := c24b2
               try simp only [ByteArray.size_append, Hand.lit_size, List.length_cons, List.length_nil, Nat.zero_add, Nat.reduceAdd] at c24b3
               by_cases c25 : x3_2.length < 8796093022208
               ·rw [if_pos c25] at H
                have LMc25 := Aside0.mk c25;clear c25;obtain ⟨y500, hy500⟩ : ∃ y_ : List ByteArray, y_ = (x3_2 ++ [(((((((⟨#[108, 105, 110, 107, 32]⟩ : ByteArray) ++ t496) ++ (⟨#[32]⟩ : ByteArray)) ++ t497) ++ (⟨#[32]⟩ : ByteArray)) ++ t498) ++ (⟨#[32]⟩ : ByteArray)) ++ t499]) := ⟨_, rfl⟩
                replace H : (crossbuckref25_Topo.l1 k2 y500 (wrap64 (x5_2 + 1)) l0_0 l0_1 l0_2) = some r := by first | (rw [hy500]; with_reducible exact H) | (have H2_ := (Option.bind_some _ _).symm.trans H; rw [hy500]; with_reducible exact H2_) | (have H2_ := (Option.bind_some _ _).symm.trans H; with_reducible exact H2_) | with_reducible exact H | (rw [hy500]; exact H) | exact H
                have Ny500 := Aside0.mk hy500;clear hy500;have H' := Aside0.mk H;clear H;have hcz26 := cz3 BK488.out
                have p494 : 0 ≤ (x5_2 : Int) := of_decide_eq_true (by first | (with_reducible assumption) | assumption)
                have q494 : x5_2 < (l0_1.length : Int) := of_decide_eq_true (by first | (with_reducible assumption) | assumption)
                obtain ⟨ad494, e494, hx494_0, hx494_1, hx494_2, hx494_3⟩ := at_T133 HR0_1.out x5_2 p494 q494
                cases e494
                replace hx494_0 := mv HB hx494_0;replace hx494_1 := mv HB hx494_1;replace hx494_2 := mv HB hx494_2;replace hx494_3 := mv HB hx494_3;replace p494 := eq_true p494;replace q494 := eq_true q494
                try go_wp2_with (first | ((with_reducible refine gate_dst (N := 6) rfl ?_); refine box_event rfl (N := 6) rfl (cs := #[.int .i64 0, .int .i64 0, .int .i64 0, .int .i64 0]) (t := 133) gs ?_; intro gb495 hg w27 hbox hb; have n0_ := Aside0.mk (Kd.R_below (rp HO_3) hb); have n1_ := Aside0.mk (bb BK488.out hb); have n2_ := Aside0.mk (below_step (bel HB) hb); have n3_ := Aside0.mk (hbox); have n4_ := gew HB hg; have n5_ := gew HB hg; have n6_ := Aside0.mk ((ne1 BK488.out hg : gb488 ≠ gb495)); have n7_ := Aside0.mk ((ne2 BK488.out hg : gb495 ≠ gb488)); clear HO_3; clear BK488; clear HB; have HO_3 := n0_; have BK488 := n1_; have HB := n2_; have BK495 := n3_; have GW495 := n4_; have GE495 := n5_; have NB488_495 := n6_; have NB495_488 := n7_; clear n0_ n1_ n2_ n3_ n4_ n5_ n6_ n7_; clear hb hbox hg; have hnb28 := NB495_488.out; have hnc28 := NB488_495.out; have hcz29 := cz4 BK495.out))
                have n0_ : Aside0 (Kd.R Kd.string 9 ((((w27.setCell ⟨gb495, 0, none⟩ (.int .i64 ((rd_T133 l0_1 x5_2).f0))).setCell ⟨gb495, 1, none⟩ (.int .i64 ((rd_T133 l0_1 x5_2).f1))).setCell ⟨gb495, 2, none⟩ (.int .i64 ((rd_T133 l0_1 x5_2).f2))).setCell ⟨gb495, 3, none⟩ (.int .i64 ((rd_T133 l0_1 x5_2).f3))) w.heap.size (fun _ => True) u3 x3_2) := ⟨by (with_reducible repeat (first | apply Kd.R_alloc | apply Kd.R_drewN | apply Kd.R_drew)); exact Kd.R_mono (Kd.R_far (p := ⟨gb495, 3, none⟩) (Kd.R_far (p := ⟨gb495, 2, none⟩) (Kd.R_far (p := ⟨gb495, 1, none⟩) (Kd.R_far (p := ⟨gb495, 0, none⟩) (Kd.R_types HO_3.out BK495.out (by decide)) (fun _ hk => hk.2) (.int .i64 ((rd_T133 l0_1 x5_2).f0))) (fun _ hk => hk.2) (.int .i64 ((rd_T133 l0_1 x5_2).f1))) (fun _ hk => hk.2) (.int .i64 ((rd_T133 l0_1 x5_2).f2))) (fun _ hk => hk.2) (.int .i64 ((rd_T133 l0_1 x5_2).f3))) (fun _ hk => trivial)⟩
                have n1_ : Aside0 (((((w27.setCell ⟨gb495, 0, none⟩ (.int .i64 ((rd_T133 l0_1 x5_2).f0))).setCell ⟨gb495, 1, none⟩ (.int .i64 ((rd_T133 l0_1 x5_2).f1))).setCell ⟨gb495, 2, none⟩ (.int .i64 ((rd_T133 l0_1 x5_2).f2))).setCell ⟨gb495, 3, none⟩ (.int .i64 ((rd_T133 l0_1 x5_2).f3))).heap[gb488]? = some (.cells #[.slice A0_0 l0_0.length c0_0, .slice (some ad494) l0_1.length c0_1, .slice A0_2 l0_2.length c0_2] 26 (0, 0))) := ⟨bkp⟩
                have n2_ : Aside0 (((((w27.setCell ⟨gb495, 0, none⟩ (.int .i64 ((rd_T133 l0_1 x5_2).f0))).setCell ⟨gb495, 1, none⟩ (.int .i64 ((rd_T133 l0_1 x5_2).f1))).setCell ⟨gb495, 2, none⟩ (.int .i64 ((rd_T133 l0_1 x5_2).f2))).setCell ⟨gb495, 3, none⟩ (.int .i64 ((rd_T133 l0_1 x5_2).f3))).heap[gb495]? = some (.cells #[.int .i64 ((rd_T133 l0_1 x5_2).f0), .int .i64 ((rd_T133 l0_1 x5_2).f1), .int .i64 ((rd_T133 l0_1 x5_2).f2), .int .i64 ((rd_T133 l0_1 x5_2).f3)] 133 (0, 0))) := ⟨bkp⟩
                have n3_ : Aside0 (Below w.heap.size w ((((w27.setCell ⟨gb495, 0, none⟩ (.int .i64 ((rd_T133 l0_1 x5_2).f0))).setCell ⟨gb495, 1, none⟩ (.int .i64 ((rd_T133 l0_1 x5_2).f1))).setCell ⟨gb495, 2, none⟩ (.int .i64 ((rd_T133 l0_1 x5_2).f2))).setCell ⟨gb495, 3, none⟩ (.int .i64 ((rd_T133 l0_1 x5_2).f3)))) := ⟨by repeat (first | (with_reducible first | exact HB.out | apply below_alloc | apply pw_below_drewN | apply below_drew1 | refine below_set ?_ GE488.out | refine below_set ?_ GE495.out) | exact HB.out)⟩
                (try clear HO_3);(try clear BK488);(try clear BK495);(try clear HB)
                generalize ((((w27.setCell ⟨gb495, 0, none⟩ (.int .i64 ((rd_T133 l0_1 x5_2).f0))).setCell ⟨gb495, 1, none⟩ (.int .i64 ((rd_T133 l0_1 x5_2).f1))).setCell ⟨gb495, 2, none⟩ (.int .i64 ((rd_T133 l0_1 x5_2).f2))).setCell ⟨gb495, 3, none⟩ (.int .i64 ((rd_T133 l0_1 x5_2).f3))) = w30 at n0_ n1_ n2_ n3_ ⊢
                have HO_3 := n0_;have BK488 := n1_;have BK495 := n2_;have HB := n3_;clear n0_ n1_ n2_ n3_;replace HO_3 := Aside0.mk (Kd.R_drew HO_3.out);replace BK488 := Aside0.mk (blk_drew BK488.out);replace BK495 := Aside0.mk (blk_drew BK495.out);replace HB := Aside0.mk (below_drew1 HB.out)
                refine start_ (n := 23) (S := fun w' => w'.cell? ⟨gb495, 0, none⟩ = some (.int .i64 ((rd_T133 l0_1 x5_2).f0)) ∧ w'.cell? ⟨gb495, 1, none⟩ = some (.int .i64 ((rd_T133 l0_1 x5_2).f1)) ∧ w'.cell? ⟨gb495, 2, none⟩ = some (.int .i64 ((rd_T133 l0_1 x5_2).f2)) ∧ w'.cell? ⟨gb495, 3, none⟩ = some (.int .i64 ((rd_T133 l0_1 x5_2).f3))) (ds := []) #[F,F,F,F,F,F,F,F,F,F,F,F,F,F,F,F,F,F,F,F,F,F,F] (by kernel_rfl) rfl rfl ⟨(blk_cell BK495.out 0).trans rfl, (blk_cell BK495.out 1).trans rfl, (blk_cell BK495.out 2).trans rfl, (blk_cell BK495.out 3).trans rfl⟩ (fun hHeld => ?_); refine with_tabW crossbuckref25_Topo.tab10 crossbuckref25_Topo.bits10 (fun HT_ HW_ => ?_)
                generalize w30.drew = w31 at HO_3 BK488 BK495 HB hHeld ⊢
                refine pu 0 (some 39) #[T,F,F,F,F,F,F,F,F,F,F,F,F,F,F,F,F,F,F,F,F,F,F] (any_of HT_.out (by kernel_rfl)) ?_
                refine pu 1 (some 40) #[T,T,F,F,F,F,F,F,F,F,F,F,F,F,F,F,F,F,F,F,F,F,F] (any_of HT_.out (by kernel_rfl)) ?_
                refine pu 6 (some 45) #[T,T,F,F,F,F,T,F,F,F,F,F,F,F,F,F,F,F,F,F,F,F,F] (any_of HT_.out (by kernel_rfl)) ?_
                refine pu 11 (some 50) #[T,T,F,F,F,F,T,F,F,F,F,T,F,F,F,F,F,F,F,F,F,F,F] (any_of HT_.out (by kernel_rfl)) ?_
                refine pu 16 (some 55) #[T,T,F,F,F,F,T,F,F,F,F,T,F,F,F,F,T,F,F,F,F,F,F] (any_of HT_.out (by kernel_rfl)) ?_
                refine take_ (i := 2) (N := some 41) (v := ?_) (a' := ?_) #[T,T,T,F,F,F,T,F,F,F,F,T,F,F,F,F,T,F,F,F,F,F,F] rfl rfl (take_ofW HT_.out HW_.out (by kernel_rfl)) (fun _ _ _ h => h) (Or.inl ⟨by rfl, ?_⟩) hHeld ?_ ?_
                rotate_left
                ·rintro w' ⟨s0, s1, s2, s3⟩
                 go_simp;with_reducible rfl
                rotate_left;·simp only [Act.put, setIfInBounds_toArray, set_cons_zero, set_cons_succ, i64_w, i32_w];rfl
                refine take_ (i := 7) (N := some 46) (v := ?_) (a' := ?_) #[T,T,T,F,F,F,T,T,F,F,F,T,F,F,F,F,T,F,F,F,F,F,F] rfl rfl (take_ofW HT_.out HW_.out (by kernel_rfl)) (fun _ _ _ h => h) (Or.inl ⟨by rfl, ?_⟩) hHeld ?_ ?_
                rotate_left
                ·rintro w' ⟨s0, s1, s2, s3⟩
                 go_simp;with_reducible rfl
                rotate_left;·simp only [Act.put, setIfInBounds_toArray, set_cons_zero, set_cons_succ, i64_w, i32_w];rfl
                refine take_ (i := 12) (N := some 51) (v := ?_) (a' := ?_) #[T,T,T,F,F,F,T,T,F,F,F,T,T,F,F,F,T,F,F,F,F,F,F] rfl rfl (take_ofW HT_.out HW_.out (by kernel_rfl)) (fun _ _ _ h => h) (Or.inl ⟨by rfl, ?_⟩) hHeld ?_ ?_
                rotate_left
                ·rintro w' ⟨s0, s1, s2, s3⟩
                 go_simp;with_reducible rfl
                rotate_left;·simp only [Act.put, setIfInBounds_toArray, set_cons_zero, set_cons_succ, i64_w, i32_w];rfl
                refine take_ (i := 17) (N := some 56) (v := ?_) (a' := ?_) #[T,T,T,F,F,F,T,T,F,F,F,T,T,F,F,F,T,T,F,F,F,F,F] rfl rfl (take_ofW HT_.out HW_.out (by kernel_rfl)) (fun _ _ _ h => h) (Or.inl ⟨by rfl, ?_⟩) hHeld ?_ ?_
                rotate_left
                ·rintro w' ⟨s0, s1, s2, s3⟩
                 go_simp;with_reducible rfl
                rotate_left;·simp only [Act.put, setIfInBounds_toArray, set_cons_zero, set_cons_succ, i64_w, i32_w];rfl
                refine one_ (i := 3) (N := some 42) #[T,T,T,T,F,F,T,T,F,F,F,T,T,F,F,F,T,T,F,F,F,F,F] rfl rfl (one_of HT_.out (by kernel_rfl)) (by decide) (fun K hK => ?_)
                refine goes_ Tryd.func78 (by kernel_rfl) rfl #[.int .i64 ((rd_T133 l0_1 x5_2).f0)] (by rfl) rfl rfl aok ?_
                with_reducible refine (crossbuckref25_n.calls k2 ((rd_T133 l0_1 x5_2).f0) t496 _ A14.out).mono ?_;rintro e w32 ⟨rfl, hb⟩;refine ⟨_, rfl, ?_⟩
                replace HO_3 := Aside0.mk (Kd.R_below (rp HO_3) hb)
                replace BK488 := Aside0.mk (bb BK488.out hb);replace BK495 := Aside0.mk (bb BK495.out hb)
                replace HB := Aside0.mk (below_step (bel HB) hb)
                (try clear hb);(try clear hb2);(try clear hk);(try clear hi)
                refine hK.out _ _ ⟨(blk_cell BK495.out 0).trans rfl, (blk_cell BK495.out 1).trans rfl, (blk_cell BK495.out 2).trans rfl, (blk_cell BK495.out 3).trans rfl⟩ (fun hHeld => ?_)
                clear hK K
                refine nput ?_
                refine pu 4 (some 43) #[T,T,T,T,T,F,T,T,F,F,F,T,T,F,F,F,T,T,F,F,F,F,F] (any_of HT_.out (by kernel_rfl)) ?_
                refine pu 5 (some 44) #[T,T,T,T,T,T,T,T,F,F,F,T,T,F,F,F,T,T,F,F,F,F,F] (any_of HT_.out (by kernel_rfl)) ?_
                refine one_ (i := 8) (N := some 47) #[T,T,T,T,T,T,T,T,T,F,F,T,T,F,F,F,T,T,F,F,F,F,F] rfl rfl (one_of HT_.out (by kernel_rfl)) (by decide) (fun K hK => ?_)
                refine goes_ Tryd.func78 (by kernel_rfl) rfl #[.int .i64 ((rd_T133 l0_1 x5_2).f1)] (by rfl) rfl rfl aok ?_
                with_reducible refine (crossbuckref25_n.calls k2 ((rd_T133 l0_1 x5_2).f1) t497 _ A17.out).mono ?_;rintro e w33 ⟨rfl, hb⟩;refine ⟨_, rfl, ?_⟩
                replace HO_3 := Aside0.mk (Kd.R_below (rp HO_3) hb)
                replace BK488 := Aside0.mk (bb BK488.out hb);replace BK495 := Aside0.mk (bb BK495.out hb)
                replace HB := Aside0.mk (below_step (bel HB) hb)
                (try clear hb);(try clear hb2);(try clear hk);(try clear hi)
                refine hK.out _ _ ⟨(blk_cell BK495.out 0).trans rfl, (blk_cell BK495.out 1).trans rfl, (blk_cell BK495.out 2).trans rfl, (blk_cell BK495.out 3).trans rfl⟩ (fun hHeld => ?_)
                clear hK K
                refine nput ?_
                refine pu 9 (some 48) #[T,T,T,T,T,T,T,T,T,T,F,T,T,F,F,F,T,T,F,F,F,F,F] (any_of HT_.out (by kernel_rfl)) ?_
                refine pu 10 (some 49) #[T,T,T,T,T,T,T,T,T,T,T,T,T,F,F,F,T,T,F,F,F,F,F] (any_of HT_.out (by kernel_rfl)) ?_
                refine one_ (i := 13) (N := some 52) #[T,T,T,T,T,T,T,T,T,T,T,T,T,T,F,F,T,T,F,F,F,F,F] rfl rfl (one_of HT_.out (by kernel_rfl)) (by decide) (fun K hK => ?_)
                refine goes_ Tryd.func78 (by kernel_rfl) rfl #[.int .i64 ((rd_T133 l0_1 x5_2).f2)] (by rfl) rfl rfl aok ?_
                with_reducible refine (crossbuckref25_n.calls k2 ((rd_T133 l0_1 x5_2).f2) t498 _ A20.out).mono ?_;rintro e w34 ⟨rfl, hb⟩;refine ⟨_, rfl, ?_⟩
                replace HO_3 := Aside0.mk (Kd.R_below (rp HO_3) hb)
                replace BK488 := Aside0.mk (bb BK488.out hb);replace BK495 := Aside0.mk (bb BK495.out hb)
                replace HB := Aside0.mk (below_step (bel HB) hb)
                (try clear hb);(try clear hb2);(try clear hk);(try clear hi)
                refine hK.out _ _ ⟨(blk_cell BK495.out 0).trans rfl, (blk_cell BK495.out 1).trans rfl, (blk_cell BK495.out 2).trans rfl, (blk_cell BK495.out 3).trans rfl⟩ (fun hHeld => ?_)
                clear hK K
                refine nput ?_
                refine pu 14 (some 53) #[T,T,T,T,T,T,T,T,T,T,T,T,T,T,T,F,T,T,F,F,F,F,F] (any_of HT_.out (by kernel_rfl)) ?_
                refine pu 15 (some 54) #[T,T,T,T,T,T,T,T,T,T,T,T,T,T,T,T,T,T,F,F,F,F,F] (any_of HT_.out (by kernel_rfl)) ?_
                refine one_ (i := 18) (N := some 57) #[T,T,T,T,T,T,T,T,T,T,T,T,T,T,T,T,T,T,T,F,F,F,F] rfl rfl (one_of HT_.out (by kernel_rfl)) (by decide) (fun K hK => ?_)
                refine goes_ Tryd.func78 (by kernel_rfl) rfl #[.int .i64 ((rd_T133 l0_1 x5_2).f3)] (by rfl) rfl rfl aok ?_
                with_reducible refine (crossbuckref25_n.calls k2 ((rd_T133 l0_1 x5_2).f3) t499 _ A23.out).mono ?_;rintro e w35 ⟨rfl, hb⟩;refine ⟨_, rfl, ?_⟩
                replace HO_3 := Aside0.mk (Kd.R_below (rp HO_3) hb)
                replace BK488 := Aside0.mk (bb BK488.out hb);replace BK495 := Aside0.mk (bb BK495.out hb)
                replace HB := Aside0.mk (below_step (bel HB) hb)
                (try clear hb);(try clear hb2);(try clear hk);(try clear hi)
                refine hK.out _ _ ⟨(blk_cell BK495.out 0).trans rfl, (blk_cell BK495.out 1).trans rfl, (blk_cell BK495.out 2).trans rfl, (blk_cell BK495.out 3).trans rfl⟩ (fun hHeld => ?_)
                clear hK K
                refine nput ?_
                refine pu 19 (some 58) #[T,T,T,T,T,T,T,T,T,T,T,T,T,T,T,T,T,T,T,T,F,F,F] (any_of HT_.out (by kernel_rfl)) ?_
                refine one_ (i := 20) (N := some 59) #[T,T,T,T,T,T,T,T,T,T,T,T,T,T,T,T,T,T,T,T,T,F,F] rfl rfl (one_of HT_.out (by kernel_rfl)) (by decide) (fun K hK => ?_)
                refine value_ (w1 := ?_) (v := ?_) (by rfl) rfl ?_ ?_
                rotate_left 2
                ·go_simp
                 constructor
                 ·rfl
                 ·rfl
                refine hK.out _ _ ⟨(blk_cell (blk_alloc BK495.out _) 0).trans rfl, (blk_cell (blk_alloc BK495.out _) 1).trans rfl, (blk_cell (blk_alloc BK495.out _) 2).trans rfl, (blk_cell (blk_alloc BK495.out _) 3).trans rfl⟩ (fun hHeld => ?_)
                clear hK K
                refine nput ?_
                refine one_ (i := 21) (N := some 60) #[T,T,T,T,T,T,T,T,T,T,T,T,T,T,T,T,T,T,T,T,T,T,F] rfl rfl (one_of HT_.out (by kernel_rfl)) (by decide) (fun K hK => ?_)
                refine Kd.R_append_step Kd.string (w0 := w) w.heap.size (by rfl) (.tmp 39) (.tmp 59) 30 9 (.string ⟨#[]⟩) 16 rfl Tryd.underlying30 info9 rfl (by decide) (by omega) u3 x3_2 ((((((((⟨#[108, 105, 110, 107, 32]⟩ : ByteArray) ++ t496) ++ (⟨#[32]⟩ : ByteArray)) ++ t497) ++ (⟨#[32]⟩ : ByteArray)) ++ t498) ++ (⟨#[32]⟩ : ByteArray)) ++ t499) [.string ((((((((⟨#[108, 105, 110, 107, 32]⟩ : ByteArray) ++ t496) ++ (⟨#[32]⟩ : ByteArray)) ++ t497) ++ (⟨#[32]⟩ : ByteArray)) ++ t498) ++ (⟨#[32]⟩ : ByteArray)) ++ t499)] (fun _ => True) (fun _ => False) rfl rfl ?aP (fun _ hk => hk.elim) ?aF ?aO ?aB ?aS ?aL ?_
                (case aP => exact rfl)
                (case aB => exact (bel HB))
                (case aF => exact (fun _ _ => trivial))
                (case aO => exact (rp HO_3))
                (case aS => exact (below_size (bel HB)))
                (case aL => have := LMc25.out; omega)
                intro v501 w36 ho hb hg hat
                rw [← Ny500.out] at ho;have HO502 := Aside0.mk (ho)
                replace BK488 := Aside0.mk (blk_grown (g := gb488) (o := .cells #[.slice A0_0 l0_0.length c0_0, .slice (some ad494) l0_1.length c0_1, .slice A0_2 l0_2.length c0_2] 26 (0, 0)) bkp hg (Kd.R_ne HO_3.out BK488.out (by decide)))
                replace BK495 := Aside0.mk (blk_grown (g := gb495) (o := .cells #[.int .i64 ((rd_T133 l0_1 x5_2).f0), .int .i64 ((rd_T133 l0_1 x5_2).f1), .int .i64 ((rd_T133 l0_1 x5_2).f2), .int .i64 ((rd_T133 l0_1 x5_2).f3)] 133 (0, 0)) bkp hg (Kd.R_ne HO_3.out BK495.out (by decide)))
                replace HB := Aside0.mk (hb);clear HO_3;clear ho hb hg hat
                refine hK.out _ _ ⟨(blk_cell BK495.out 0).trans rfl, (blk_cell BK495.out 1).trans rfl, (blk_cell BK495.out 2).trans rfl, (blk_cell BK495.out 3).trans rfl⟩ (fun hHeld => ?_)
                clear hK K
                refine nput ?_
                refine pu 22 (some 3) #[T,T,T,T,T,T,T,T,T,T,T,T,T,T,T,T,T,T,T,T,T,T,T] (any_of HT_.out (by kernel_rfl)) ?_
                refine done_ (done_of HT_.out (by kernel_rfl)) ?_
                try go_wp2
                go_roundg k2
                case measure => have := HK1.out; have := HK2.out; omega
                case rel => exact ⟨(y500), (wrap64 (x5_2 + 1)), (by first | rfl | (simp; done) | (simp [*]; done)), H', ⟨by have := HK1.out; have := HK2.out; omega⟩, ⟨rp HO502⟩, ⟨bkp⟩, ⟨by repeat (first | (with_reducible first | exact HB.out | apply below_alloc | apply pw_below_drewN | apply below_drew1 | refine below_set ?_ GE488.out | refine below_set ?_ GE495.out) | exact HB.out)⟩⟩
               ·rw [if_neg c25] at H
                exact absurd H (by simp)
              ·rw [if_neg c24] at H
               exact absurd H (by simp)
             ·rw [if_neg c22] at H
              exact absurd H (by simp)
            ·rw [if_neg c21] at H
             exact absurd H (by simp)
           ·rw [if_neg c19] at H
            exact absurd H (by simp)
          ·rw [if_neg c18] at H
           exact absurd H (by simp)
         ·rw [if_neg c16] at H
          exact absurd H (by simp)
        ·rw [if_neg c15] at H
         exact absurd H (by simp)
       ·rw [if_neg c13] at H
        exact absurd H (by simp)
      ·rw [if_neg c12] at H
       have c12b0 : decide (x5_2 < (l0_1.length : Int)) = false := decide_eq_false c12;clear c12;have H' := Aside0.mk H;clear H;have hcz37 := cz3 BK488.out;go_wp2
       go_loopg [3, 7] k2 (fun kq v3 v7 w' => ∃ (x3_3 : List ByteArray) (x7_3 : Int), v7 = .int .i64 x7_3 ∧ Aside0 (crossbuckref25_Topo.l2 kq x3_3 x7_3 l0_0 l0_1 l0_2 = some r) ∧ Aside0 (kq ≤ k2) ∧ Aside0 (Kd.R Kd.string 9 w' w.heap.size (fun _ => True) v3 x3_3) ∧ Aside0 (w'.heap[gb488]? = some (.cells #[(.slice A0_0 l0_0.length c0_0), (.slice A0_1 l0_1.length c0_1), (.slice A0_2 l0_2.length c0_2)] 26 (0, 0))) ∧ Aside0 (Below w.heap.size w w'))
       case atStart => exact ⟨(x3_2), (0), (by first | rfl | (simp; done) | (simp [*]; done)), H', ⟨Nat.le_refl _⟩, ⟨rp HO_3⟩, ⟨bkp⟩, ⟨by repeat (first | (with_reducible first | exact HB.out | apply below_alloc | apply pw_below_drewN | apply below_drew1 | refine below_set ?_ GE488.out) | exact HB.out)⟩⟩
       case round =>
        clear H'
        try clear c1
        try clear c2
        try clear p2
        try clear c3
        try clear c3b0
        try clear c4
        try clear c4b0
        try clear p4
        try clear q4
        try clear hx4
        try clear c6
        try clear c6b0
        try clear c6b1
        try clear c6b2
        try clear p6
        try clear c7
        try clear c12
        try clear c12b0
        try clear c13
        try clear c13b0
        try clear c15
        try clear c15b0
        try clear c15b1
        try clear c15b2
        try clear c16
        try clear c16b0
        try clear c16b1
        try clear c16b2
        try clear c18
        try clear c18b0
        try clear c18b1
        try clear c18b2
        try clear c19
        try clear c19b0
        try clear c19b1
        try clear c19b2
        try clear c21
        try clear c21b0
        try clear c21b1
        try clear c21b2
        try clear c22
        try clear c22b0
        try clear c22b1
        try clear c22b2
        try clear c23
        try clear c24
        try clear c24b0
        try clear c24b1
        try clear c24b2
        try clear c25
        try clear c28
        try clear hcz11
        try clear hcz26
        try clear hcz29
        try clear hcz37
        try clear hcz8
        try clear hx489_0
        try clear hx494_0
        try clear hx494_1
        try clear hx494_2
        try clear hx494_3
        try clear p2
        try clear p4
        try clear p489
        try clear p494
        try clear p6
        try clear q4
        try clear q489
        try clear q494
        obtain ⟨x3_3, x7_3, rfl, HA, HK3, HO_3, BK488, HB⟩ := hrel
        cases gk with
        | zero => exact absurd HA.out (by simp [crossbuckref25_Topo.l2])
        | succ k3 =>
         have H := HA.out;clear HA;simp only [crossbuckref25_Topo.l2] at H
         by_cases c38 : x7_3 < (l0_2.length : Int)
         ·rw [if_pos c38] at H
          have c38b0 : decide (x7_3 < (l0_2.length : Int)) = true := decide_eq_true c38;clear c38
          by_cases c39 : 0 ≤ x7_3
          ·rw [if_pos c39] at H
           have c39b0 : decide (0 ≤ x7_3) = true := decide_eq_true c39;clear c39;have HC40 := Aside0.mk H;clear H;have hcz41 := cz3 BK488.out
           have p503 : 0 ≤ (x7_3 : Int) := of_decide_eq_true (by first | (with_reducible assumption) | assumption)
           have q503 : x7_3 < (l0_2.length : Int) := of_decide_eq_true (by first | (with_reducible assumption) | assumption)
           obtain ⟨ad503, e503, hx503_0, hx503_1, hx503_2, hx503_3, hx503_4, hx503_5, hx503_6, hx503_7, hx503_8, hx503_9, hx503_10, hx503_11, hx503_12⟩ := at_T130 HR0_2.out x7_3 p503 q503
           cases e503
           replace hx503_0 := mv HB hx503_0;replace hx503_1 := mv HB hx503_1;replace hx503_2 := mv HB hx503_2;replace hx503_3 := mv HB hx503_3;replace hx503_4 := mv HB hx503_4;replace hx503_5 := mv HB hx503_5;replace hx503_6 := mv HB hx503_6;replace hx503_7 := mv HB hx503_7;replace hx503_8 := mv HB hx503_8;replace hx503_9 := mv HB hx503_9;replace hx503_10 := mv HB hx503_10;replace hx503_11 := mv HB hx503_11;replace hx503_12 := mv HB hx503_12;replace p503 := eq_true p503;replace q503 := eq_true q503
           go_upto_if 74 with (first | ((with_reducible refine gate_dst (N := 8) rfl ?_); refine box_event rfl (N := 8) rfl (cs := #[.int .i64 0, .int .i64 0, .bool false, .bool false, .int .u32 0, .int .i64 0, .int .u32 0, .int .i64 0, .int .i64 0, .int .u16 0, .int .u16 0, .int .u16 0, .int .u16 0]) (t := 130) gs ?_; intro gb504 hg w42 hbox hb; have n0_ := Aside0.mk (Kd.R_below (rp HO_3) hb); have n1_ := Aside0.mk (bb BK488.out hb); have n2_ := Aside0.mk (below_step (bel HB) hb); have n3_ := Aside0.mk (hbox); have n4_ := gew HB hg; have n5_ := gew HB hg; have n6_ := Aside0.mk ((ne1 BK488.out hg : gb488 ≠ gb504)); have n7_ := Aside0.mk ((ne2 BK488.out hg : gb504 ≠ gb488)); clear HO_3; clear BK488; clear HB; have HO_3 := n0_; have BK488 := n1_; have HB := n2_; have BK504 := n3_; have GW504 := n4_; have GE504 := n5_; have NB488_504 := n6_; have NB504_488 := n7_; clear n0_ n1_ n2_ n3_ n4_ n5_ n6_ n7_; clear hb hbox hg; have hnb43 := NB504_488.out; have hnc43 := NB488_504.out; have hcz44 := cz13 BK504.out))
           (try simp only [Act.put, setIfInBounds_toArray, set_cons_zero, set_cons_succ])
           go_cut [9] (fun v9 wc => ∃ (kq : Nat) (x9_39 : ByteArray), v9 = .string x9_39 ∧ Aside0 (crossbuckref25_Topo.j3 kq x3_3 x7_3 x9_39 l0_0 l0_1 l0_2 ((rd_T130 l0_2 x7_3).f0) ((rd_T130 l0_2 x7_3).f1) ((rd_T130 l0_2 x7_3).f2) ((rd_T130 l0_2 x7_3).f3) ((rd_T130 l0_2 x7_3).f4.f0.f0) ((rd_T130 l0_2 x7_3).f4.f0.f1) ((rd_T130 l0_2 x7_3).f4.f1.f0) ((rd_T130 l0_2 x7_3).f4.f1.f1) ((rd_T130 l0_2 x7_3).f4.f2) ((rd_T130 l0_2 x7_3).f4.f3.f0) ((rd_T130 l0_2 x7_3).f4.f3.f1) ((rd_T130 l0_2 x7_3).f4.f4.f0) ((rd_T130 l0_2 x7_3).f4.f4.f1) = some r) ∧ Aside0 (kq ≤ k3) ∧ Aside0 (Kd.R Kd.string 9 wc w.heap.size (fun _ => True) u3 x3_3) ∧ Aside0 (wc.heap[gb488]? = some (.cells #[(.slice A0_0 l0_0.length c0_0), (.slice A0_1 l0_1.length c0_1), (.slice (some ad503) l0_2.length c0_2)] 26 (0, 0))) ∧ Aside0 (wc.heap[gb504]? = some (.cells #[.int .i64 ((rd_T130 l0_2 x7_3).f0), .int .i64 ((rd_T130 l0_2 x7_3).f1), .bool ((rd_T130 l0_2 x7_3).f2), .bool ((rd_T130 l0_2 x7_3).f3), .int .u32 ((rd_T130 l0_2 x7_3).f4.f0.f0), .int .i64 ((rd_T130 l0_2 x7_3).f4.f0.f1), .int .u32 ((rd_T130 l0_2 x7_3).f4.f1.f0), .int .i64 ((rd_T130 l0_2 x7_3).f4.f1.f1), .int .i64 ((rd_T130 l0_2 x7_3).f4.f2), .int .u16 ((rd_T130 l0_2 x7_3).f4.f3.f0), .int .u16 ((rd_T130 l0_2 x7_3).f4.f3.f1), .int .u16 ((rd_T130 l0_2 x7_3).f4.f4.f0), .int .u16 ((rd_T130 l0_2 x7_3).f4.f4.f1)] 130 (0, 0))) ∧ Aside0 (Below w.heap.size w wc))
           case first =>
            have H := HC40.out;clear HC40;obtain ⟨bq45, hbq45⟩ : ∃ b_ : Bool, b_ = ((rd_T130 l0_2 x7_3).f2) := ⟨_, rfl⟩
            replace H : (if bq45 = true then (crossbuckref25_Topo.j3 k3 x3_3 x7_3 (⟨#[32, 105, 110]⟩ : ByteArray) l0_0 l0_1 l0_2 ((rd_T130 l0_2 x7_3).f0) ((rd_T130 l0_2 x7_3).f1) bq45 ((rd_T130 l0_2 x7_3).f3) ((rd_T130 l0_2 x7_3).f4.f0.f0) ((rd_T130 l0_2 x7_3).f4.f0.f1) ((rd_T130 l0_2 x7_3).f4.f1.f0) ((rd_T130 l0_2 x7_3).f4.f1.f1) ((rd_T130 l0_2 x7_3).f4.f2) ((rd_T130 l0_2 x7_3).f4.f3.f0) ((rd_T130 l0_2 x7_3).f4.f3.f1) ((rd_T130 l0_2 x7_3).f4.f4.f0) ((rd_T130 l0_2 x7_3).f4.f4.f1)) else (crossbuckref25_Topo.j3 k3 x3_3 x7_3 (⟨#[32, 111, 117, 116]⟩ : ByteArray) l0_0 l0_1 l0_2 ((rd_T130 l0_2 x7_3).f0) ((rd_T130 l0_2 x7_3).f1) bq45 ((rd_T130 l0_2 x7_3).f3) ((rd_T130 l0_2 x7_3).f4.f0.f0) ((rd_T130 l0_2 x7_3).f4.f0.f1) ((rd_T130 l0_2 x7_3).f4.f1.f0) ((rd_T130 l0_2 x7_3).f4.f1.f1) ((rd_T130 l0_2 x7_3).f4.f2) ((rd_T130 l0_2 x7_3).f4.f3.f0) ((rd_T130 l0_2 x7_3).f4.f3.f1) ((rd_T130 l0_2 x7_3).f4.f4.f0) ((rd_T130 l0_2 x7_3).f4.f4.f1))) = some r := by rw [← hbq45] at H; exact H
            have Nbq45 := Aside0.mk hbq45;clear hbq45;(try rw [← Nbq45.out])
            by_cases c46 : bq45 = true
            ·subst c46
             have H1 : (crossbuckref25_Topo.j3 k3 x3_3 x7_3 (⟨#[32, 105, 110]⟩ : ByteArray) l0_0 l0_1 l0_2 ((rd_T130 l0_2 x7_3).f0) ((rd_T130 l0_2 x7_3).f1) true ((rd_T130 l0_2 x7_3).f3) ((rd_T130 l0_2 x7_3).f4.f0.f0) ((rd_T130 l0_2 x7_3).f4.f0.f1) ((rd_T130 l0_2 x7_3).f4.f1.f0) ((rd_T130 l0_2 x7_3).f4.f1.f1) ((rd_T130 l0_2 x7_3).f4.f2) ((rd_T130 l0_2 x7_3).f4.f3.f0) ((rd_T130 l0_2 x7_3).f4.f3.f1) ((rd_T130 l0_2 x7_3).f4.f4.f0) ((rd_T130 l0_2 x7_3).f4.f4.f1)) = some r := by rw [if_pos rfl] at H; exact H
             clear H;have H := H1;clear H1;have H' := Aside0.mk H;clear H;go_wp2;go_meet
             case rel => (try rw [← Nbq45.out]); exact ⟨_, ((⟨#[32, 105, 110]⟩ : ByteArray)), (by first | rfl | (simp; done) | (simp [*]; done)), H', ⟨by have := HK1.out; have := HK2.out; have := HK3.out; first | omega | exact Nat.le_refl _⟩, ⟨by (with_reducible repeat (first | apply Kd.R_alloc | apply Kd.R_drewN | apply Kd.R_drew)); exact Kd.R_mono (Kd.R_far (p := ⟨gb504, 12, none⟩) (Kd.R_far (p := ⟨gb504, 11, none⟩) (Kd.R_far (p := ⟨gb504, 10, none⟩) (Kd.R_far (p := ⟨gb504, 9, none⟩) (Kd.R_far (p := ⟨gb504, 8, none⟩) (Kd.R_far (p := ⟨gb504, 7, none⟩) (Kd.R_far (p := ⟨gb504, 6, none⟩) (Kd.R_far (p := ⟨gb504, 5, none⟩) (Kd.R_far (p := ⟨gb504, 4, none⟩) (Kd.R_far (p := ⟨gb504, 3, none⟩) (Kd.R_far (p := ⟨gb504, 2, none⟩) (Kd.R_far (p := ⟨gb504, 1, none⟩) (Kd.R_far (p := ⟨gb504, 0, none⟩) (Kd.R_types HO_3.out BK504.out (by decide)) (fun _ hk => hk.2) (.int .i64 ((rd_T130 l0_2 x7_3).f0))) (fun _ hk => hk.2) (.int .i64 ((rd_T130 l0_2 x7_3).f1))) (fun _ hk => hk.2) (.bool (true))) (fun _ hk => hk.2) (.bool ((rd_T130 l0_2 x7_3).f3))) (fun _ hk => hk.2) (.int .u32 ((rd_T130 l0_2 x7_3).f4.f0.f0))) (fun _ hk => hk.2) (.int .i64 ((rd_T130 l0_2 x7_3).f4.f0.f1))) (fun _ hk => hk.2) (.int .u32 ((rd_T130 l0_2 x7_3).f4.f1.f0))) (fun _ hk => hk.2) (.int .i64 ((rd_T130 l0_2 x7_3).f4.f1.f1))) (fun _ hk => hk.2) (.int .i64 ((rd_T130 l0_2 x7_3).f4.f2))) (fun _ hk => hk.2) (.int .u16 ((rd_T130 l0_2 x7_3).f4.f3.f0))) (fun _ hk => hk.2) (.int .u16 ((rd_T130 l0_2 x7_3).f4.f3.f1))) (fun _ hk => hk.2) (.int .u16 ((rd_T130 l0_2 x7_3).f4.f4.f0))) (fun _ hk => hk.2) (.int .u16 ((rd_T130 l0_2 x7_3).f4.f4.f1))) (fun _ hk => trivial)⟩, ⟨bkp⟩, ⟨bkp⟩, ⟨by repeat (first | (with_reducible first | exact HB.out | apply below_alloc | apply pw_below_drewN | apply below_drew1 | refine below_set ?_ GE488.out | refine below_set ?_ GE504.out) | exact HB.out)⟩⟩
            ·replace c46 := Bool.eq_false_iff.mpr c46
             subst c46
             have H1 : (crossbuckref25_Topo.j3 k3 x3_3 x7_3 (⟨#[32, 111, 117, 116]⟩ : ByteArray) l0_0 l0_1 l0_2 ((rd_T130 l0_2 x7_3).f0) ((rd_T130 l0_2 x7_3).f1) false ((rd_T130 l0_2 x7_3).f3) ((rd_T130 l0_2 x7_3).f4.f0.f0) ((rd_T130 l0_2 x7_3).f4.f0.f1) ((rd_T130 l0_2 x7_3).f4.f1.f0) ((rd_T130 l0_2 x7_3).f4.f1.f1) ((rd_T130 l0_2 x7_3).f4.f2) ((rd_T130 l0_2 x7_3).f4.f3.f0) ((rd_T130 l0_2 x7_3).f4.f3.f1) ((rd_T130 l0_2 x7_3).f4.f4.f0) ((rd_T130 l0_2 x7_3).f4.f4.f1)) = some r := by rw [if_neg (show ¬ (false = true) by decide)] at H; exact H
             clear H;have H := H1;clear H1;have H' := Aside0.mk H;clear H;go_wp2;go_meet
             case rel => (try rw [← Nbq45.out]); exact ⟨_, ((⟨#[32, 111, 117, 116]⟩ : ByteArray)), (by first | rfl | (simp; done) | (simp [*]; done)), H', ⟨by have := HK1.out; have := HK2.out; have := HK3.out; first | omega | exact Nat.le_refl _⟩, ⟨by (with_reducible repeat (first | apply Kd.R_alloc | apply Kd.R_drewN | apply Kd.R_drew)); exact Kd.R_mono (Kd.R_far (p := ⟨gb504, 12, none⟩) (Kd.R_far (p := ⟨gb504, 11, none⟩) (Kd.R_far (p := ⟨gb504, 10, none⟩) (Kd.R_far (p := ⟨gb504, 9, none⟩) (Kd.R_far (p := ⟨gb504, 8, none⟩) (Kd.R_far (p := ⟨gb504, 7, none⟩) (Kd.R_far (p := ⟨gb504, 6, none⟩) (Kd.R_far (p := ⟨gb504, 5, none⟩) (Kd.R_far (p := ⟨gb504, 4, none⟩) (Kd.R_far (p := ⟨gb504, 3, none⟩) (Kd.R_far (p := ⟨gb504, 2, none⟩) (Kd.R_far (p := ⟨gb504, 1, none⟩) (Kd.R_far (p := ⟨gb504, 0, none⟩) (Kd.R_types HO_3.out BK504.out (by decide)) (fun _ hk => hk.2) (.int .i64 ((rd_T130 l0_2 x7_3).f0))) (fun _ hk => hk.2) (.int .i64 ((rd_T130 l0_2 x7_3).f1))) (fun _ hk => hk.2) (.bool (false))) (fun _ hk => hk.2) (.bool ((rd_T130 l0_2 x7_3).f3))) (fun _ hk => hk.2) (.int .u32 ((rd_T130 l0_2 x7_3).f4.f0.f0))) (fun _ hk => hk.2) (.int .i64 ((rd_T130 l0_2 x7_3).f4.f0.f1))) (fun _ hk => hk.2) (.int .u32 ((rd_T130 l0_2 x7_3).f4.f1.f0))) (fun _ hk => hk.2) (.int .i64 ((rd_T130 l0_2 x7_3).f4.f1.f1))) (fun _ hk => hk.2) (.int .i64 ((rd_T130 l0_2 x7_3).f4.f2))) (fun _ hk => hk.2) (.int .u16 ((rd_T130 l0_2 x7_3).f4.f3.f0))) (fun _ hk => hk.2) (.int .u16 ((rd_T130 l0_2 x7_3).f4.f3.f1))) (fun _ hk => hk.2) (.int .u16 ((rd_T130 l0_2 x7_3).f4.f4.f0))) (fun _ hk => hk.2) (.int .u16 ((rd_T130 l0_2 x7_3).f4.f4.f1))) (fun _ hk => trivial)⟩, ⟨bkp⟩, ⟨bkp⟩, ⟨by repeat (first | (with_reducible first | exact HB.out | apply below_alloc | apply pw_below_drewN | apply below_drew1 | refine below_set ?_ GE488.out | refine below_set ?_ GE504.out) | exact HB.out)⟩⟩
           case rest =>
            clear HC40
            try clear c1
            try clear c2
            try clear p2
            try clear c3
            try clear c3b0
            try clear c4
            try clear c4b0
            try clear p4
            try clear q4
            try clear hx4
            try clear p5
            try clear q5
            try clear hx5
            try clear c6
            try clear c6b0
            try clear c6b1
            try clear c6b2
            try clear p6
            try clear c7
            try clear c12
            try clear c12b0
            try clear c13
            try clear c13b0
            try clear c15
            try clear c15b0
            try clear c15b1
            try clear c15b2
            try clear c16
            try clear c16b0
            try clear c16b1
            try clear c16b2
            try clear c18
            try clear c18b0
            try clear c18b1
            try clear c18b2
            try clear c19
            try clear c19b0
            try clear c19b1
            try clear c19b2
            try clear c21
            try clear c21b0
            try clear c21b1
            try clear c21b2
            try clear c22
            try clear c22b0
            try clear c22b1
            try clear c22b2
            try clear c23
            try clear c24
            try clear c24b0
            try clear c24b1
            try clear c24b2
            try clear c25
            try clear c28
            try clear c38
            try clear c38b0
            try clear c39
            try clear c39b0
            try clear c43
            try clear q45
            try clear c46
            try clear hcz11
            try clear hcz26
            try clear hcz29
            try clear hcz37
            try clear hcz41
            try clear hcz44
            try clear hcz8
            try clear hx489_0
            try clear hx494_0
            try clear hx494_1
            try clear hx494_2
            try clear hx494_3
            try clear hx503_0
            try clear hx503_1
            try clear hx503_10
            try clear hx503_11
            try clear hx503_12
            try clear hx503_2
            try clear hx503_3
            try clear hx503_4
            try clear hx503_5
            try clear hx503_6
            try clear hx503_7
            try clear hx503_8
            try clear hx503_9
            try clear p2
            try clear p4
            try clear p489
            try clear p494
            try clear p503
            try clear p6
            try clear q4
            try clear q489
            try clear q494
            try clear q503
            obtain ⟨kq, x9_39, rfl, HA, HJ39, HO_3, BK488, BK504, HB⟩ := hcut
            cases kq with
            | zero => exact absurd HA.out (by simp [crossbuckref25_Topo.j3])
            | succ kj39 =>
             have H := HA.out;clear HA;simp only [crossbuckref25_Topo.j3] at H
             by_cases c47 : ((rd_T130 l0_2 x7_3).f3) = true
             ·rw [if_pos c47] at H
              have c47b0 : ((rd_T130 l0_2 x7_3).f3) = true := c47;clear c47
              by_cases c48 : x9_39.size + 8 ≤ 9223372036854775807
              ·rw [if_pos c48] at H
               have c48b0 := eq_true c48;have c48b1 : decide (x9_39.size + 8 ≤ 9223372036854775807) = true := decide_eq_true c48
               try have c48b2 : (9223372036854775807 < x9_39.size + 8) = False := eq_false (Nat.not_lt.2 c48)
               replace H := Option.bind_eq_some_iff.mp H;obtain ⟨t505, A490, H⟩ := H
               replace H : (if 4 + t505.size ≤ 9223372036854775807 then (if ((⟨#[97, 99, 108, 32]⟩ : ByteArray) ++ t505).size + 1 ≤ 9223372036854775807 then ((crossbuckref25_n.f kj39 ((rd_T130 l0_2 x7_3).f1)).bind fun t506 => (if (((⟨#[97, 99, 108, 32]⟩ : ByteArray) ++ t505) ++ (⟨#[32]⟩ : ByteArray)).size + t506.size ≤ 9223372036854775807 then (if ((((⟨#[97, 99, 108, 32]⟩ : ByteArray) ++ t505) ++ (⟨#[32]⟩ : ByteArray)) ++ t506).size + (x9_39 ++ (⟨#[32, 112, 101, 114, 109, 105, 116, 32]⟩ : ByteArray)).size ≤ 9223372036854775807 then ((crossbuckref04_Print.f kj39 ((rd_T130 l0_2 x7_3).f4.f0.f0) ((rd_T130 l0_2 x7_3).f4.f0.f1) ((rd_T130 l0_2 x7_3).f4.f1.f0) ((rd_T130 l0_2 x7_3).f4.f1.f1) ((rd_T130 l0_2 x7_3).f4.f2) ((rd_T130 l0_2 x7_3).f4.f3.f0) ((rd_T130 l0_2 x7_3).f4.f3.f1) ((rd_T130 l0_2 x7_3).f4.f4.f0) ((rd_T130 l0_2 x7_3).f4.f4.f1)).bind fun t507 => (if (((((⟨#[97, 99, 108, 32]⟩ : ByteArray) ++ t505) ++ (⟨#[32]⟩ : ByteArray)) ++ t506) ++ (x9_39 ++ (⟨#[32, 112, 101, 114, 109, 105, 116, 32]⟩ : ByteArray))).size + t507.size ≤ 9223372036854775807 then (if x3_3.length < 8796093022208 then (crossbuckref25_Topo.l2 kj39 (x3_3 ++ [(((((⟨#[97, 99, 108, 32]⟩ : ByteArray) ++ t505) ++ (⟨#[32]⟩ : ByteArray)) ++ t506) ++ (x9_39 ++ (⟨#[32, 112, 101, 114, 109, 105, 116, 32]⟩ : ByteArray))) ++ t507]) (wrap64 (x7_3 + 1)) l0_0 l0_1 l0_2) else (none)) else (none))) else (none)) else (none))) else (none)) else (none)) = some r := H
               have A49 := Aside0.mk A490;clear A490
               by_cases c50 : 4 + t505.size ≤ 9223372036854775807
               ·rw [if_pos c50] at H
                have c50b0 := eq_true c50;have c50b1 : decide (4 + t505.size ≤ 9223372036854775807) = true := decide_eq_true c50
                try have c50b2 : (9223372036854775807 < 4 + t505.size) = False := eq_false (Nat.not_lt.2 c50)
                by_cases c51 : ((⟨#[97, 99, 108, 32]⟩ : ByteArray) ++ t505).size + 1 ≤ 9223372036854775807
                ·rw [if_pos c51] at H
                 have c51b0 := eq_true c51;have c51b1 : decide (((⟨#[97, 99, 108, 32]⟩ : ByteArray) ++ t505).size + 1 ≤ 9223372036854775807) = true := decide_eq_true c51
                 try have c51b2 : (9223372036854775807 < ((⟨#[97, 99, 108, 32]⟩ : ByteArray) ++ t505).size + 1) = False := eq_false (Nat.not_lt.2 c51)
                 try have c51b3 := c51b2
                 try simp only [ByteArray.size_append, Hand.lit_size, List.length_cons, List.length_nil, Nat.zero_add, Nat.reduceAdd] at c51b3
                 replace H := Option.bind_eq_some_iff.mp H;obtain ⟨t506, A520, H⟩ := H
                 replace H : (if (((⟨#[97, 99, 108, 32]⟩ : ByteArray) ++ t505) ++ (⟨#[32]⟩ : ByteArray)).size + t506.size ≤ 9223372036854775807 then (if ((((⟨#[97, 99, 108, 32]⟩ : ByteArray) ++ t505) ++ (⟨#[32]⟩ : ByteArray)) ++ t506).size + (x9_39 ++ (⟨#[32, 112, 101, 114, 109, 105, 116, 32]⟩ : ByteArray)).size ≤ 9223372036854775807 then ((crossbuckref04_Print.f kj39 ((rd_T130 l0_2 x7_3).f4.f0.f0) ((rd_T130 l0_2 x7_3).f4.f0.f1) ((rd_T130 l0_2 x7_3).f4.f1.f0) ((rd_T130 l0_2 x7_3).f4.f1.f1) ((rd_T130 l0_2 x7_3).f4.f2) ((rd_T130 l0_2 x7_3).f4.f3.f0) ((rd_T130 l0_2 x7_3).f4.f3.f1) ((rd_T130 l0_2 x7_3).f4.f4.f0) ((rd_T130 l0_2 x7_3).f4.f4.f1)).bind fun t507 => (if (((((⟨#[97, 99, 108, 32]⟩ : ByteArray) ++ t505) ++ (⟨#[32]⟩ : ByteArray)) ++ t506) ++ (x9_39 ++ (⟨#[32, 112, 101, 114, 109, 105, 116, 32]⟩ : ByteArray))).size + t507.size ≤ 9223372036854775807 then (if x3_3.length < 8796093022208 then (crossbuckref25_Topo.l2 kj39 (x3_3 ++ [(((((⟨#[97, 99, 108, 32]⟩ : ByteArray) ++ t505) ++ (⟨#[32]⟩ : ByteArray)) ++ t506) ++ (x9_39 ++ (⟨#[32, 112, 101, 114, 109, 105, 116, 32]⟩ : ByteArray))) ++ t507]) (wrap64 (x7_3 + 1)) l0_0 l0_1 l0_2) else (none)) else (none))) else (none)) else (none)) = some r := H
                 have A52 := Aside0.mk A520;clear A520
                 by_cases c53 : (((⟨#[97, 99, 108, 32]⟩ : ByteArray) ++ t505) ++ (⟨#[32]⟩ : ByteArray)).size + t506.size ≤ 9223372036854775807
                 ·rw [if_pos c53] at H
                  have c53b0 := eq_true c53;have c53b1 : decide ((((⟨#[97, 99, 108, 32]⟩ : ByteArray) ++ t505) ++ (⟨#[32]⟩ : ByteArray)).size + t506.size ≤ 9223372036854775807) = true := decide_eq_true c53
                  try have c53b2 : (9223372036854775807 < (((⟨#[97, 99, 108, 32]⟩ : ByteArray) ++ t505) ++ (⟨#[32]⟩ : ByteArray)).size + t506.size) = False := eq_false (Nat.not_lt.2 c53)
                  try have c53b3 := c53b2
                  try simp only [ByteArray.size_append, Hand.lit_size, List.length_cons, List.length_nil, Nat.zero_add, Nat.reduceAdd] at c53b3
                  by_cases c54 : ((((⟨#[97, 99, 108, 32]⟩ : ByteArray) ++ t505) ++ (⟨#[32]⟩ : ByteArray)) ++ t506).size + (x9_39 ++ (⟨#[32, 112, 101, 114, 109, 105, 116, 32]⟩ : ByteArray)).size ≤ 9223372036854775807
                  ·rw [if_pos c54] at H
                   have c54b0 := eq_true c54;have c54b1 : decide (((((⟨#[97, 99, 108, 32]⟩ : ByteArray) ++ t505) ++ (⟨#[32]⟩ : ByteArray)) ++ t506).size + (x9_39 ++ (⟨#[32, 112, 101, 114, 109, 105, 116, 32]⟩ : ByteArray)).size ≤ 9223372036854775807) = true := decide_eq_true c54
                   try have c54b2 : (9223372036854775807 < ((((⟨#[97, 99, 108, 32]⟩ : ByteArray) ++ t505) ++ (⟨#[32]⟩ : ByteArray)) ++ t506).size + (x9_39 ++ (⟨#[32, 112, 101, 114, 109, 105, 116, 32]⟩ : ByteArray)).size) = False := eq_false (Nat.not_lt.2 c54)
                   try have c54b3 := c54b2
                   try simp only [ByteArray.size_append, Hand.lit_size, List.length_cons, List.length_nil, Nat.zero_add, Nat.reduceAdd] at c54b3
                   replace H := Option.bind_eq_some_iff.mp H;obtain ⟨t507, A550, H⟩ := H;replace H : (if (((((⟨#[97, 99, 108, 32]⟩ : ByteArray) ++ t505) ++ (⟨#[32]⟩ : ByteArray)) ++ t506) ++ (x9_39 ++ (⟨#[32, 112, 101, 114, 109, 105, 116, 32]⟩ : ByteArray))).size + t507.size ≤ 9223372036854775807 then (if x3_3.length < 8796093022208 then (crossbuckref25_Topo.l2 kj39 (x3_3 ++ [(((((⟨#[97, 99, 108, 32]⟩ : ByteArray) ++ t505) ++ (⟨#[32]⟩ : ByteArray)) ++ t506) ++ (x9_39 ++ (⟨#[32, 112, 101, 114, 109, 105, 116, 32]⟩ : ByteArray))) ++ t507]) (wrap64 (x7_3 + 1)) l0_0 l0_1 l0_2) else (none)) else (none)) = some r := H;have A55 := Aside0.mk A550;clear A550
                   by_cases c56 : (((((⟨#[97, 99, 108, 32]⟩ : ByteArray) ++ t505) ++ (⟨#[32]⟩ : ByteArray)) ++ t506) ++ (x9_39 ++ (⟨#[32, 112, 101, 114, 109, 105, 116, 32]⟩ : ByteArray))).size + t507.size ≤ 9223372036854775807
                   ·rw [if_pos c56] at H
                    have c56b0 := eq_true c56;have c56b1 : decide ((((((⟨#[97, 99, 108, 32]⟩ : ByteArray) ++ t505) ++ (⟨#[32]⟩ : ByteArray)) ++ t506) ++ (x9_39 ++ (⟨#[32, 112, 101, 114, 109, 105, 116, 32]⟩ : ByteArray))).size + t507.size ≤ 9223372036854775807) = true := decide_eq_true c56
                    try have c56b2 : (9223372036854775807 < (((((⟨#[97, 99, 108, 32]⟩ : ByteArray) ++ t505) ++ (⟨#[32]⟩ : ByteArray)) ++ t506) ++ (x9_39 ++ (⟨#[32, 112, 101, 114, 109, 105, 116, 32]⟩ : ByteArray))).size + t507.size) = False := eq_false (Nat.not_lt.2 c56)
                    try have c56b3 := c56b2
                    try simp only [ByteArray.size_append, Hand.lit_size, List.length_cons, List.length_nil, Nat.zero_add, Nat.reduceAdd] at c56b3
                    by_cases c57 : x3_3.length < 8796093022208
                    ·rw [if_pos c57] at H
                     have LMc57 := Aside0.mk c57;clear c57;obtain ⟨y508, hy508⟩ : ∃ y_ : List ByteArray, y_ = (x3_3 ++ [(((((⟨#[97, 99, 108, 32]⟩ : ByteArray) ++ t505) ++ (⟨#[32]⟩ : ByteArray)) ++ t506) ++ (x9_39 ++ (⟨#[32, 112, 101, 114, 109, 105, 116, 32]⟩ : ByteArray))) ++ t507]) := ⟨_, rfl⟩
                     replace H : (crossbuckref25_Topo.l2 kj39 y508 (wrap64 (x7_3 + 1)) l0_0 l0_1 l0_2) = some r := by first | (rw [hy508]; with_reducible exact H) | (have H2_ := (Option.bind_some _ _).symm.trans H; rw [hy508]; with_reducible exact H2_) | (have H2_ := (Option.bind_some _ _).symm.trans H; with_reducible exact H2_) | with_reducible exact H | (rw [hy508]; exact H) | exact H
                     have Ny508 := Aside0.mk hy508;clear hy508;have H' := Aside0.mk H;clear H;have hnb58 := NB504_488.out;have hnc58 := NB488_504.out;have hcz59 := cz13 BK504.out
                     try go_wp2
                     replace HO_3 := Aside0.mk (Kd.R_drew HO_3.out);replace BK488 := Aside0.mk (blk_drew BK488.out);replace BK504 := Aside0.mk (blk_drew BK504.out);replace HB := Aside0.mk (below_drew1 HB.out)
                     refine start_ (n := 19) (S := fun w' => w'.cell? ⟨gb504, 0, none⟩ = some (.int .i64 ((rd_T130 l0_2 x7_3).f0)) ∧ w'.cell? ⟨gb504, 1, none⟩ = some (.int .i64 ((rd_T130 l0_2 x7_3).f1)) ∧ w'.cell? ⟨gb504, 2, none⟩ = some (.bool ((rd_T130 l0_2 x7_3).f2)) ∧ w'.cell? ⟨gb504, 3, none⟩ = some (.bool ((rd_T130 l0_2 x7_3).f3)) ∧ w'.cell? ⟨gb504, 4, none⟩ = some (.int .u32 ((rd_T130 l0_2 x7_3).f4.f0.f0)) ∧ w'.cell? ⟨gb504, 5, none⟩ = some (.int .i64 ((rd_T130 l0_2 x7_3).f4.f0.f1)) ∧ w'.cell? ⟨gb504, 6, none⟩ = some (.int .u32 ((rd_T130 l0_2 x7_3).f4.f1.f0)) ∧ w'.cell? ⟨gb504, 7, none⟩ = some (.int .i64 ((rd_T130 l0_2 x7_3).f4.f1.f1)) ∧ w'.cell? ⟨gb504, 8, none⟩ = some (.int .i64 ((rd_T130 l0_2 x7_3).f4.f2)) ∧ w'.cell? ⟨gb504, 9, none⟩ = some (.int .u16 ((rd_T130 l0_2 x7_3).f4.f3.f0)) ∧ w'.cell? ⟨gb504, 10, none⟩ = some (.int .u16 ((rd_T130 l0_2 x7_3).f4.f3.f1)) ∧ w'.cell? ⟨gb504, 11, none⟩ = some (.int .u16 ((rd_T130 l0_2 x7_3).f4.f4.f0)) ∧ w'.cell? ⟨gb504, 12, none⟩ = some (.int .u16 ((rd_T130 l0_2 x7_3).f4.f4.f1))) (ds := []) #[F,F,F,F,F,F,F,F,F,F,F,F,F,F,F,F,F,F,F] (by kernel_rfl) rfl rfl ⟨(blk_cell BK504.out 0).trans rfl, (blk_cell BK504.out 1).trans rfl, (blk_cell BK504.out 2).trans rfl, (blk_cell BK504.out 3).trans rfl, (blk_cell BK504.out 4).trans rfl, (blk_cell BK504.out 5).trans rfl, (blk_cell BK504.out 6).trans rfl, (blk_cell BK504.out 7).trans rfl, (blk_cell BK504.out 8).trans rfl, (blk_cell BK504.out 9).trans rfl, (blk_cell BK504.out 10).trans rfl, (blk_cell BK504.out 11).trans rfl, (blk_cell BK504.out 12).trans rfl⟩ (fun hHeld => ?_); refine with_tabW crossbuckref25_Topo.tab21 crossbuckref25_Topo.bits21 (fun HT_ HW_ => ?_)
                     generalize wc.drew = w60 at HO_3 BK488 BK504 HB hHeld ⊢
                     refine pu 0 (some 81) #[T,F,F,F,F,F,F,F,F,F,F,F,F,F,F,F,F,F,F] (any_of HT_.out (by kernel_rfl)) ?_
                     refine pu 1 (some 82) #[T,T,F,F,F,F,F,F,F,F,F,F,F,F,F,F,F,F,F] (any_of HT_.out (by kernel_rfl)) ?_
                     refine pu 6 (some 87) #[T,T,F,F,F,F,T,F,F,F,F,F,F,F,F,F,F,F,F] (any_of HT_.out (by kernel_rfl)) ?_
                     refine pu 10 (some 91) #[T,T,F,F,F,F,T,F,F,F,T,F,F,F,F,F,F,F,F] (any_of HT_.out (by kernel_rfl)) ?_
                     refine pu 12 (some 93) #[T,T,F,F,F,F,T,F,F,F,T,F,T,F,F,F,F,F,F] (any_of HT_.out (by kernel_rfl)) ?_
                     refine take_ (i := 2) (N := some 83) (v := ?_) (a' := ?_) #[T,T,T,F,F,F,T,F,F,F,T,F,T,F,F,F,F,F,F] rfl rfl (take_ofW HT_.out HW_.out (by kernel_rfl)) (fun _ _ _ h => h) (Or.inl ⟨by rfl, ?_⟩) hHeld ?_ ?_
                     rotate_left
                     ·rintro w' ⟨s0, s1, s2, s3, s4, s5, s6, s7, s8, s9, s10, s11, s12⟩
                      go_simp;with_reducible rfl
                     rotate_left;·simp only [Act.put, setIfInBounds_toArray, set_cons_zero, set_cons_succ, i64_w, i32_w];rfl
                     refine take_ (i := 7) (N := some 88) (v := ?_) (a' := ?_) #[T,T,T,F,F,F,T,T,F,F,T,F,T,F,F,F,F,F,F] rfl rfl (take_ofW HT_.out HW_.out (by kernel_rfl)) (fun _ _ _ h => h) (Or.inl ⟨by rfl, ?_⟩) hHeld ?_ ?_
                     rotate_left
                     ·rintro w' ⟨s0, s1, s2, s3, s4, s5, s6, s7, s8, s9, s10, s11, s12⟩
                      go_simp;with_reducible rfl
                     rotate_left;·simp only [Act.put, setIfInBounds_toArray, set_cons_zero, set_cons_succ, i64_w, i32_w];rfl
                     refine take_ (i := 13) (N := some 94) (v := ?_) (a' := ?_) #[T,T,T,F,F,F,T,T,F,F,T,F,T,T,F,F,F,F,F] rfl rfl (take_ofW HT_.out HW_.out (by kernel_rfl)) (fun _ _ _ h => h) (Or.inl ⟨by rfl, ?_⟩) hHeld ?_ ?_
                     rotate_left
                     ·rintro w' ⟨s0, s1, s2, s3, s4, s5, s6, s7, s8, s9, s10, s11, s12⟩
                      go_simp;with_reducible rfl
                     rotate_left;·simp only [Act.put, setIfInBounds_toArray, set_cons_zero, set_cons_succ, i64_w, i32_w];rfl
                     refine one_ (i := 3) (N := some 84) #[T,T,T,T,F,F,T,T,F,F,T,F,T,T,F,F,F,F,F] rfl rfl (one_of HT_.out (by kernel_rfl)) (by decide) (fun K hK => ?_)
                     refine goes_ Tryd.func78 (by kernel_rfl) rfl #[.int .i64 ((rd_T130 l0_2 x7_3).f0)] (by rfl) rfl rfl aok ?_
                     with_reducible refine (crossbuckref25_n.calls kj39 ((rd_T130 l0_2 x7_3).f0) t505 _ A49.out).mono ?_;rintro e w61 ⟨rfl, hb⟩;refine ⟨_, rfl, ?_⟩
                     replace HO_3 := Aside0.mk (Kd.R_below (rp HO_3) hb)
                     replace BK488 := Aside0.mk (bb BK488.out hb);replace BK504 := Aside0.mk (bb BK504.out hb)
                     replace HB := Aside0.mk (below_step (bel HB) hb)
                     (try clear hb);(try clear hb2);(try clear hk);(try clear hi)
                     refine hK.out _ _ ⟨(blk_cell BK504.out 0).trans rfl, (blk_cell BK504.out 1).trans rfl, (blk_cell BK504.out 2).trans rfl, (blk_cell BK504.out 3).trans rfl, (blk_cell BK504.out 4).trans rfl, (blk_cell BK504.out 5).trans rfl, (blk_cell BK504.out 6).trans rfl, (blk_cell BK504.out 7).trans rfl, (blk_cell BK504.out 8).trans rfl, (blk_cell BK504.out 9).trans rfl, (blk_cell BK504.out 10).trans rfl, (blk_cell BK504.out 11).trans rfl, (blk_cell BK504.out 12).trans rfl⟩ (fun hHeld => ?_)
                     clear hK K
                     refine nput ?_
                     refine pu 4 (some 85) #[T,T,T,T,T,F,T,T,F,F,T,F,T,T,F,F,F,F,F] (any_of HT_.out (by kernel_rfl)) ?_
                     refine pu 5 (some 86) #[T,T,T,T,T,T,T,T,F,F,T,F,T,T,F,F,F,F,F] (any_of HT_.out (by kernel_rfl)) ?_
                     refine one_ (i := 8) (N := some 89) #[T,T,T,T,T,T,T,T,T,F,T,F,T,T,F,F,F,F,F] rfl rfl (one_of HT_.out (by kernel_rfl)) (by decide) (fun K hK => ?_)
                     refine goes_ Tryd.func78 (by kernel_rfl) rfl #[.int .i64 ((rd_T130 l0_2 x7_3).f1)] (by rfl) rfl rfl aok ?_
                     with_reducible refine (crossbuckref25_n.calls kj39 ((rd_T130 l0_2 x7_3).f1) t506 _ A52.out).mono ?_;rintro e w62 ⟨rfl, hb⟩;refine ⟨_, rfl, ?_⟩
                     replace HO_3 := Aside0.mk (Kd.R_below (rp HO_3) hb)
                     replace BK488 := Aside0.mk (bb BK488.out hb);replace BK504 := Aside0.mk (bb BK504.out hb)
                     replace HB := Aside0.mk (below_step (bel HB) hb)
                     (try clear hb);(try clear hb2);(try clear hk);(try clear hi)
                     refine hK.out _ _ ⟨(blk_cell BK504.out 0).trans rfl, (blk_cell BK504.out 1).trans rfl, (blk_cell BK504.out 2).trans rfl, (blk_cell BK504.out 3).trans rfl, (blk_cell BK504.out 4).trans rfl, (blk_cell BK504.out 5).trans rfl, (blk_cell BK504.out 6).trans rfl, (blk_cell BK504.out 7).trans rfl, (blk_cell BK504.out 8).trans rfl, (blk_cell BK504.out 9).trans rfl, (blk_cell BK504.out 10).trans rfl, (blk_cell BK504.out 11).trans rfl, (blk_cell BK504.out 12).trans rfl⟩ (fun hHeld => ?_)
                     clear hK K
                     refine nput ?_
                     refine pu 9 (some 90) #[T,T,T,T,T,T,T,T,T,T,T,F,T,T,F,F,F,F,F] (any_of HT_.out (by kernel_rfl)) ?_
                     refine pu 11 (some 92) #[T,T,T,T,T,T,T,T,T,T,T,T,T,T,F,F,F,F,F] (any_of HT_.out (by kernel_rfl)) ?_
                     refine one_ (i := 14) (N := some 95) #[T,T,T,T,T,T,T,T,T,T,T,T,T,T,T,F,F,F,F] rfl rfl (one_of HT_.out (by kernel_rfl)) (by decide) (fun K hK => ?_)
                     refine goes_ Tryd.func67 (by kernel_rfl) rfl #[.agg #[.int .u32 ((rd_T130 l0_2 x7_3).f4.f0.f0), .int .i64 ((rd_T130 l0_2 x7_3).f4.f0.f1), .int .u32 ((rd_T130 l0_2 x7_3).f4.f1.f0), .int .i64 ((rd_T130 l0_2 x7_3).f4.f1.f1), .int .i64 ((rd_T130 l0_2 x7_3).f4.f2), .int .u16 ((rd_T130 l0_2 x7_3).f4.f3.f0), .int .u16 ((rd_T130 l0_2 x7_3).f4.f3.f1), .int .u16 ((rd_T130 l0_2 x7_3).f4.f4.f0), .int .u16 ((rd_T130 l0_2 x7_3).f4.f4.f1)]] (by rfl) rfl rfl aok ?_
                     with_reducible refine (crossbuckref04_Print.calls kj39 ((rd_T130 l0_2 x7_3).f4.f0.f0) ((rd_T130 l0_2 x7_3).f4.f0.f1) ((rd_T130 l0_2 x7_3).f4.f1.f0) ((rd_T130 l0_2 x7_3).f4.f1.f1) ((rd_T130 l0_2 x7_3).f4.f2) ((rd_T130 l0_2 x7_3).f4.f3.f0) ((rd_T130 l0_2 x7_3).f4.f3.f1) ((rd_T130 l0_2 x7_3).f4.f4.f0) ((rd_T130 l0_2 x7_3).f4.f4.f1) t507 _ A55.out).mono ?_;rintro e w63 ⟨rfl, hb⟩;refine ⟨_, rfl, ?_⟩
                     replace HO_3 := Aside0.mk (Kd.R_below (rp HO_3) hb)
                     replace BK488 := Aside0.mk (bb BK488.out hb);replace BK504 := Aside0.mk (bb BK504.out hb)
                     replace HB := Aside0.mk (below_step (bel HB) hb)
                     (try clear hb);(try clear hb2);(try clear hk);(try clear hi)
                     refine hK.out _ _ ⟨(blk_cell BK504.out 0).trans rfl, (blk_cell BK504.out 1).trans rfl, (blk_cell BK504.out 2).trans rfl, (blk_cell BK504.out 3).trans rfl, (blk_cell BK504.out 4).trans rfl, (blk_cell BK504.out 5).trans rfl, (blk_cell BK504.out 6).trans rfl, (blk_cell BK504.out 7).trans rfl, (blk_cell BK504.out 8).trans rfl, (blk_cell BK504.out 9).trans rfl, (blk_cell BK504.out 10).trans rfl, (blk_cell BK504.out 11).trans rfl, (blk_cell BK504.out 12).trans rfl⟩ (fun hHeld => ?_)
                     clear hK K
                     refine nput ?_
                     refine pu 15 (some 96) #[T,T,T,T,T,T,T,T,T,T,T,T,T,T,T,T,F,F,F] (any_of HT_.out (by kernel_rfl)) ?_
                     refine one_ (i := 16) (N := some 97) #[T,T,T,T,T,T,T,T,T,T,T,T,T,T,T,T,T,F,F] rfl rfl (one_of HT_.out (by kernel_rfl)) (by decide) (fun K hK => ?_)
                     refine value_ (w1 := ?_) (v := ?_) (by rfl) rfl ?_ ?_
                     rotate_left 2
                     ·go_simp
                      constructor
                      ·rfl
                      ·rfl
                     refine hK.out _ _ ⟨(blk_cell (blk_alloc BK504.out _) 0).trans rfl, (blk_cell (blk_alloc BK504.out _) 1).trans rfl, (blk_cell (blk_alloc BK504.out _) 2).trans rfl, (blk_cell (blk_alloc BK504.out _) 3).trans rfl, (blk_cell (blk_alloc BK504.out _) 4).trans rfl, (blk_cell (blk_alloc BK504.out _) 5).trans rfl, (blk_cell (blk_alloc BK504.out _) 6).trans rfl, (blk_cell (blk_alloc BK504.out _) 7).trans rfl, (blk_cell (blk_alloc BK504.out _) 8).trans rfl, (blk_cell (blk_alloc BK504.out _) 9).trans rfl, (blk_cell (blk_alloc BK504.out _) 10).trans rfl, (blk_cell (blk_alloc BK504.out _) 11).trans rfl, (blk_cell (blk_alloc BK504.out _) 12).trans rfl⟩ (fun hHeld => ?_)
                     clear hK K
                     refine nput ?_
                     refine one_ (i := 17) (N := some 98) #[T,T,T,T,T,T,T,T,T,T,T,T,T,T,T,T,T,T,F] rfl rfl (one_of HT_.out (by kernel_rfl)) (by decide) (fun K hK => ?_)
                     refine Kd.R_append_step Kd.string (w0 := w) w.heap.size (by rfl) (.tmp 81) (.tmp 97) 30 9 (.string ⟨#[]⟩) 16 rfl Tryd.underlying30 info9 rfl (by decide) (by omega) u3 x3_3 ((((((⟨#[97, 99, 108, 32]⟩ : ByteArray) ++ t505) ++ (⟨#[32]⟩ : ByteArray)) ++ t506) ++ (x9_39 ++ (⟨#[32, 112, 101, 114, 109, 105, 116, 32]⟩ : ByteArray))) ++ t507) [.string ((((((⟨#[97, 99, 108, 32]⟩ : ByteArray) ++ t505) ++ (⟨#[32]⟩ : ByteArray)) ++ t506) ++ (x9_39 ++ (⟨#[32, 112, 101, 114, 109, 105, 116, 32]⟩ : ByteArray))) ++ t507)] (fun _ => True) (fun _ => False) rfl rfl ?aP (fun _ hk => hk.elim) ?aF ?aO ?aB ?aS ?aL ?_
                     (case aP => exact rfl)
                     (case aB => exact (bel HB))
                     (case aF => exact (fun _ _ => trivial))
                     (case aO => exact (rp HO_3))
                     (case aS => exact (below_size (bel HB)))
                     (case aL => have := LMc57.out; omega)
                     intro v509 w64 ho hb hg hat
                     rw [← Ny508.out] at ho;have HO510 := Aside0.mk (ho)
                     replace BK488 := Aside0.mk (blk_grown (g := gb488) (o := .cells #[.slice A0_0 l0_0.length c0_0, .slice A0_1 l0_1.length c0_1, .slice (some ad503) l0_2.length c0_2] 26 (0, 0)) bkp hg (Kd.R_ne HO_3.out BK488.out (by decide)))
                     replace BK504 := Aside0.mk (blk_grown (g := gb504) (o := .cells #[.int .i64 ((rd_T130 l0_2 x7_3).f0), .int .i64 ((rd_T130 l0_2 x7_3).f1), .bool ((rd_T130 l0_2 x7_3).f2), .bool ((rd_T130 l0_2 x7_3).f3), .int .u32 ((rd_T130 l0_2 x7_3).f4.f0.f0), .int .i64 ((rd_T130 l0_2 x7_3).f4.f0.f1), .int .u32 ((rd_T130 l0_2 x7_3).f4.f1.f0), .int .i64 ((rd_T130 l0_2 x7_3).f4.f1.f1), .int .i64 ((rd_T130 l0_2 x7_3).f4.f2), .int .u16 ((rd_T130 l0_2 x7_3).f4.f3.f0), .int .u16 ((rd_T130 l0_2 x7_3).f4.f3.f1), .int .u16 ((rd_T130 l0_2 x7_3).f4.f4.f0), .int .u16 ((rd_T130 l0_2 x7_3).f4.f4.f1)] 130 (0, 0)) bkp hg (Kd.R_ne HO_3.out BK504.out (by decide)))
                     replace HB := Aside0.mk (hb);clear HO_3;clear ho hb hg hat
                     refine hK.out _ _ ⟨(blk_cell BK504.out 0).trans rfl, (blk_cell BK504.out 1).trans rfl, (blk_cell BK504.out 2).trans rfl, (blk_cell BK504.out 3).trans rfl, (blk_cell BK504.out 4).trans rfl, (blk_cell BK504.out 5).trans rfl, (blk_cell BK504.out 6).trans rfl, (blk_cell BK504.out 7).trans rfl, (blk_cell BK504.out 8).trans rfl, (blk_cell BK504.out 9).trans rfl, (blk_cell BK504.out 10).trans rfl, (blk_cell BK504.out 11).trans rfl, (blk_cell BK504.out 12).trans rfl⟩ (fun hHeld => ?_)
                     clear hK K
                     refine nput ?_
                     refine pu 18 (some 3) #[T,T,T,T,T,T,T,T,T,T,T,T,T,T,T,T,T,T,T] (any_of HT_.out (by kernel_rfl)) ?_
                     refine done_ (done_of HT_.out (by kernel_rfl)) ?_
                     try go_wp2
                     go_roundg kj39
                     case measure => have := HK1.out; have := HK2.out; have := HK3.out; have := HJ39.out; omega
                     case rel => (try rw [← Nbq45.out]); exact ⟨(y508), (wrap64 (x7_3 + 1)), (by first | rfl | (simp; done) | (simp [*]; done)), H', ⟨by have := HK1.out; have := HK2.out; have := HK3.out; have := HJ39.out; omega⟩, ⟨rp HO510⟩, ⟨bkp⟩, ⟨by repeat (first | (with_reducible first | exact HB.out | apply below_alloc | apply pw_below_drewN | apply below_drew1 | refine below_set ?_ GE488.out | refine below_set ?_ GE504.out) | exact HB.out)⟩⟩
                    ·rw [if_neg c57] at H
                     exact absurd H (by simp)
                   ·rw [if_neg c56] at H
                    exact absurd H (by simp)
                  ·rw [if_neg c54] at H
                   exact absurd H (by simp)
                 ·rw [if_neg c53] at H
                  exact absurd H (by simp)
                ·rw [if_neg c51] at H
                 exact absurd H (by simp)
               ·rw [if_neg c50] at H
                exact absurd H (by simp)
              ·rw [if_neg c48] at H
               exact absurd H (by simp)
             ·rw [if_neg c47] at H
              have c47b0 : ((rd_T130 l0_2 x7_3).f3) = false := by simpa using c47
              clear c47
              by_cases c65 : x9_39.size + 6 ≤ 9223372036854775807
              ·rw [if_pos c65] at H
               have c65b0 := eq_true c65;have c65b1 : decide (x9_39.size + 6 ≤ 9223372036854775807) = true := decide_eq_true c65
               try have c65b2 : (9223372036854775807 < x9_39.size + 6) = False := eq_false (Nat.not_lt.2 c65)
               replace H := Option.bind_eq_some_iff.mp H;obtain ⟨t511, A660, H⟩ := H
               replace H : (if 4 + t511.size ≤ 9223372036854775807 then (if ((⟨#[97, 99, 108, 32]⟩ : ByteArray) ++ t511).size + 1 ≤ 9223372036854775807 then ((crossbuckref25_n.f kj39 ((rd_T130 l0_2 x7_3).f1)).bind fun t512 => (if (((⟨#[97, 99, 108, 32]⟩ : ByteArray) ++ t511) ++ (⟨#[32]⟩ : ByteArray)).size + t512.size ≤ 9223372036854775807 then (if ((((⟨#[97, 99, 108, 32]⟩ : ByteArray) ++ t511) ++ (⟨#[32]⟩ : ByteArray)) ++ t512).size + (x9_39 ++ (⟨#[32, 100, 101, 110, 121, 32]⟩ : ByteArray)).size ≤ 9223372036854775807 then ((crossbuckref04_Print.f kj39 ((rd_T130 l0_2 x7_3).f4.f0.f0) ((rd_T130 l0_2 x7_3).f4.f0.f1) ((rd_T130 l0_2 x7_3).f4.f1.f0) ((rd_T130 l0_2 x7_3).f4.f1.f1) ((rd_T130 l0_2 x7_3).f4.f2) ((rd_T130 l0_2 x7_3).f4.f3.f0) ((rd_T130 l0_2 x7_3).f4.f3.f1) ((rd_T130 l0_2 x7_3).f4.f4.f0) ((rd_T130 l0_2 x7_3).f4.f4.f1)).bind fun t513 => (if (((((⟨#[97, 99, 108, 32]⟩ : ByteArray) ++ t511) ++ (⟨#[32]⟩ : ByteArray)) ++ t512) ++ (x9_39 ++ (⟨#[32, 100, 101, 110, 121, 32]⟩ : ByteArray))).size + t513.size ≤ 9223372036854775807 then (if x3_3.length < 8796093022208 then (crossbuckref25_Topo.l2 kj39 (x3_3 ++ [(((((⟨#[97, 99, 108, 32]⟩ : ByteArray) ++ t511) ++ (⟨#[32]⟩ : ByteArray)) ++ t512) ++ (x9_39 ++ (⟨#[32, 100, 101, 110, 121, 32]⟩ : ByteArray))) ++ t513]) (wrap64 (x7_3 + 1)) l0_0 l0_1 l0_2) else (none)) else (none))) else (none)) else (none))) else (none)) else (none)) = some r := H
               have A66 := Aside0.mk A660;clear A660
               by_cases c67 : 4 + t511.size ≤ 9223372036854775807
               ·rw [if_pos c67] at H
                have c67b0 := eq_true c67;have c67b1 : decide (4 + t511.size ≤ 9223372036854775807) = true := decide_eq_true c67
                try have c67b2 : (9223372036854775807 < 4 + t511.size) = False := eq_false (Nat.not_lt.2 c67)
                by_cases c68 : ((⟨#[97, 99, 108, 32]⟩ : ByteArray) ++ t511).size + 1 ≤ 9223372036854775807
                ·rw [if_pos c68] at H
                 have c68b0 := eq_true c68;have c68b1 : decide (((⟨#[97, 99, 108, 32]⟩ : ByteArray) ++ t511).size + 1 ≤ 9223372036854775807) = true := decide_eq_true c68
                 try have c68b2 : (9223372036854775807 < ((⟨#[97, 99, 108, 32]⟩ : ByteArray) ++ t511).size + 1) = False := eq_false (Nat.not_lt.2 c68)
                 try have c68b3 := c68b2
                 try simp only [ByteArray.size_append, Hand.lit_size, List.length_cons, List.length_nil, Nat.zero_add, Nat.reduceAdd] at c68b3
                 replace H := Option.bind_eq_some_iff.mp H;obtain ⟨t512, A690, H⟩ := H
                 replace H : (if (((⟨#[97, 99, 108, 32]⟩ : ByteArray) ++ t511) ++ (⟨#[32]⟩ : ByteArray)).size + t512.size ≤ 9223372036854775807 then (if ((((⟨#[97, 99, 108, 32]⟩ : ByteArray) ++ t511) ++ (⟨#[32]⟩ : ByteArray)) ++ t512).size + (x9_39 ++ (⟨#[32, 100, 101, 110, 121, 32]⟩ : ByteArray)).size ≤ 9223372036854775807 then ((crossbuckref04_Print.f kj39 ((rd_T130 l0_2 x7_3).f4.f0.f0) ((rd_T130 l0_2 x7_3).f4.f0.f1) ((rd_T130 l0_2 x7_3).f4.f1.f0) ((rd_T130 l0_2 x7_3).f4.f1.f1) ((rd_T130 l0_2 x7_3).f4.f2) ((rd_T130 l0_2 x7_3).f4.f3.f0) ((rd_T130 l0_2 x7_3).f4.f3.f1) ((rd_T130 l0_2 x7_3).f4.f4.f0) ((rd_T130 l0_2 x7_3).f4.f4.f1)).bind fun t513 => (if (((((⟨#[97, 99, 108, 32]⟩ : ByteArray) ++ t511) ++ (⟨#[32]⟩ : ByteArray)) ++ t512) ++ (x9_39 ++ (⟨#[32, 100, 101, 110, 121, 32]⟩ : ByteArray))).size + t513.size ≤ 9223372036854775807 then (if x3_3.length < 8796093022208 then (crossbuckref25_Topo.l2 kj39 (x3_3 ++ [(((((⟨#[97, 99, 108, 32]⟩ : ByteArray) ++ t511) ++ (⟨#[32]⟩ : ByteArray)) ++ t512) ++ (x9_39 ++ (⟨#[32, 100, 101, 110, 121, 32]⟩ : ByteArray))) ++ t513]) (wrap64 (x7_3 + 1)) l0_0 l0_1 l0_2) else (none)) else (none))) else (none)) else (none)) = some r := H
                 have A69 := Aside0.mk A690;clear A690
                 by_cases c70 : (((⟨#[97, 99, 108, 32]⟩ : ByteArray) ++ t511) ++ (⟨#[32]⟩ : ByteArray)).size + t512.size ≤ 9223372036854775807
                 ·rw [if_pos c70] at H
                  have c70b0 := eq_true c70;have c70b1 : decide ((((⟨#[97, 99, 108, 32]⟩ : ByteArray) ++ t511) ++ (⟨#[32]⟩ : ByteArray)).size + t512.size ≤ 9223372036854775807) = true := decide_eq_true c70
                  try have c70b2 : (9223372036854775807 < (((⟨#[97, 99, 108, 32]⟩ : ByteArray) ++ t511) ++ (⟨#[32]⟩ : ByteArray)).size + t512.size) = False := eq_false (Nat.not_lt.2 c70)
                  try have c70b3 := c70b2
                  try simp only [ByteArray.size_append, Hand.lit_size, List.length_cons, List.length_nil, Nat.zero_add, Nat.reduceAdd] at c70b3
                  by_cases c71 : ((((⟨#[97, 99, 108, 32]⟩ : ByteArray) ++ t511) ++ (⟨#[32]⟩ : ByteArray)) ++ t512).size + (x9_39 ++ (⟨#[32, 100, 101, 110, 121, 32]⟩ : ByteArray)).size ≤ 9223372036854775807
                  ·rw [if_pos c71] at H
                   have c71b0 := eq_true c71;have c71b1 : decide (((((⟨#[97, 99, 108, 32]⟩ : ByteArray) ++ t511) ++ (⟨#[32]⟩ : ByteArray)) ++ t512).size + (x9_39 ++ (⟨#[32, 100, 101, 110, 121, 32]⟩ : ByteArray)).size ≤ 9223372036854775807) = true := decide_eq_true c71
                   try have c71b2 : (9223372036854775807 < ((((⟨#[97, 99, 108, 32]⟩ : ByteArray) ++ t511) ++ (⟨#[32]⟩ : ByteArray)) ++ t512).size + (x9_39 ++ (⟨#[32, 100, 101, 110, 121, 32]⟩ : ByteArray)).size) = False := eq_false (Nat.not_lt.2 c71)
                   try have c71b3 := c71b2
                   try simp only [ByteArray.size_append, Hand.lit_size, List.length_cons, List.length_nil, Nat.zero_add, Nat.reduceAdd] at c71b3
                   replace H := Option.bind_eq_some_iff.mp H;obtain ⟨t513, A720, H⟩ := H;replace H : (if (((((⟨#[97, 99, 108, 32]⟩ : ByteArray) ++ t511) ++ (⟨#[32]⟩ : ByteArray)) ++ t512) ++ (x9_39 ++ (⟨#[32, 100, 101, 110, 121, 32]⟩ : ByteArray))).size + t513.size ≤ 9223372036854775807 then (if x3_3.length < 8796093022208 then (crossbuckref25_Topo.l2 kj39 (x3_3 ++ [(((((⟨#[97, 99, 108, 32]⟩ : ByteArray) ++ t511) ++ (⟨#[32]⟩ : ByteArray)) ++ t512) ++ (x9_39 ++ (⟨#[32, 100, 101, 110, 121, 32]⟩ : ByteArray))) ++ t513]) (wrap64 (x7_3 + 1)) l0_0 l0_1 l0_2) else (none)) else (none)) = some r := H;have A72 := Aside0.mk A720;clear A720
                   by_cases c73 : (((((⟨#[97, 99, 108, 32]⟩ : ByteArray) ++ t511) ++ (⟨#[32]⟩ : ByteArray)) ++ t512) ++ (x9_39 ++ (⟨#[32, 100, 101, 110, 121, 32]⟩ : ByteArray))).size + t513.size ≤ 9223372036854775807
                   ·rw [if_pos c73] at H
                    have c73b0 := eq_true c73;have c73b1 : decide ((((((⟨#[97, 99, 108, 32]⟩ : ByteArray) ++ t511) ++ (⟨#[32]⟩ : ByteArray)) ++ t512) ++ (x9_39 ++ (⟨#[32, 100, 101, 110, 121, 32]⟩ : ByteArray))).size + t513.size ≤ 9223372036854775807) = true := decide_eq_true c73
                    try have c73b2 : (9223372036854775807 < (((((⟨#[97, 99, 108, 32]⟩ : ByteArray) ++ t511) ++ (⟨#[32]⟩ : ByteArray)) ++ t512) ++ (x9_39 ++ (⟨#[32, 100, 101, 110, 121, 32]⟩ : ByteArray))).size + t513.size) = False := eq_false (Nat.not_lt.2 c73)
                    try have c73b3 := c73b2
                    try simp only [ByteArray.size_append, Hand.lit_size, List.length_cons, List.length_nil, Nat.zero_add, Nat.reduceAdd] at c73b3
                    by_cases c74 : x3_3.length < 8796093022208
                    ·rw [if_pos c74] at H
                     have LMc74 := Aside0.mk c74;clear c74;obtain ⟨y514, hy514⟩ : ∃ y_ : List ByteArray, y_ = (x3_3 ++ [(((((⟨#[97, 99, 108, 32]⟩ : ByteArray) ++ t511) ++ (⟨#[32]⟩ : ByteArray)) ++ t512) ++ (x9_39 ++ (⟨#[32, 100, 101, 110, 121, 32]⟩ : ByteArray))) ++ t513]) := ⟨_, rfl⟩
                     replace H : (crossbuckref25_Topo.l2 kj39 y514 (wrap64 (x7_3 + 1)) l0_0 l0_1 l0_2) = some r := by first | (rw [hy514]; with_reducible exact H) | (have H2_ := (Option.bind_some _ _).symm.trans H; rw [hy514]; with_reducible exact H2_) | (have H2_ := (Option.bind_some _ _).symm.trans H; with_reducible exact H2_) | with_reducible exact H | (rw [hy514]; exact H) | exact H
                     have Ny514 := Aside0.mk hy514;clear hy514;have H' := Aside0.mk H;clear H;have hnb75 := NB504_488.out;have hnc75 := NB488_504.out;have hcz76 := cz13 BK504.out
                     try go_wp2
                     replace HO_3 := Aside0.mk (Kd.R_drew HO_3.out);replace BK488 := Aside0.mk (blk_drew BK488.out);replace BK504 := Aside0.mk (blk_drew BK504.out);replace HB := Aside0.mk (below_drew1 HB.out)
                     refine start_ (n := 19) (S := fun w' => w'.cell? ⟨gb504, 0, none⟩ = some (.int .i64 ((rd_T130 l0_2 x7_3).f0)) ∧ w'.cell? ⟨gb504, 1, none⟩ = some (.int .i64 ((rd_T130 l0_2 x7_3).f1)) ∧ w'.cell? ⟨gb504, 2, none⟩ = some (.bool ((rd_T130 l0_2 x7_3).f2)) ∧ w'.cell? ⟨gb504, 3, none⟩ = some (.bool ((rd_T130 l0_2 x7_3).f3)) ∧ w'.cell? ⟨gb504, 4, none⟩ = some (.int .u32 ((rd_T130 l0_2 x7_3).f4.f0.f0)) ∧ w'.cell? ⟨gb504, 5, none⟩ = some (.int .i64 ((rd_T130 l0_2 x7_3).f4.f0.f1)) ∧ w'.cell? ⟨gb504, 6, none⟩ = some (.int .u32 ((rd_T130 l0_2 x7_3).f4.f1.f0)) ∧ w'.cell? ⟨gb504, 7, none⟩ = some (.int .i64 ((rd_T130 l0_2 x7_3).f4.f1.f1)) ∧ w'.cell? ⟨gb504, 8, none⟩ = some (.int .i64 ((rd_T130 l0_2 x7_3).f4.f2)) ∧ w'.cell? ⟨gb504, 9, none⟩ = some (.int .u16 ((rd_T130 l0_2 x7_3).f4.f3.f0)) ∧ w'.cell? ⟨gb504, 10, none⟩ = some (.int .u16 ((rd_T130 l0_2 x7_3).f4.f3.f1)) ∧ w'.cell? ⟨gb504, 11, none⟩ = some (.int .u16 ((rd_T130 l0_2 x7_3).f4.f4.f0)) ∧ w'.cell? ⟨gb504, 12, none⟩ = some (.int .u16 ((rd_T130 l0_2 x7_3).f4.f4.f1))) (ds := []) #[F,F,F,F,F,F,F,F,F,F,F,F,F,F,F,F,F,F,F] (by kernel_rfl) rfl rfl ⟨(blk_cell BK504.out 0).trans rfl, (blk_cell BK504.out 1).trans rfl, (blk_cell BK504.out 2).trans rfl, (blk_cell BK504.out 3).trans rfl, (blk_cell BK504.out 4).trans rfl, (blk_cell BK504.out 5).trans rfl, (blk_cell BK504.out 6).trans rfl, (blk_cell BK504.out 7).trans rfl, (blk_cell BK504.out 8).trans rfl, (blk_cell BK504.out 9).trans rfl, (blk_cell BK504.out 10).trans rfl, (blk_cell BK504.out 11).trans rfl, (blk_cell BK504.out 12).trans rfl⟩ (fun hHeld => ?_); refine with_tabW crossbuckref25_Topo.tab21 crossbuckref25_Topo.bits21 (fun HT_ HW_ => ?_)
                     generalize wc.drew = w77 at HO_3 BK488 BK504 HB hHeld ⊢
                     refine pu 0 (some 81) #[T,F,F,F,F,F,F,F,F,F,F,F,F,F,F,F,F,F,F] (any_of HT_.out (by kernel_rfl)) ?_
                     refine pu 1 (some 82) #[T,T,F,F,F,F,F,F,F,F,F,F,F,F,F,F,F,F,F] (any_of HT_.out (by kernel_rfl)) ?_
                     refine pu 6 (some 87) #[T,T,F,F,F,F,T,F,F,F,F,F,F,F,F,F,F,F,F] (any_of HT_.out (by kernel_rfl)) ?_
                     refine pu 10 (some 91) #[T,T,F,F,F,F,T,F,F,F,T,F,F,F,F,F,F,F,F] (any_of HT_.out (by kernel_rfl)) ?_
                     refine pu 12 (some 93) #[T,T,F,F,F,F,T,F,F,F,T,F,T,F,F,F,F,F,F] (any_of HT_.out (by kernel_rfl)) ?_
                     refine take_ (i := 2) (N := some 83) (v := ?_) (a' := ?_) #[T,T,T,F,F,F,T,F,F,F,T,F,T,F,F,F,F,F,F] rfl rfl (take_ofW HT_.out HW_.out (by kernel_rfl)) (fun _ _ _ h => h) (Or.inl ⟨by rfl, ?_⟩) hHeld ?_ ?_
                     rotate_left
                     ·rintro w' ⟨s0, s1, s2, s3, s4, s5, s6, s7, s8, s9, s10, s11, s12⟩
                      go_simp;with_reducible rfl
                     rotate_left;·simp only [Act.put, setIfInBounds_toArray, set_cons_zero, set_cons_succ, i64_w, i32_w];rfl
                     refine take_ (i := 7) (N := some 88) (v := ?_) (a' := ?_) #[T,T,T,F,F,F,T,T,F,F,T,F,T,F,F,F,F,F,F] rfl rfl (take_ofW HT_.out HW_.out (by kernel_rfl)) (fun _ _ _ h => h) (Or.inl ⟨by rfl, ?_⟩) hHeld ?_ ?_
                     rotate_left
                     ·rintro w' ⟨s0, s1, s2, s3, s4, s5, s6, s7, s8, s9, s10, s11, s12⟩
                      go_simp;with_reducible rfl
                     rotate_left;·simp only [Act.put, setIfInBounds_toArray, set_cons_zero, set_cons_succ, i64_w, i32_w];rfl
                     refine take_ (i := 13) (N := some 94) (v := ?_) (a' := ?_) #[T,T,T,F,F,F,T,T,F,F,T,F,T,T,F,F,F,F,F] rfl rfl (take_ofW HT_.out HW_.out (by kernel_rfl)) (fun _ _ _ h => h) (Or.inl ⟨by rfl, ?_⟩) hHeld ?_ ?_
                     rotate_left
                     ·rintro w' ⟨s0, s1, s2, s3, s4, s5, s6, s7, s8, s9, s10, s11, s12⟩
                      go_simp;with_reducible rfl
                     rotate_left;·simp only [Act.put, setIfInBounds_toArray, set_cons_zero, set_cons_succ, i64_w, i32_w];rfl
                     refine one_ (i := 3) (N := some 84) #[T,T,T,T,F,F,T,T,F,F,T,F,T,T,F,F,F,F,F] rfl rfl (one_of HT_.out (by kernel_rfl)) (by decide) (fun K hK => ?_)
                     refine goes_ Tryd.func78 (by kernel_rfl) rfl #[.int .i64 ((rd_T130 l0_2 x7_3).f0)] (by rfl) rfl rfl aok ?_
                     with_reducible refine (crossbuckref25_n.calls kj39 ((rd_T130 l0_2 x7_3).f0) t511 _ A66.out).mono ?_;rintro e w78 ⟨rfl, hb⟩;refine ⟨_, rfl, ?_⟩
                     replace HO_3 := Aside0.mk (Kd.R_below (rp HO_3) hb)
                     replace BK488 := Aside0.mk (bb BK488.out hb);replace BK504 := Aside0.mk (bb BK504.out hb)
                     replace HB := Aside0.mk (below_step (bel HB) hb)
                     (try clear hb);(try clear hb2);(try clear hk);(try clear hi)
                     refine hK.out _ _ ⟨(blk_cell BK504.out 0).trans rfl, (blk_cell BK504.out 1).trans rfl, (blk_cell BK504.out 2).trans rfl, (blk_cell BK504.out 3).trans rfl, (blk_cell BK504.out 4).trans rfl, (blk_cell BK504.out 5).trans rfl, (blk_cell BK504.out 6).trans rfl, (blk_cell BK504.out 7).trans rfl, (blk_cell BK504.out 8).trans rfl, (blk_cell BK504.out 9).trans rfl, (blk_cell BK504.out 10).trans rfl, (blk_cell BK504.out 11).trans rfl, (blk_cell BK504.out 12).trans rfl⟩ (fun hHeld => ?_)
                     clear hK K
                     refine nput ?_
                     refine pu 4 (some 85) #[T,T,T,T,T,F,T,T,F,F,T,F,T,T,F,F,F,F,F] (any_of HT_.out (by kernel_rfl)) ?_
                     refine pu 5 (some 86) #[T,T,T,T,T,T,T,T,F,F,T,F,T,T,F,F,F,F,F] (any_of HT_.out (by kernel_rfl)) ?_
                     refine one_ (i := 8) (N := some 89) #[T,T,T,T,T,T,T,T,T,F,T,F,T,T,F,F,F,F,F] rfl rfl (one_of HT_.out (by kernel_rfl)) (by decide) (fun K hK => ?_)
                     refine goes_ Tryd.func78 (by kernel_rfl) rfl #[.int .i64 ((rd_T130 l0_2 x7_3).f1)] (by rfl) rfl rfl aok ?_
                     with_reducible refine (crossbuckref25_n.calls kj39 ((rd_T130 l0_2 x7_3).f1) t512 _ A69.out).mono ?_;rintro e w79 ⟨rfl, hb⟩;refine ⟨_, rfl, ?_⟩
                     replace HO_3 := Aside0.mk (Kd.R_below (rp HO_3) hb)
                     replace BK488 := Aside0.mk (bb BK488.out hb);replace BK504 := Aside0.mk (bb BK504.out hb)
                     replace HB := Aside0.mk (below_step (bel HB) hb)
                     (try clear hb);(try clear hb2);(try clear hk);(try clear hi)
                     refine hK.out _ _ ⟨(blk_cell BK504.out 0).trans rfl, (blk_cell BK504.out 1).trans rfl, (blk_cell BK504.out 2).trans rfl, (blk_cell BK504.out 3).trans rfl, (blk_cell BK504.out 4).trans rfl, (blk_cell BK504.out 5).trans rfl, (blk_cell BK504.out 6).trans rfl, (blk_cell BK504.out 7).trans rfl, (blk_cell BK504.out 8).trans rfl, (blk_cell BK504.out 9).trans rfl, (blk_cell BK504.out 10).trans rfl, (blk_cell BK504.out 11).trans rfl, (blk_cell BK504.out 12).trans rfl⟩ (fun hHeld => ?_)
                     clear hK K
                     refine nput ?_
                     refine pu 9 (some 90) #[T,T,T,T,T,T,T,T,T,T,T,F,T,T,F,F,F,F,F] (any_of HT_.out (by kernel_rfl)) ?_
                     refine pu 11 (some 92) #[T,T,T,T,T,T,T,T,T,T,T,T,T,T,F,F,F,F,F] (any_of HT_.out (by kernel_rfl)) ?_
                     refine one_ (i := 14) (N := some 95) #[T,T,T,T,T,T,T,T,T,T,T,T,T,T,T,F,F,F,F] rfl rfl (one_of HT_.out (by kernel_rfl)) (by decide) (fun K hK => ?_)
                     refine goes_ Tryd.func67 (by kernel_rfl) rfl #[.agg #[.int .u32 ((rd_T130 l0_2 x7_3).f4.f0.f0), .int .i64 ((rd_T130 l0_2 x7_3).f4.f0.f1), .int .u32 ((rd_T130 l0_2 x7_3).f4.f1.f0), .int .i64 ((rd_T130 l0_2 x7_3).f4.f1.f1), .int .i64 ((rd_T130 l0_2 x7_3).f4.f2), .int .u16 ((rd_T130 l0_2 x7_3).f4.f3.f0), .int .u16 ((rd_T130 l0_2 x7_3).f4.f3.f1), .int .u16 ((rd_T130 l0_2 x7_3).f4.f4.f0), .int .u16 ((rd_T130 l0_2 x7_3).f4.f4.f1)]] (by rfl) rfl rfl aok ?_
                     with_reducible refine (crossbuckref04_Print.calls kj39 ((rd_T130 l0_2 x7_3).f4.f0.f0) ((rd_T130 l0_2 x7_3).f4.f0.f1) ((rd_T130 l0_2 x7_3).f4.f1.f0) ((rd_T130 l0_2 x7_3).f4.f1.f1) ((rd_T130 l0_2 x7_3).f4.f2) ((rd_T130 l0_2 x7_3).f4.f3.f0) ((rd_T130 l0_2 x7_3).f4.f3.f1) ((rd_T130 l0_2 x7_3).f4.f4.f0) ((rd_T130 l0_2 x7_3).f4.f4.f1) t513 _ A72.out).mono ?_;rintro e w80 ⟨rfl, hb⟩;refine ⟨_, rfl, ?_⟩
                     replace HO_3 := Aside0.mk (Kd.R_below (rp HO_3) hb)
                     replace BK488 := Aside0.mk (bb BK488.out hb);replace BK504 := Aside0.mk (bb BK504.out hb)
                     replace HB := Aside0.mk (below_step (bel HB) hb)
                     (try clear hb);(try clear hb2);(try clear hk);(try clear hi)
                     refine hK.out _ _ ⟨(blk_cell BK504.out 0).trans rfl, (blk_cell BK504.out 1).trans rfl, (blk_cell BK504.out 2).trans rfl, (blk_cell BK504.out 3).trans rfl, (blk_cell BK504.out 4).trans rfl, (blk_cell BK504.out 5).trans rfl, (blk_cell BK504.out 6).trans rfl, (blk_cell BK504.out 7).trans rfl, (blk_cell BK504.out 8).trans rfl, (blk_cell BK504.out 9).trans rfl, (blk_cell BK504.out 10).trans rfl, (blk_cell BK504.out 11).trans rfl, (blk_cell BK504.out 12).trans rfl⟩ (fun hHeld => ?_)
                     clear hK K
                     refine nput ?_
                     refine pu 15 (some 96) #[T,T,T,T,T,T,T,T,T,T,T,T,T,T,T,T,F,F,F] (any_of HT_.out (by kernel_rfl)) ?_
                     refine one_ (i := 16) (N := some 97) #[T,T,T,T,T,T,T,T,T,T,T,T,T,T,T,T,T,F,F] rfl rfl (one_of HT_.out (by kernel_rfl)) (by decide) (fun K hK => ?_)
                     refine value_ (w1 := ?_) (v := ?_) (by rfl) rfl ?_ ?_
                     rotate_left 2
                     ·go_simp
                      constructor
                      ·rfl
                      ·rfl
                     refine hK.out _ _ ⟨(blk_cell (blk_alloc BK504.out _) 0).trans rfl, (blk_cell (blk_alloc BK504.out _) 1).trans rfl, (blk_cell (blk_alloc BK504.out _) 2).trans rfl, (blk_cell (blk_alloc BK504.out _) 3).trans rfl, (blk_cell (blk_alloc BK504.out _) 4).trans rfl, (blk_cell (blk_alloc BK504.out _) 5).trans rfl, (blk_cell (blk_alloc BK504.out _) 6).trans rfl, (blk_cell (blk_alloc BK504.out _) 7).trans rfl, (blk_cell (blk_alloc BK504.out _) 8).trans rfl, (blk_cell (blk_alloc BK504.out _) 9).trans rfl, (blk_cell (blk_alloc BK504.out _) 10).trans rfl, (blk_cell (blk_alloc BK504.out _) 11).trans rfl, (blk_cell (blk_alloc BK504.out _) 12).trans rfl⟩ (fun hHeld => ?_)
                     clear hK K
                     refine nput ?_
                     refine one_ (i := 17) (N := some 98) #[T,T,T,T,T,T,T,T,T,T,T,T,T,T,T,T,T,T,F] rfl rfl (one_of HT_.out (by kernel_rfl)) (by decide) (fun K hK => ?_)
                     refine Kd.R_append_step Kd.string (w0 := w) w.heap.size (by rfl) (.tmp 81) (.tmp 97) 30 9 (.string ⟨#[]⟩) 16 rfl Tryd.underlying30 info9 rfl (by decide) (by omega) u3 x3_3 ((((((⟨#[97, 99, 108, 32]⟩ : ByteArray) ++ t511) ++ (⟨#[32]⟩ : ByteArray)) ++ t512) ++ (x9_39 ++ (⟨#[32, 100, 101, 110, 121, 32]⟩ : ByteArray))) ++ t513) [.string ((((((⟨#[97, 99, 108, 32]⟩ : ByteArray) ++ t511) ++ (⟨#[32]⟩ : ByteArray)) ++ t512) ++ (x9_39 ++ (⟨#[32, 100, 101, 110, 121, 32]⟩ : ByteArray))) ++ t513)] (fun _ => True) (fun _ => False) rfl rfl ?aP (fun _ hk => hk.elim) ?aF ?aO ?aB ?aS ?aL ?_
                     (case aP => exact rfl)
                     (case aB => exact (bel HB))
                     (case aF => exact (fun _ _ => trivial))
                     (case aO => exact (rp HO_3))
                     (case aS => exact (below_size (bel HB)))
                     (case aL => have := LMc74.out; omega)
                     intro v515 w81 ho hb hg hat
                     rw [← Ny514.out] at ho;have HO516 := Aside0.mk (ho)
                     replace BK488 := Aside0.mk (blk_grown (g := gb488) (o := .cells #[.slice A0_0 l0_0.length c0_0, .slice A0_1 l0_1.length c0_1, .slice (some ad503) l0_2.length c0_2] 26 (0, 0)) bkp hg (Kd.R_ne HO_3.out BK488.out (by decide)))
                     replace BK504 := Aside0.mk (blk_grown (g := gb504) (o := .cells #[.int .i64 ((rd_T130 l0_2 x7_3).f0), .int .i64 ((rd_T130 l0_2 x7_3).f1), .bool ((rd_T130 l0_2 x7_3).f2), .bool ((rd_T130 l0_2 x7_3).f3), .int .u32 ((rd_T130 l0_2 x7_3).f4.f0.f0), .int .i64 ((rd_T130 l0_2 x7_3).f4.f0.f1), .int .u32 ((rd_T130 l0_2 x7_3).f4.f1.f0), .int .i64 ((rd_T130 l0_2 x7_3).f4.f1.f1), .int .i64 ((rd_T130 l0_2 x7_3).f4.f2), .int .u16 ((rd_T130 l0_2 x7_3).f4.f3.f0), .int .u16 ((rd_T130 l0_2 x7_3).f4.f3.f1), .int .u16 ((rd_T130 l0_2 x7_3).f4.f4.f0), .int .u16 ((rd_T130 l0_2 x7_3).f4.f4.f1)] 130 (0, 0)) bkp hg (Kd.R_ne HO_3.out BK504.out (by decide)))
                     replace HB := Aside0.mk (hb);clear HO_3;clear ho hb hg hat
                     refine hK.out _ _ ⟨(blk_cell BK504.out 0).trans rfl, (blk_cell BK504.out 1).trans rfl, (blk_cell BK504.out 2).trans rfl, (blk_cell BK504.out 3).trans rfl, (blk_cell BK504.out 4).trans rfl, (blk_cell BK504.out 5).trans rfl, (blk_cell BK504.out 6).trans rfl, (blk_cell BK504.out 7).trans rfl, (blk_cell BK504.out 8).trans rfl, (blk_cell BK504.out 9).trans rfl, (blk_cell BK504.out 10).trans rfl, (blk_cell BK504.out 11).trans rfl, (blk_cell BK504.out 12).trans rfl⟩ (fun hHeld => ?_)
                     clear hK K
                     refine nput ?_
                     refine pu 18 (some 3) #[T,T,T,T,T,T,T,T,T,T,T,T,T,T,T,T,T,T,T] (any_of HT_.out (by kernel_rfl)) ?_
                     refine done_ (done_of HT_.out (by kernel_rfl)) ?_
                     try go_wp2
                     go_roundg kj39
                     case measure => have := HK1.out; have := HK2.out; have := HK3.out; have := HJ39.out; omega
                     case rel => (try rw [← Nbq45.out]); exact ⟨(y514), (wrap64 (x7_3 + 1)), (by first | rfl | (simp; done) | (simp [*]; done)), H', ⟨by have := HK1.out; have := HK2.out; have := HK3.out; have := HJ39.out; omega⟩, ⟨rp HO516⟩, ⟨bkp⟩, ⟨by repeat (first | (with_reducible first | exact HB.out | apply below_alloc | apply pw_below_drewN | apply below_drew1 | refine below_set ?_ GE488.out | refine below_set ?_ GE504.out) | exact HB.out)⟩⟩
                    ·rw [if_neg c74] at H
                     exact absurd H (by simp)
                   ·rw [if_neg c73] at H
                    exact absurd H (by simp)
                  ·rw [if_neg c71] at H
                   exact absurd H (by simp)
                 ·rw [if_neg c70] at H
                  exact absurd H (by simp)
                ·rw [if_neg c68] at H
                 exact absurd H (by simp)
               ·rw [if_neg c67] at H
                exact absurd H (by simp)
              ·rw [if_neg c65] at H
               exact absurd H (by simp)
          ·rw [if_neg c39] at H
           exact absurd H (by simp)
         ·rw [if_neg c38] at H
          have c38b0 : decide (x7_3 < (l0_2.length : Int)) = false := decide_eq_false c38;clear c38;obtain rfl := Option.some.inj H;have hcz82 := cz3 BK488.out;go_wp2;go_ret
          exact ⟨_, by first | rfl | (simp [errW_none, errW_some] <;> rfl) | (simp [*, errW_none, errW_some] <;> rfl), by (with_reducible repeat (first | apply Kd.R_alloc | apply Kd.R_drewN | apply Kd.R_drew)); exact HO_3.out, bel HB⟩

end Go.Proofs.YtloclimoffhbhaaDoor.PSto
