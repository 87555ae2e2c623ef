-- Written by wip/myprint.py and wip/merge.py (this session's own programs); Lean checks it.
-- halved
import Derived.Test.YtloclimoffhbhaaDoorSq6
import Derived.Test.YtloclimoffhbhaaDoorPStox0
import Derived.Test.YtloclimoffhbhaaDoorPStox15
namespace Go.Proofs.YtloclimoffhbhaaDoor.PSto
open Go.RowKit Go.Proofs.YtloclimoffhbhaaDoorW.PrintWords Go.Proofs.YtloclimoffhbhaaDoorW.PrintLast Go.Proofs.YtloclimoffhbhaaDoorW.PrintMore Go.Proofs.YtloclimoffhbhaaDoorW.PrintSq List
attribute [local go_sem] max2_int min2_int max_two min_two max_three min_three max_four min_four   -- for this text's walks alone
set_option linter.unusedVariables false
set_option linter.unusedSimpArgs false

attribute [local go_sem high] eqA130 eqA133
/-! ### crossbucklaw25_sameTopo: function 25 -/
mutual
def crossbucklaw25_sameTopo.j0 : Nat → Bool → List Int → List (S133) → List (S130) → List Int → List (S133) → List (S130) → Option (Bool)
 | 0, _, _, _, _, _, _, _ => none
 | k + 1, x32, x518000, x518001, x518002, x519000, x519001, x519002 => if x32 = true then (some false) else (crossbucklaw25_sameTopo.l0 k (x518000.length : Int) 0 x518000 x518001 x518002 x519000 x519001 x519002)
def crossbucklaw25_sameTopo.l0 : Nat → Int → Int → List Int → List (S133) → List (S130) → List Int → List (S133) → List (S130) → Option (Bool)
 | 0, _, _, _, _, _, _, _, _ => none
 | k + 1, x35, x36, x518000, x518001, x518002, x519000, x519001, x519002 => if x36 < x35 then (if 0 ≤ x36 then (if x36 < (x518000.length : Int) then (if x36 < (x519000.length : Int) then (if (rd x518000 x36) = (rd x519000 x36) then (crossbucklaw25_sameTopo.l0 k x35 (wrap64 (x36 + 1)) x518000 x518001 x518002 x519000 x519001 x519002) else (some false)) else (none)) else (none)) else (none)) else (crossbucklaw25_sameTopo.l1 k (x518001.length : Int) 0 x518000 x518001 x518002 x519000 x519001 x519002)
def crossbucklaw25_sameTopo.l1 : Nat → Int → Int → List Int → List (S133) → List (S130) → List Int → List (S133) → List (S130) → Option (Bool)
 | 0, _, _, _, _, _, _, _, _ => none
 | k + 1, x53, x54, x518000, x518001, x518002, x519000, x519001, x519002 => if x54 < x53 then (if 0 ≤ x54 then (if x54 < (x518001.length : Int) then (if x54 < (x519001.length : Int) then (if (!(((rd_T133 x518001 x54).f0) == ((rd_T133 x519001 x54).f0)) || (!(((rd_T133 x518001 x54).f1) == ((rd_T133 x519001 x54).f1)) || (!(((rd_T133 x518001 x54).f2) == ((rd_T133 x519001 x54).f2)) || (!(((rd_T133 x518001 x54).f3) == ((rd_T133 x519001 x54).f3)))))) = true then (some false) else (crossbucklaw25_sameTopo.l1 k x53 (wrap64 (x54 + 1)) x518000 x518001 x518002 x519000 x519001 x519002)) else (none)) else (none)) else (none)) else (crossbucklaw25_sameTopo.l2 k (x518002.length : Int) 0 x518000 x518001 x518002 x519000 x519001 x519002)
def crossbucklaw25_sameTopo.l2 : Nat → Int → Int → List Int → List (S133) → List (S130) → List Int → List (S133) → List (S130) → Option (Bool)
 | 0, _, _, _, _, _, _, _, _ => none
 | k + 1, x71, x72, x518000, x518001, x518002, x519000, x519001, x519002 => if x72 < x71 then (if 0 ≤ x72 then (if x72 < (x518002.length : Int) then (if x72 < (x519002.length : Int) then (if (!(((rd_T130 x518002 x72).f0) == ((rd_T130 x519002 x72).f0)) || (!(((rd_T130 x518002 x72).f1) == ((rd_T130 x519002 x72).f1)) || (!(((rd_T130 x518002 x72).f2) == ((rd_T130 x519002 x72).f2)) || (!(((rd_T130 x518002 x72).f3) == ((rd_T130 x519002 x72).f3)) || (((!(((rd_T130 x518002 x72).f4.f0.f0) == ((rd_T130 x519002 x72).f4.f0.f0)) || (!(((rd_T130 x518002 x72).f4.f0.f1) == ((rd_T130 x519002 x72).f4.f0.f1)))) || ((!(((rd_T130 x518002 x72).f4.f1.f0) == ((rd_T130 x519002 x72).f4.f1.f0)) || (!(((rd_T130 x518002 x72).f4.f1.f1) == ((rd_T130 x519002 x72).f4.f1.f1)))) || (!(((rd_T130 x518002 x72).f4.f2) == ((rd_T130 x519002 x72).f4.f2)) || ((!(((rd_T130 x518002 x72).f4.f3.f0) == ((rd_T130 x519002 x72).f4.f3.f0)) || (!(((rd_T130 x518002 x72).f4.f3.f1) == ((rd_T130 x519002 x72).f4.f3.f1)))) || ((!(((rd_T130 x518002 x72).f4.f4.f0) == ((rd_T130 x519002 x72).f4.f4.f0)) || (!(((rd_T130 x518002 x72).f4.f4.f1) == ((rd_T130 x519002 x72).f4.f4.f1)))))))))))))) = true then (some false) else (crossbucklaw25_sameTopo.l2 k x71 (wrap64 (x72 + 1)) x518000 x518001 x518002 x519000 x519001 x519002)) else (none)) else (none)) else (none)) else (some true)
end
def crossbucklaw25_sameTopo.f (k : Nat) (l0_0 : List Int) (l0_1 : List (S133)) (l0_2 : List (S130)) (l1_0 : List Int) (l1_1 : List (S133)) (l1_2 : List (S130)) : Option (Bool) := if (l0_0.length : Int) = (l1_0.length : Int) then (if (l0_1.length : Int) = (l1_1.length : Int) then (crossbucklaw25_sameTopo.j0 k ((l0_2.length : Int) != (l1_2.length : Int)) l0_0 l0_1 l0_2 l1_0 l1_1 l1_2) else (crossbucklaw25_sameTopo.j0 k true l0_0 l0_1 l0_2 l1_0 l1_1 l1_2)) else (crossbucklaw25_sameTopo.j0 k true l0_0 l0_1 l0_2 l1_0 l1_1 l1_2)
set_option maxHeartbeats 8000000 in
set_option maxRecDepth 100000 in
theorem crossbucklaw25_sameTopo.calls (k : Nat) (A0_0 : Option Addr) (c0_0 : Nat) (l0_0 : List Int) (A0_1 : Option Addr) (c0_1 : Nat) (l0_1 : List (S133)) (A0_2 : Option Addr) (c0_2 : Nat) (l0_2 : List (S130)) (A1_0 : Option Addr) (c1_0 : Nat) (l1_0 : List Int) (A1_1 : Option Addr) (c1_1 : Nat) (l1_1 : List (S133)) (A1_2 : Option Addr) (c1_2 : Nat) (l1_2 : List (S130)) (r : Bool) (w : World) (hr0_0 : Kd.C (Kd.int .i64) w A0_0 l0_0.length l0_0) (hc0_0 : l0_0.length ≤ c0_0) (hr0_1 : Kd.C k133 w A0_1 l0_1.length l0_1) (hc0_1 : l0_1.length ≤ c0_1) (hr0_2 : Kd.C k130 w A0_2 l0_2.length l0_2) (hc0_2 : l0_2.length ≤ c0_2) (hr1_0 : Kd.C (Kd.int .i64) w A1_0 l1_0.length l1_0) (hc1_0 : l1_0.length ≤ c1_0) (hr1_1 : Kd.C k133 w A1_1 l1_1.length l1_1) (hc1_1 : l1_1.length ≤ c1_1) (hr1_2 : Kd.C k130 w A1_2 l1_2.length l1_2) (hc1_2 : l1_2.length ≤ c1_2) (h : crossbucklaw25_sameTopo.f k l0_0 l0_1 l0_2 l1_0 l1_1 l1_2 = some r) :
  Calls Tryd.prog 25 #[.agg #[.slice A0_0 l0_0.length c0_0, .slice A0_1 l0_1.length c0_1, .slice A0_2 l0_2.length c0_2], .agg #[.slice A1_0 l1_0.length c1_0, .slice A1_1 l1_1.length c1_1, .slice A1_2 l1_2.length c1_2]] w fun e w' => e = .returned (.bool r) ∧ Below w.heap.size w w' := by
 have hu26 := Tryd.underlying26;have hu133 := Tryd.underlying133;have hu130 := Tryd.underlying130;have HR0_0 := Aside0.mk hr0_0;have HC0_0 := Aside0.mk hc0_0;clear hr0_0 hc0_0;have HR0_1 := Aside0.mk hr0_1;have HC0_1 := Aside0.mk hc0_1;clear hr0_1 hc0_1;have HR0_2 := Aside0.mk hr0_2;have HC0_2 := Aside0.mk hc0_2;clear hr0_2 hc0_2;have HR1_0 := Aside0.mk hr1_0;have HC1_0 := Aside0.mk hc1_0;clear hr1_0 hc1_0;have HR1_1 := Aside0.mk hr1_1;have HC1_1 := Aside0.mk hc1_1;clear hr1_1 hc1_1;have HR1_2 := Aside0.mk hr1_2;have HC1_2 := Aside0.mk hc1_2;clear hr1_2 hc1_2;have HB := Aside0.mk (Below.refl w.heap.size w);have H : (if (l0_0.length : Int) = (l1_0.length : Int) then (if (l0_1.length : Int) = (l1_1.length : Int) then (crossbucklaw25_sameTopo.j0 k ((l0_2.length : Int) != (l1_2.length : Int)) l0_0 l0_1 l0_2 l1_0 l1_1 l1_2) else (crossbucklaw25_sameTopo.j0 k true l0_0 l0_1 l0_2 l1_0 l1_1 l1_2)) else (crossbucklaw25_sameTopo.j0 k true l0_0 l0_1 l0_2 l1_0 l1_1 l1_2)) = some r := h;clear h;have HC3 := Aside0.mk H;clear H;go_enter Tryd.func25, Tryd.ntmps25
 go_upto_region 1 with (first | ((with_reducible refine gate_dst (N := 2) rfl ?_); (try (refine gate_guard (by rfl) ?_; dsimp only)); refine box_event rfl (N := 2) rfl (cs := #[.slice A0_0 l0_0.length c0_0, .slice A0_1 l0_1.length c0_1, .slice A0_2 l0_2.length c0_2]) (t := 26) gs ?_; intro gb517 hg w4 hbox hb; have n0_ := Aside0.mk (below_step (bel HB) hb); have n1_ := Aside0.mk (hbox); have n2_ := gew HB hg; have n3_ := gew HB hg; clear HB; have HB := n0_; have BK517 := n1_; have GW517 := n2_; have GE517 := n3_; clear n0_ n1_ n2_ n3_; clear hb hbox hg) | ((with_reducible refine gate_dst (N := 3) rfl ?_); (try (refine gate_guard (by rfl) ?_; dsimp only)); refine box_event rfl (N := 3) rfl (cs := #[.slice A1_0 l1_0.length c1_0, .slice A1_1 l1_1.length c1_1, .slice A1_2 l1_2.length c1_2]) (t := 26) gs ?_; intro gb518 hg w5 hbox hb; have n0_ := Aside0.mk (bb BK517.out hb); have n1_ := Aside0.mk (below_step (bel HB) hb); have n2_ := Aside0.mk (hbox); have n3_ := gew HB hg; have n4_ := gew HB hg; have n5_ := Aside0.mk ((ne1 BK517.out hg : gb517 ≠ gb518)); have n6_ := Aside0.mk ((ne2 BK517.out hg : gb518 ≠ gb517)); clear BK517; clear HB; have BK517 := n0_; have HB := n1_; have BK518 := n2_; have GW518 := n3_; have GE518 := n4_; have NB517_518 := n5_; have NB518_517 := n6_; clear n0_ n1_ n2_ n3_ n4_ n5_ n6_; clear hb hbox hg))
 repeat (go_quiet (first | ((with_reducible refine gate_dst (N := 2) rfl ?_); (try (refine gate_guard (by rfl) ?_; dsimp only)); refine box_event rfl (N := 2) rfl (cs := #[.slice A0_0 l0_0.length c0_0, .slice A0_1 l0_1.length c0_1, .slice A0_2 l0_2.length c0_2]) (t := 26) gs ?_; intro gb517 hg w4 hbox hb; have n0_ := Aside0.mk (below_step (bel HB) hb); have n1_ := Aside0.mk (hbox); have n2_ := gew HB hg; have n3_ := gew HB hg; clear HB; have HB := n0_; have BK517 := n1_; have GW517 := n2_; have GE517 := n3_; clear n0_ n1_ n2_ n3_; clear hb hbox hg) | ((with_reducible refine gate_dst (N := 3) rfl ?_); (try (refine gate_guard (by rfl) ?_; dsimp only)); refine box_event rfl (N := 3) rfl (cs := #[.slice A1_0 l1_0.length c1_0, .slice A1_1 l1_1.length c1_1, .slice A1_2 l1_2.length c1_2]) (t := 26) gs ?_; intro gb518 hg w5 hbox hb; have n0_ := Aside0.mk (bb BK517.out hb); have n1_ := Aside0.mk (below_step (bel HB) hb); have n2_ := Aside0.mk (hbox); have n3_ := gew HB hg; have n4_ := gew HB hg; have n5_ := Aside0.mk ((ne1 BK517.out hg : gb517 ≠ gb518)); have n6_ := Aside0.mk ((ne2 BK517.out hg : gb518 ≠ gb517)); clear BK517; clear HB; have BK517 := n0_; have HB := n1_; have BK518 := n2_; have GW518 := n3_; have GE518 := n4_; have NB517_518 := n5_; have NB518_517 := n6_; clear n0_ n1_ n2_ n3_ n4_ n5_ n6_; clear hb hbox hg)); go_upto_region 1 with (first | ((with_reducible refine gate_dst (N := 2) rfl ?_); (try (refine gate_guard (by rfl) ?_; dsimp only)); refine box_event rfl (N := 2) rfl (cs := #[.slice A0_0 l0_0.length c0_0, .slice A0_1 l0_1.length c0_1, .slice A0_2 l0_2.length c0_2]) (t := 26) gs ?_; intro gb517 hg w4 hbox hb; have n0_ := Aside0.mk (below_step (bel HB) hb); have n1_ := Aside0.mk (hbox); have n2_ := gew HB hg; have n3_ := gew HB hg; clear HB; have HB := n0_; have BK517 := n1_; have GW517 := n2_; have GE517 := n3_; clear n0_ n1_ n2_ n3_; clear hb hbox hg) | ((with_reducible refine gate_dst (N := 3) rfl ?_); (try (refine gate_guard (by rfl) ?_; dsimp only)); refine box_event rfl (N := 3) rfl (cs := #[.slice A1_0 l1_0.length c1_0, .slice A1_1 l1_1.length c1_1, .slice A1_2 l1_2.length c1_2]) (t := 26) gs ?_; intro gb518 hg w5 hbox hb; have n0_ := Aside0.mk (bb BK517.out hb); have n1_ := Aside0.mk (below_step (bel HB) hb); have n2_ := Aside0.mk (hbox); have n3_ := gew HB hg; have n4_ := gew HB hg; have n5_ := Aside0.mk ((ne1 BK517.out hg : gb517 ≠ gb518)); have n6_ := Aside0.mk ((ne2 BK517.out hg : gb518 ≠ gb517)); clear BK517; clear HB; have BK517 := n0_; have HB := n1_; have BK518 := n2_; have GW518 := n3_; have GE518 := n4_; have NB517_518 := n5_; have NB518_517 := n6_; clear n0_ n1_ n2_ n3_ n4_ n5_ n6_; clear hb hbox hg)))
 (try simp only [Act.put, setIfInBounds_toArray, set_cons_zero, set_cons_succ])
 go_cut [32] (fun v32 wc => ∃ (kq : Nat) (x32_2 : Bool), v32 = .bool x32_2 ∧ Aside0 (crossbucklaw25_sameTopo.j0 kq x32_2 l0_0 l0_1 l0_2 l1_0 l1_1 l1_2 = some r) ∧ Aside0 (kq ≤ k) ∧ Aside0 (wc.heap[gb517]? = some (.cells #[(.slice A0_0 l0_0.length c0_0), (.slice A0_1 l0_1.length c0_1), (.slice A0_2 l0_2.length c0_2)] 26 (0, 0))) ∧ Aside0 (wc.heap[gb518]? = some (.cells #[(.slice A1_0 l1_0.length c1_0), (.slice A1_1 l1_1.length c1_1), (.slice A1_2 l1_2.length c1_2)] 26 (0, 0))) ∧ Aside0 (Below w.heap.size w wc))
 case first =>
  have H := HC3.out;clear HC3
  by_cases c6 : (l0_0.length : Int) = (l1_0.length : Int)
  ·rw [if_pos c6] at H
   have c6b0 : ((l0_0.length : Int) == (l1_0.length : Int)) = true := beq_iff_eq.mpr c6;have c6b1 : ((l0_0.length : Int) != (l1_0.length : Int)) = false := bne_eq_false_iff_eq.mpr c6
   have c6b2 : (l0_0.length == l1_0.length) = true := by first | simpa using c6 | (simp at c6 ⊢; omega)
   clear c6;(first | rw [c6b0] | (simp only [i64_w, i32_w]; rw [c6b0]) | skip)
   by_cases c7 : (l0_1.length : Int) = (l1_1.length : Int)
   ·rw [if_pos c7] at H
    have c7b0 : ((l0_1.length : Int) == (l1_1.length : Int)) = true := beq_iff_eq.mpr c7;have c7b1 : ((l0_1.length : Int) != (l1_1.length : Int)) = false := bne_eq_false_iff_eq.mpr c7
    have c7b2 : (l0_1.length == l1_1.length) = true := by first | simpa using c7 | (simp at c7 ⊢; omega)
    clear c7;have H' := Aside0.mk H;clear H;have hnb8 := NB517_518.out;have hnc8 := NB518_517.out;have hcz9 := cz3 BK517.out;have hcz10 := cz3 BK518.out;go_wp2
    repeat (go_quiet (fail); try go_wp2)
    go_meet
    case rel => exact ⟨_, (((l0_2.length : Int) != (l1_2.length : Int))), (by first | rfl | (simp; done) | (simp [*]; done)), H', ⟨by first | omega | exact Nat.le_refl _⟩, ⟨bkp⟩, ⟨bkp⟩, ⟨by repeat (first | (with_reducible first | exact HB.out | apply below_alloc | apply pw_below_drewN | apply below_drew1 | refine below_set ?_ GE517.out | refine below_set ?_ GE518.out) | exact HB.out)⟩⟩
   ·rw [if_neg c7] at H
    have c7b0 : ((l0_1.length : Int) == (l1_1.length : Int)) = false := beq_eq_false_iff_ne.mpr c7;have c7b1 : ((l0_1.length : Int) != (l1_1.length : Int)) = true := bne_iff_ne.mpr c7
    have c7b2 : (l0_1.length == l1_1.length) = false := by first | simpa using c7 | (simp at c7 ⊢; omega)
    have H' := Aside0.mk H;clear H;have hnb11 := NB517_518.out;have hnc11 := NB518_517.out;have hcz12 := cz3 BK517.out;have hcz13 := cz3 BK518.out;go_wp2
    repeat (go_quiet (fail); try go_wp2)
    go_meet
    case rel => exact ⟨_, (true), (by first | rfl | (simp; done) | (simp [*]; done)), H', ⟨by first | omega | exact Nat.le_refl _⟩, ⟨bkp⟩, ⟨bkp⟩, ⟨by repeat (first | (with_reducible first | exact HB.out | apply below_alloc | apply pw_below_drewN | apply below_drew1 | refine below_set ?_ GE517.out | refine below_set ?_ GE518.out) | exact HB.out)⟩⟩
  ·rw [if_neg c6] at H
   have c6b0 : ((l0_0.length : Int) == (l1_0.length : Int)) = false := beq_eq_false_iff_ne.mpr c6;have c6b1 : ((l0_0.length : Int) != (l1_0.length : Int)) = true := bne_iff_ne.mpr c6
   have c6b2 : (l0_0.length == l1_0.length) = false := by first | simpa using c6 | (simp at c6 ⊢; omega)
   (first | rw [c6b0] | (simp only [i64_w, i32_w]; rw [c6b0]) | skip);have H' := Aside0.mk H;clear H;have hnb14 := NB517_518.out;have hnc14 := NB518_517.out;have hcz15 := cz3 BK517.out;have hcz16 := cz3 BK518.out;go_wp2
   repeat (go_quiet (fail); try go_wp2)
   go_meet
   case rel => exact ⟨_, (true), (by first | rfl | (simp; done) | (simp [*]; done)), H', ⟨by first | omega | exact Nat.le_refl _⟩, ⟨bkp⟩, ⟨bkp⟩, ⟨by repeat (first | (with_reducible first | exact HB.out | apply below_alloc | apply pw_below_drewN | apply below_drew1 | refine below_set ?_ GE517.out | refine below_set ?_ GE518.out) | exact HB.out)⟩⟩
 case rest =>
  clear HC3
  try clear c1
  try clear c2
  try clear p2
  try clear c6
  try clear c6b0
  try clear c6b1
  try clear c6b2
  try clear c7
  try clear c7b0
  try clear c7b1
  try clear c7b2
  try clear c8
  try clear c11
  try clear c14
  try clear hcz10
  try clear hcz12
  try clear hcz13
  try clear hcz15
  try clear hcz16
  try clear hcz9
  obtain ⟨kq, x32_2, rfl, HA, HJ2, BK517, BK518, HB⟩ := hcut
  cases kq with
  | zero => exact absurd HA.out (by simp [crossbucklaw25_sameTopo.j0])
  | succ kj2 =>
   have H := HA.out;clear HA;simp only [crossbucklaw25_sameTopo.j0] at H
   by_cases c17 : x32_2 = true
   ·subst c17
    have H1 : (some false) = some r := by rw [if_pos rfl] at H; exact H
    clear H;have H := H1;clear H1;obtain rfl := Option.some.inj H;go_wp2
    repeat (go_quiet (fail); try go_wp2)
    go_ret
    exact ⟨fin, bel HB⟩
   ·replace c17 := Bool.eq_false_iff.mpr c17
    subst c17
    have H1 : (crossbucklaw25_sameTopo.l0 kj2 (l0_0.length : Int) 0 l0_0 l0_1 l0_2 l1_0 l1_1 l1_2) = some r := by rw [if_neg (show ¬ (false = true) by decide)] at H; exact H
    clear H;have H := H1;clear H1;have H' := Aside0.mk H;clear H;have hnb18 := NB517_518.out;have hnc18 := NB518_517.out;have hcz19 := cz3 BK517.out;go_wp2
    repeat (go_quiet (fail); try go_wp2)
    go_loopg [36] kj2 (fun kq v36 w' => ∃ (x36_2 : Int), v36 = .int .i64 x36_2 ∧ Aside0 (crossbucklaw25_sameTopo.l0 kq (l0_0.length : Int) x36_2 l0_0 l0_1 l0_2 l1_0 l1_1 l1_2 = some r) ∧ Aside0 (kq ≤ kj2) ∧ Aside0 (w'.heap[gb517]? = some (.cells #[(.slice A0_0 l0_0.length c0_0), (.slice A0_1 l0_1.length c0_1), (.slice A0_2 l0_2.length c0_2)] 26 (0, 0))) ∧ Aside0 (w'.heap[gb518]? = some (.cells #[(.slice A1_0 l1_0.length c1_0), (.slice A1_1 l1_1.length c1_1), (.slice A1_2 l1_2.length c1_2)] 26 (0, 0))) ∧ Aside0 (Below w.heap.size w w'))
    case atStart => exact ⟨(0), (by first | rfl | (simp; done) | (simp [*]; done)), H', ⟨Nat.le_refl _⟩, ⟨bkp⟩, ⟨bkp⟩, ⟨by repeat (first | (with_reducible first | exact HB.out | apply below_alloc | apply pw_below_drewN | apply below_drew1 | refine below_set ?_ GE517.out | refine below_set ?_ GE518.out) | exact HB.out)⟩⟩
    case round =>
     clear H'
     try clear c1
     try clear c2
     try clear p2
     try clear c6
     try clear c6b0
     try clear c6b1
     try clear c6b2
     try clear c7
     try clear c7b0
     try clear c7b1
     try clear c7b2
     try clear c8
     try clear c11
     try clear c14
     try clear c17
     try clear c18
     try clear hcz10
     try clear hcz12
     try clear hcz13
     try clear hcz15
     try clear hcz16
     try clear hcz19
     try clear hcz9
     try clear p2
     obtain ⟨x36_2, rfl, HA, HK2, BK517, BK518, HB⟩ := hrel
     cases gk with
     | zero => exact absurd HA.out (by simp [crossbucklaw25_sameTopo.l0])
     | succ k2 =>
      have H := HA.out;clear HA;simp only [crossbucklaw25_sameTopo.l0] at H
      by_cases c20 : x36_2 < (l0_0.length : Int)
      ·rw [if_pos c20] at H
       have c20b0 : decide (x36_2 < (l0_0.length : Int)) = true := decide_eq_true c20;clear c20
       by_cases c21 : 0 ≤ x36_2
       ·rw [if_pos c21] at H
        have c21b0 : decide (0 ≤ x36_2) = true := decide_eq_true c21;clear c21
        by_cases c22 : x36_2 < (l0_0.length : Int)
        ·rw [if_pos c22] at H
         have c22b0 : decide (x36_2 < (l0_0.length : Int)) = true := decide_eq_true c22;clear c22
         by_cases c23 : x36_2 < (l1_0.length : Int)
         ·rw [if_pos c23] at H
          have c23b0 : decide (x36_2 < (l1_0.length : Int)) = true := decide_eq_true c23;clear c23
          by_cases c24 : (rd l0_0 x36_2) = (rd l1_0 x36_2)
          ·rw [if_pos c24] at H
           have c24b0 : ((rd l0_0 x36_2) == (rd l1_0 x36_2)) = true := beq_iff_eq.mpr c24;have c24b1 : ((rd l0_0 x36_2) != (rd l1_0 x36_2)) = false := bne_eq_false_iff_eq.mpr c24;clear c24;have H' := Aside0.mk H;clear H;have hnb25 := NB517_518.out;have hnc25 := NB518_517.out;have hcz26 := cz3 BK517.out
           have p519 : 0 ≤ (x36_2 : Int) := of_decide_eq_true (by first | (with_reducible assumption) | assumption)
           have q519 : x36_2 < (l0_0.length : Int) := of_decide_eq_true (by first | (with_reducible assumption) | assumption)
           obtain ⟨ad519, e519, hx519_0⟩ := Kd.at_int HR0_0.out x36_2 p519 q519
           cases e519
           replace hx519_0 := mv HB hx519_0;replace p519 := eq_true p519;replace q519 := eq_true q519;have hcz27 := cz3 BK518.out
           have p520 : 0 ≤ (x36_2 : Int) := of_decide_eq_true (by first | (with_reducible assumption) | assumption)
           have q520 : x36_2 < (l1_0.length : Int) := of_decide_eq_true (by first | (with_reducible assumption) | assumption)
           obtain ⟨ad520, e520, hx520_0⟩ := Kd.at_int HR1_0.out x36_2 p520 q520
           cases e520
           replace hx520_0 := mv HB hx520_0;replace p520 := eq_true p520;replace q520 := eq_true q520;go_wp2
           repeat (go_quiet (fail); try go_wp2)
           go_roundg k2
           case measure => have := HJ2.out; have := HK2.out; omega
           case rel => exact ⟨(wrap64 (x36_2 + 1)), (by first | rfl | (simp; done) | (simp [*]; done)), H', ⟨by have := HJ2.out; have := HK2.out; omega⟩, ⟨bkp⟩, ⟨bkp⟩, ⟨by repeat (first | (with_reducible first | exact HB.out | apply below_alloc | apply pw_below_drewN | apply below_drew1 | refine below_set ?_ GE517.out | refine below_set ?_ GE518.out) | exact HB.out)⟩⟩
          ·rw [if_neg c24] at H
           have c24b0 : ((rd l0_0 x36_2) == (rd l1_0 x36_2)) = false := beq_eq_false_iff_ne.mpr c24;have c24b1 : ((rd l0_0 x36_2) != (rd l1_0 x36_2)) = true := bne_iff_ne.mpr c24;obtain rfl := Option.some.inj H;have hnb28 := NB517_518.out;have hnc28 := NB518_517.out;have hcz29 := cz3 BK517.out
           have p519 : 0 ≤ (x36_2 : Int) := of_decide_eq_true (by first | (with_reducible assumption) | assumption)
           have q519 : x36_2 < (l0_0.length : Int) := of_decide_eq_true (by first | (with_reducible assumption) | assumption)
           obtain ⟨ad519, e519, hx519_0⟩ := Kd.at_int HR0_0.out x36_2 p519 q519
           cases e519
           replace hx519_0 := mv HB hx519_0;replace p519 := eq_true p519;replace q519 := eq_true q519;have hcz30 := cz3 BK518.out
           have p520 : 0 ≤ (x36_2 : Int) := of_decide_eq_true (by first | (with_reducible assumption) | assumption)
           have q520 : x36_2 < (l1_0.length : Int) := of_decide_eq_true (by first | (with_reducible assumption) | assumption)
           obtain ⟨ad520, e520, hx520_0⟩ := Kd.at_int HR1_0.out x36_2 p520 q520
           cases e520
           replace hx520_0 := mv HB hx520_0;replace p520 := eq_true p520;replace q520 := eq_true q520;go_wp2
           repeat (go_quiet (fail); try go_wp2)
           go_ret
           exact ⟨fin, bel HB⟩
         ·rw [if_neg c23] at H
          exact absurd H (by simp)
        ·rw [if_neg c22] at H
         exact absurd H (by simp)
       ·rw [if_neg c21] at H
        exact absurd H (by simp)
      ·rw [if_neg c20] at H
       have c20b0 : decide (x36_2 < (l0_0.length : Int)) = false := decide_eq_false c20;clear c20;have H' := Aside0.mk H;clear H;have hnb31 := NB517_518.out;have hnc31 := NB518_517.out;have hcz32 := cz3 BK517.out;go_wp2
       repeat (go_quiet (fail); try go_wp2)
       go_loopg [54] k2 (fun kq v54 w' => ∃ (x54_3 : Int), v54 = .int .i64 x54_3 ∧ Aside0 (crossbucklaw25_sameTopo.l1 kq (l0_1.length : Int) x54_3 l0_0 l0_1 l0_2 l1_0 l1_1 l1_2 = some r) ∧ Aside0 (kq ≤ k2) ∧ Aside0 (w'.heap[gb517]? = some (.cells #[(.slice A0_0 l0_0.length c0_0), (.slice A0_1 l0_1.length c0_1), (.slice A0_2 l0_2.length c0_2)] 26 (0, 0))) ∧ Aside0 (w'.heap[gb518]? = some (.cells #[(.slice A1_0 l1_0.length c1_0), (.slice A1_1 l1_1.length c1_1), (.slice A1_2 l1_2.length c1_2)] 26 (0, 0))) ∧ Aside0 (Below w.heap.size w w'))
       case atStart => exact ⟨(0), (by first | rfl | (simp; done) | (simp [*]; done)), H', ⟨Nat.le_refl _⟩, ⟨bkp⟩, ⟨bkp⟩, ⟨by repeat (first | (with_reducible first | exact HB.out | apply below_alloc | apply pw_below_drewN | apply below_drew1 | refine below_set ?_ GE517.out | refine below_set ?_ GE518.out) | exact HB.out)⟩⟩
       case round =>
        clear H'
        try clear c1
        try clear c2
        try clear p2
        try clear c3
        try clear p5
        try clear q5
        try clear hx5
        try clear c6
        try clear c6b0
        try clear c6b1
        try clear c6b2
        try clear p6
        try clear c7
        try clear c7b0
        try clear c7b1
        try clear c7b2
        try clear c8
        try clear c11
        try clear c14
        try clear c17
        try clear c18
        try clear c20
        try clear c20b0
        try clear c21
        try clear c21b0
        try clear c22
        try clear c22b0
        try clear c23
        try clear c23b0
        try clear c24
        try clear c24b0
        try clear c24b1
        try clear c25
        try clear c28
        try clear c31
        try clear hcz10
        try clear hcz12
        try clear hcz13
        try clear hcz15
        try clear hcz16
        try clear hcz19
        try clear hcz26
        try clear hcz27
        try clear hcz29
        try clear hcz30
        try clear hcz32
        try clear hcz9
        try clear hx519_0
        try clear hx520_0
        try clear p2
        try clear p519
        try clear p520
        try clear q519
        try clear q520
        obtain ⟨x54_3, rfl, HA, HK3, BK517, BK518, HB⟩ := hrel
        cases gk with
        | zero => exact absurd HA.out (by simp [crossbucklaw25_sameTopo.l1])
        | succ k3 =>
         have H := HA.out;clear HA;simp only [crossbucklaw25_sameTopo.l1] at H
         by_cases c33 : x54_3 < (l0_1.length : Int)
         ·rw [if_pos c33] at H
          have c33b0 : decide (x54_3 < (l0_1.length : Int)) = true := decide_eq_true c33;clear c33
          by_cases c34 : 0 ≤ x54_3
          ·rw [if_pos c34] at H
           have c34b0 : decide (0 ≤ x54_3) = true := decide_eq_true c34;clear c34
           by_cases c35 : x54_3 < (l0_1.length : Int)
           ·rw [if_pos c35] at H
            have c35b0 : decide (x54_3 < (l0_1.length : Int)) = true := decide_eq_true c35;clear c35
            by_cases c36 : x54_3 < (l1_1.length : Int)
            ·rw [if_pos c36] at H
             have c36b0 : decide (x54_3 < (l1_1.length : Int)) = true := decide_eq_true c36;clear c36
             by_cases c37 : (!(((rd_T133 l0_1 x54_3).f0) == ((rd_T133 l1_1 x54_3).f0)) || (!(((rd_T133 l0_1 x54_3).f1) == ((rd_T133 l1_1 x54_3).f1)) || (!(((rd_T133 l0_1 x54_3).f2) == ((rd_T133 l1_1 x54_3).f2)) || (!(((rd_T133 l0_1 x54_3).f3) == ((rd_T133 l1_1 x54_3).f3)))))) = true
             ·rw [if_pos c37] at H
              have c37b0 : (!(((rd_T133 l0_1 x54_3).f0) == ((rd_T133 l1_1 x54_3).f0)) || (!(((rd_T133 l0_1 x54_3).f1) == ((rd_T133 l1_1 x54_3).f1)) || (!(((rd_T133 l0_1 x54_3).f2) == ((rd_T133 l1_1 x54_3).f2)) || (!(((rd_T133 l0_1 x54_3).f3) == ((rd_T133 l1_1 x54_3).f3)))))) = true := c37;clear c37;obtain rfl := Option.some.inj H;have hnb38 := NB517_518.out;have hnc38 := NB518_517.out;have hcz39 := cz3 BK517.out
              have p521 : 0 ≤ (x54_3 : Int) := of_decide_eq_true (by first | (with_reducible assumption) | assumption)
              have q521 : x54_3 < (l0_1.length : Int) := of_decide_eq_true (by first | (with_reducible assumption) | assumption)
              obtain ⟨ad521, e521, hx521_0, hx521_1, hx521_2, hx521_3⟩ := at_T133 HR0_1.out x54_3 p521 q521
              cases e521
              replace hx521_0 := mv HB hx521_0;replace hx521_1 := mv HB hx521_1;replace hx521_2 := mv HB hx521_2;replace hx521_3 := mv HB hx521_3;replace p521 := eq_true p521;replace q521 := eq_true q521;have hcz40 := cz3 BK518.out
              have p522 : 0 ≤ (x54_3 : Int) := of_decide_eq_true (by first | (with_reducible assumption) | assumption)
              have q522 : x54_3 < (l1_1.length : Int) := of_decide_eq_true (by first | (with_reducible assumption) | assumption)
              obtain ⟨ad522, e522, hx522_0, hx522_1, hx522_2, hx522_3⟩ := at_T133 HR1_1.out x54_3 p522 q522
              cases e522
              replace hx522_0 := mv HB hx522_0;replace hx522_1 := mv HB hx522_1;replace hx522_2 := mv HB hx522_2;replace hx522_3 := mv HB hx522_3;replace p522 := eq_true p522;replace q522 := eq_true q522;go_wp2
              repeat (go_quiet (fail); try go_wp2)
              go_ret
              exact ⟨fin, bel HB⟩
             ·rw [if_neg c37] at H
              have c37b0 : (!(((rd_T133 l0_1 x54_3).f0) == ((rd_T133 l1_1 x54_3).f0)) || (!(((rd_T133 l0_1 x54_3).f1) == ((rd_T133 l1_1 x54_3).f1)) || (!(((rd_T133 l0_1 x54_3).f2) == ((rd_T133 l1_1 x54_3).f2)) || (!(((rd_T133 l0_1 x54_3).f3) == ((rd_T133 l1_1 x54_3).f3)))))) = false := by simpa using c37
              clear c37;have H' := Aside0.mk H;clear H;have hnb41 := NB517_518.out;have hnc41 := NB518_517.out;have hcz42 := cz3 BK517.out
              have p521 : 0 ≤ (x54_3 : Int) := of_decide_eq_true (by first | (with_reducible assumption) | assumption)
              have q521 : x54_3 < (l0_1.length : Int) := of_decide_eq_true (by first | (with_reducible assumption) | assumption)
              obtain ⟨ad521, e521, hx521_0, hx521_1, hx521_2, hx521_3⟩ := at_T133 HR0_1.out x54_3 p521 q521
              cases e521
              replace hx521_0 := mv HB hx521_0;replace hx521_1 := mv HB hx521_1;replace hx521_2 := mv HB hx521_2;replace hx521_3 := mv HB hx521_3;replace p521 := eq_true p521;replace q521 := eq_true q521;have hcz43 := cz3 BK518.out
              have p522 : 0 ≤ (x54_3 : Int) := of_decide_eq_true (by first | (with_reducible assumption) | assumption)
              have q522 : x54_3 < (l1_1.length : Int) := of_decide_eq_true (by first | (with_reducible assumption) | assumption)
              obtain ⟨ad522, e522, hx522_0, hx522_1, hx522_2, hx522_3⟩ := at_T133 HR1_1.out x54_3 p522 q522
              cases e522
              replace hx522_0 := mv HB hx522_0;replace hx522_1 := mv HB hx522_1;replace hx522_2 := mv HB hx522_2;replace hx522_3 := mv HB hx522_3;replace p522 := eq_true p522;replace q522 := eq_true q522;go_wp2
              repeat (go_quiet (fail); try go_wp2)
              go_roundg k3
              case measure => have := HJ2.out; have := HK2.out; have := HK3.out; omega
              case rel => exact ⟨(wrap64 (x54_3 + 1)), (by first | rfl | (simp; done) | (simp [*]; done)), H', ⟨by have := HJ2.out; have := HK2.out; have := HK3.out; omega⟩, ⟨bkp⟩, ⟨bkp⟩, ⟨by repeat (first | (with_reducible first | exact HB.out | apply below_alloc | apply pw_below_drewN | apply below_drew1 | refine below_set ?_ GE517.out | refine below_set ?_ GE518.out) | exact HB.out)⟩⟩
            ·rw [if_neg c36] at H
             exact absurd H (by simp)
           ·rw [if_neg c35] at H
            exact absurd H (by simp)
          ·rw [if_neg c34] at H
           exact absurd H (by simp)
         ·rw [if_neg c33] at H
          have c33b0 : decide (x54_3 < (l0_1.length : Int)) = false := decide_eq_false c33;clear c33;have H' := Aside0.mk H;clear H;have hnb44 := NB517_518.out;have hnc44 := NB518_517.out;have hcz45 := cz3 BK517.out;go_wp2
          repeat (go_quiet (fail); try go_wp2)
          go_loopg [72] k3 (fun kq v72 w' => ∃ (x72_4 : Int), v72 = .int .i64 x72_4 ∧ Aside0 (crossbucklaw25_sameTopo.l2 kq (l0_2.length : Int) x72_4 l0_0 l0_1 l0_2 l1_0 l1_1 l1_2 = some r) ∧ Aside0 (kq ≤ k3) ∧ Aside0 (w'.heap[gb517]? = some (.cells #[(.slice A0_0 l0_0.length c0_0), (.slice A0_1 l0_1.length c0_1), (.slice A0_2 l0_2.length c0_2)] 26 (0, 0))) ∧ Aside0 (w'.heap[gb518]? = some (.cells #[(.slice A1_0 l1_0.length c1_0), (.slice A1_1 l1_1.length c1_1), (.slice A1_2 l1_2.length c1_2)] 26 (0, 0))) ∧ Aside0 (Below w.heap.size w w'))
          case atStart => exact ⟨(0), (by first | rfl | (simp; done) | (simp [*]; done)), H', ⟨Nat.le_refl _⟩, ⟨bkp⟩, ⟨bkp⟩, ⟨by repeat (first | (with_reducible first | exact HB.out | apply below_alloc | apply pw_below_drewN | apply below_drew1 | refine below_set ?_ GE517.out | refine below_set ?_ GE518.out) | exact HB.out)⟩⟩
          case round =>
           clear H'
           try clear c1
           try clear c2
           try clear p2
           try clear c3
           try clear c4
           try clear p5
           try clear q5
           try clear hx5
           try clear c6
           try clear c6b0
           try clear c6b1
           try clear c6b2
           try clear p6
           try clear c7
           try clear c7b0
           try clear c7b1
           try clear c7b2
           try clear c8
           try clear c11
           try clear c14
           try clear c17
           try clear c18
           try clear c20
           try clear c20b0
           try clear c21
           try clear c21b0
           try clear c22
           try clear c22b0
           try clear c23
           try clear c23b0
           try clear c24
           try clear c24b0
           try clear c24b1
           try clear c25
           try clear c28
           try clear c31
           try clear c33
           try clear c33b0
           try clear c34
           try clear c34b0
           try clear c35
           try clear c35b0
           try clear c36
           try clear c36b0
           try clear c37
           try clear c37b0
           try clear c38
           try clear c41
           try clear c44
           try clear hcz10
           try clear hcz12
           try clear hcz13
           try clear hcz15
           try clear hcz16
           try clear hcz19
           try clear hcz26
           try clear hcz27
           try clear hcz29
           try clear hcz30
           try clear hcz32
           try clear hcz39
           try clear hcz40
           try clear hcz42
           try clear hcz43
           try clear hcz45
           try clear hcz9
           try clear hx519_0
           try clear hx520_0
           try clear hx521_0
           try clear hx521_1
           try clear hx521_2
           try clear hx521_3
           try clear hx522_0
           try clear hx522_1
           try clear hx522_2
           try clear hx522_3
           try clear p2
           try clear p5
           try clear p519
           try clear p520
           try clear p521
           try clear p522
           try clear p6
           try clear q5
           try clear q519
           try clear q520
           try clear q521
           try clear q522
           obtain ⟨x72_4, rfl, HA, HK4, BK517, BK518, HB⟩ := hrel
           cases gk with
           | zero => exact absurd HA.out (by simp [crossbucklaw25_sameTopo.l2])
           | succ k4 =>
            have H := HA.out;clear HA;simp only [crossbucklaw25_sameTopo.l2] at H
            by_cases c46 : x72_4 < (l0_2.length : Int)
            ·rw [if_pos c46] at H
             have c46b0 : decide (x72_4 < (l0_2.length : Int)) = true := decide_eq_true c46;clear c46
             by_cases c47 : 0 ≤ x72_4
             ·rw [if_pos c47] at H
              have c47b0 : decide (0 ≤ x72_4) = true := decide_eq_true c47;clear c47
              by_cases c48 : x72_4 < (l0_2.length : Int)
              ·rw [if_pos c48] at H
               have c48b0 : decide (x72_4 < (l0_2.length : Int)) = true := decide_eq_true c48;clear c48
               by_cases c49 : x72_4 < (l1_2.length : Int)
               ·rw [if_pos c49] at H
                have c49b0 : decide (x72_4 < (l1_2.length : Int)) = true := decide_eq_true c49;clear c49
                by_cases c50 : (!(((rd_T130 l0_2 x72_4).f0) == ((rd_T130 l1_2 x72_4).f0)) || (!(((rd_T130 l0_2 x72_4).f1) == ((rd_T130 l1_2 x72_4).f1)) || (!(((rd_T130 l0_2 x72_4).f2) == ((rd_T130 l1_2 x72_4).f2)) || (!(((rd_T130 l0_2 x72_4).f3) == ((rd_T130 l1_2 x72_4).f3)) || (((!(((rd_T130 l0_2 x72_4).f4.f0.f0) == ((rd_T130 l1_2 x72_4).f4.f0.f0)) || (!(((rd_T130 l0_2 x72_4).f4.f0.f1) == ((rd_T130 l1_2 x72_4).f4.f0.f1)))) || ((!(((rd_T130 l0_2 x72_4).f4.f1.f0) == ((rd_T130 l1_2 x72_4).f4.f1.f0)) || (!(((rd_T130 l0_2 x72_4).f4.f1.f1) == ((rd_T130 l1_2 x72_4).f4.f1.f1)))) || (!(((rd_T130 l0_2 x72_4).f4.f2) == ((rd_T130 l1_2 x72_4).f4.f2)) || ((!(((rd_T130 l0_2 x72_4).f4.f3.f0) == ((rd_T130 l1_2 x72_4).f4.f3.f0)) || (!(((rd_T130 l0_2 x72_4).f4.f3.f1) == ((rd_T130 l1_2 x72_4).f4.f3.f1)))) || ((!(((rd_T130 l0_2 x72_4).f4.f4.f0) == ((rd_T130 l1_2 x72_4).f4.f4.f0)) || (!(((rd_T130 l0_2 x72_4).f4.f4.f1) == ((rd_T130 l1_2 x72_4).f4.f4.f1)))))))))))))) = true
                ·rw [if_pos c50] at H
                 have c50b0 : (!(((rd_T130 l0_2 x72_4).f0) == ((rd_T130 l1_2 x72_4).f0)) || (!(((rd_T130 l0_2 x72_4).f1) == ((rd_T130 l1_2 x72_4).f1)) || (!(((rd_T130 l0_2 x72_4).f2) == ((rd_T130 l1_2 x72_4).f2)) || (!(((rd_T130 l0_2 x72_4).f3) == ((rd_T130 l1_2 x72_4).f3)) || (((!(((rd_T130 l0_2 x72_4).f4.f0.f0) == ((rd_T130 l1_2 x72_4).f4.f0.f0)) || (!(((rd_T130 l0_2 x72_4).f4.f0.f1) == ((rd_T130 l1_2 x72_4).f4.f0.f1)))) || ((!(((rd_T130 l0_2 x72_4).f4.f1.f0) == ((rd_T130 l1_2 x72_4).f4.f1.f0)) || (!(((rd_T130 l0_2 x72_4).f4.f1.f1) == ((rd_T130 l1_2 x72_4).f4.f1.f1)))) || (!(((rd_T130 l0_2 x72_4).f4.f2) == ((rd_T130 l1_2 x72_4).f4.f2)) || ((!(((rd_T130 l0_2 x72_4).f4.f3.f0) == ((rd_T130 l1_2 x72_4).f4.f3.f0)) || (!(((rd_T130 l0_2 x72_4).f4.f3.f1) == ((rd_T130 l1_2 x72_4).f4.f3.f1)))) || ((!(((rd_T130 l0_2 x72_4).f4.f4.f0) == ((rd_T130 l1_2 x72_4).f4.f4.f0)) || (!(((rd_T130 l0_2 x72_4).f4.f4.f1) == ((rd_T130 l1_2 x72_4).f4.f4.f1)))))))))))))) = true := c50;clear c50;obtain rfl := Option.some.inj H;have hnb51 := NB517_518.out;have hnc51 := NB518_517.out;have hcz52 := cz3 BK517.out
                 have p523 : 0 ≤ (x72_4 : Int) := of_decide_eq_true (by first | (with_reducible assumption) | assumption)
                 have q523 : x72_4 < (l0_2.length : Int) := of_decide_eq_true (by first | (with_reducible assumption) | assumption)
                 obtain ⟨ad523, e523, hx523_0, hx523_1, hx523_2, hx523_3, hx523_4, hx523_5, hx523_6, hx523_7, hx523_8, hx523_9, hx523_10, hx523_11, hx523_12⟩ := at_T130 HR0_2.out x72_4 p523 q523
                 cases e523
                 replace hx523_0 := mv HB hx523_0;replace hx523_1 := mv HB hx523_1;replace hx523_2 := mv HB hx523_2;replace hx523_3 := mv HB hx523_3;replace hx523_4 := mv HB hx523_4;replace hx523_5 := mv HB hx523_5;replace hx523_6 := mv HB hx523_6;replace hx523_7 := mv HB hx523_7;replace hx523_8 := mv HB hx523_8;replace hx523_9 := mv HB hx523_9;replace hx523_10 := mv HB hx523_10;replace hx523_11 := mv HB hx523_11;replace hx523_12 := mv HB hx523_12;replace p523 := eq_true p523;replace q523 := eq_true q523;have hcz53 := cz3 BK518.out
                 have p524 : 0 ≤ (x72_4 : Int) := of_decide_eq_true (by first | (with_reducible assumption) | assumption)
                 have q524 : x72_4 < (l1_2.length : Int) := of_decide_eq_true (by first | (with_reducible assumption) | assumption)
                 obtain ⟨ad524, e524, hx524_0, hx524_1, hx524_2, hx524_3, hx524_4, hx524_5, hx524_6, hx524_7, hx524_8, hx524_9, hx524_10, hx524_11, hx524_12⟩ := at_T130 HR1_2.out x72_4 p524 q524
                 cases e524
                 replace hx524_0 := mv HB hx524_0;replace hx524_1 := mv HB hx524_1;replace hx524_2 := mv HB hx524_2;replace hx524_3 := mv HB hx524_3;replace hx524_4 := mv HB hx524_4;replace hx524_5 := mv HB hx524_5;replace hx524_6 := mv HB hx524_6;replace hx524_7 := mv HB hx524_7;replace hx524_8 := mv HB hx524_8;replace hx524_9 := mv HB hx524_9;replace hx524_10 := mv HB hx524_10;replace hx524_11 := mv HB hx524_11;replace hx524_12 := mv HB hx524_12;replace p524 := eq_true p524;replace q524 := eq_true q524;go_wp2
                 repeat (go_quiet (fail); try go_wp2)
                 go_ret
                 exact ⟨fin, bel HB⟩
                ·rw [if_neg c50] at H
                 have c50b0 : (!(((rd_T130 l0_2 x72_4).f0) == ((rd_T130 l1_2 x72_4).f0)) || (!(((rd_T130 l0_2 x72_4).f1) == ((rd_T130 l1_2 x72_4).f1)) || (!(((rd_T130 l0_2 x72_4).f2) == ((rd_T130 l1_2 x72_4).f2)) || (!(((rd_T130 l0_2 x72_4).f3) == ((rd_T130 l1_2 x72_4).f3)) || (((!(((rd_T130 l0_2 x72_4).f4.f0.f0) == ((rd_T130 l1_2 x72_4).f4.f0.f0)) || (!(((rd_T130 l0_2 x72_4).f4.f0.f1) == ((rd_T130 l1_2 x72_4).f4.f0.f1)))) || ((!(((rd_T130 l0_2 x72_4).f4.f1.f0) == ((rd_T130 l1_2 x72_4).f4.f1.f0)) || (!(((rd_T130 l0_2 x72_4).f4.f1.f1) == ((rd_T130 l1_2 x72_4).f4.f1.f1)))) || (!(((rd_T130 l0_2 x72_4).f4.f2) == ((rd_T130 l1_2 x72_4).f4.f2)) || ((!(((rd_T130 l0_2 x72_4).f4.f3.f0) == ((rd_T130 l1_2 x72_4).f4.f3.f0)) || (!(((rd_T130 l0_2 x72_4).f4.f3.f1) == ((rd_T130 l1_2 x72_4).f4.f3.f1)))) || ((!(((rd_T130 l0_2 x72_4).f4.f4.f0) == ((rd_T130 l1_2 x72_4).f4.f4.f0)) || (!(((rd_T130 l0_2 x72_4).f4.f4.f1) == ((rd_T130 l1_2 x72_4).f4.f4.f1)))))))))))))) = false := by simpa using c50
                 clear c50;have H' := Aside0.mk H;clear H;have hnb54 := NB517_518.out;have hnc54 := NB518_517.out;have hcz55 := cz3 BK517.out
                 have p523 : 0 ≤ (x72_4 : Int) := of_decide_eq_true (by first | (with_reducible assumption) | assumption)
                 have q523 : x72_4 < (l0_2.length : Int) := of_decide_eq_true (by first | (with_reducible assumption) | assumption)
                 obtain ⟨ad523, e523, hx523_0, hx523_1, hx523_2, hx523_3, hx523_4, hx523_5, hx523_6, hx523_7, hx523_8, hx523_9, hx523_10, hx523_11, hx523_12⟩ := at_T130 HR0_2.out x72_4 p523 q523
                 cases e523
                 replace hx523_0 := mv HB hx523_0;replace hx523_1 := mv HB hx523_1;replace hx523_2 := mv HB hx523_2;replace hx523_3 := mv HB hx523_3;replace hx523_4 := mv HB hx523_4;replace hx523_5 := mv HB hx523_5;replace hx523_6 := mv HB hx523_6;replace hx523_7 := mv HB hx523_7;replace hx523_8 := mv HB hx523_8;replace hx523_9 := mv HB hx523_9;replace hx523_10 := mv HB hx523_10;replace hx523_11 := mv HB hx523_11;replace hx523_12 := mv HB hx523_12;replace p523 := eq_true p523;replace q523 := eq_true q523;have hcz56 := cz3 BK518.out
                 have p524 : 0 ≤ (x72_4 : Int) := of_decide_eq_true (by first | (with_reducible assumption) | assumption)
                 have q524 : x72_4 < (l1_2.length : Int) := of_decide_eq_true (by first | (with_reducible assumption) | assumption)
                 obtain ⟨ad524, e524, hx524_0, hx524_1, hx524_2, hx524_3, hx524_4, hx524_5, hx524_6, hx524_7, hx524_8, hx524_9, hx524_10, hx524_11, hx524_12⟩ := at_T130 HR1_2.out x72_4 p524 q524
                 cases e524
                 replace hx524_0 := mv HB hx524_0;replace hx524_1 := mv HB hx524_1;replace hx524_2 := mv HB hx524_2;replace hx524_3 := mv HB hx524_3;replace hx524_4 := mv HB hx524_4;replace hx524_5 := mv HB hx524_5;replace hx524_6 := mv HB hx524_6;replace hx524_7 := mv HB hx524_7;replace hx524_8 := mv HB hx524_8;replace hx524_9 := mv HB hx524_9;replace hx524_10 := mv HB hx524_10;replace hx524_11 := mv HB hx524_11;replace hx524_12 := mv HB hx524_12;replace p524 := eq_true p524;replace q524 := eq_true q524;go_wp2
                 repeat (go_quiet (fail); try go_wp2)
                 go_roundg k4
                 case measure => have := HJ2.out; have := HK2.out; have := HK3.out; have := HK4.out; omega
                 case rel => exact ⟨(wrap64 (x72_4 + 1)), (by first | rfl | (simp; done) | (simp [*]; done)), H', ⟨by have := HJ2.out; have := HK2.out; have := HK3.out; have := HK4.out; omega⟩, ⟨bkp⟩, ⟨bkp⟩, ⟨by repeat (first | (with_reducible first | exact HB.out | apply below_alloc | apply pw_below_drewN | apply below_drew1 | refine below_set ?_ GE517.out | refine below_set ?_ GE518.out) | exact HB.out)⟩⟩
               ·rw [if_neg c49] at H
                exact absurd H (by simp)
              ·rw [if_neg c48] at H
               exact absurd H (by simp)
             ·rw [if_neg c47] at H
              exact absurd H (by simp)
            ·rw [if_neg c46] at H
             have c46b0 : decide (x72_4 < (l0_2.length : Int)) = false := decide_eq_false c46;clear c46;obtain rfl := Option.some.inj H;go_wp2
             repeat (go_quiet (fail); try go_wp2)
             go_ret
             exact ⟨fin, bel HB⟩

end Go.Proofs.YtloclimoffhbhaaDoor.PSto
