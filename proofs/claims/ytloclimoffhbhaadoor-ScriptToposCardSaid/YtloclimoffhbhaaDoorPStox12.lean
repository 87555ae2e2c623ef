-- Written by wip/myprint.py and wip/merge.py (this session's own programs); Lean checks it.
-- halved
import Derived.Test.YtloclimoffhbhaaDoorSq6
import Derived.Test.YtloclimoffhbhaaDoorPStox0
namespace Go.Proofs.YtloclimoffhbhaaDoor.PSto
open Go.RowKit Go.Proofs.YtloclimoffhbhaaDoorW.PrintWords Go.Proofs.YtloclimoffhbhaaDoorW.PrintLast Go.Proofs.YtloclimoffhbhaaDoorW.PrintMore Go.Proofs.YtloclimoffhbhaaDoorW.PrintSq List
attribute [local go_sem] max2_int min2_int max_two min_two max_three min_three max_four min_four   -- for this text's walks alone
set_option linter.unusedVariables false
set_option linter.unusedSimpArgs false

/-! ### crossbucklaw05_Light: function 19 -/
def crossbucklaw05_Light.f (l0_0 : List Int) (l0_1 : List (S133)) (l0_2 : List (S130)) : Option (Bool) := if (l0_0.length : Int) ≤ 40 then (if (l0_1.length : Int) ≤ 100 then (some (decide ((l0_2.length : Int) ≤ 60))) else (some false)) else (some false)
set_option maxHeartbeats 8000000 in
set_option maxRecDepth 100000 in
theorem crossbucklaw05_Light.calls (A0_0 : Option Addr) (c0_0 : Nat) (l0_0 : List Int) (A0_1 : Option Addr) (c0_1 : Nat) (l0_1 : List (S133)) (A0_2 : Option Addr) (c0_2 : Nat) (l0_2 : List (S130)) (r : Bool) (w : World) (hr0_0 : Kd.C (Kd.int .i64) w A0_0 l0_0.length l0_0) (hc0_0 : l0_0.length ≤ c0_0) (hr0_1 : Kd.C k133 w A0_1 l0_1.length l0_1) (hc0_1 : l0_1.length ≤ c0_1) (hr0_2 : Kd.C k130 w A0_2 l0_2.length l0_2) (hc0_2 : l0_2.length ≤ c0_2) (h : crossbucklaw05_Light.f l0_0 l0_1 l0_2 = some r) :
  Calls Tryd.prog 19 #[.agg #[.slice A0_0 l0_0.length c0_0, .slice A0_1 l0_1.length c0_1, .slice A0_2 l0_2.length c0_2]] w fun e w' => e = .returned (.bool r) ∧ Below w.heap.size w w' := by
 have hu26 := Tryd.underlying26;have HR0_0 := Aside0.mk hr0_0;have HC0_0 := Aside0.mk hc0_0;clear hr0_0 hc0_0;have HR0_1 := Aside0.mk hr0_1;have HC0_1 := Aside0.mk hc0_1;clear hr0_1 hc0_1;have HR0_2 := Aside0.mk hr0_2;have HC0_2 := Aside0.mk hc0_2;clear hr0_2 hc0_2;have HB := Aside0.mk (Below.refl w.heap.size w);have H : (if (l0_0.length : Int) ≤ 40 then (if (l0_1.length : Int) ≤ 100 then (some (decide ((l0_2.length : Int) ≤ 60))) else (some false)) else (some false)) = some r := h;clear h
 by_cases c2 : (l0_0.length : Int) ≤ 40
 ·rw [if_pos c2] at H
  have c2b0 : decide ((l0_0.length : Int) ≤ 40) = true := decide_eq_true c2
  have c2b1 : decide (l0_0.length ≤ 40) = true := decide_eq_true (by omega)
  clear c2
  by_cases c3 : (l0_1.length : Int) ≤ 100
  ·rw [if_pos c3] at H
   have c3b0 : decide ((l0_1.length : Int) ≤ 100) = true := decide_eq_true c3
   have c3b1 : decide (l0_1.length ≤ 100) = true := decide_eq_true (by omega)
   clear c3;obtain rfl := Option.some.inj H;go_enter Tryd.func19, Tryd.ntmps19
   go_wp2_with (first | ((with_reducible refine gate_dst (N := 1) rfl ?_); (try (refine gate_guard (by rfl) ?_; dsimp only)); refine box_event rfl (N := 1) rfl (cs := #[.slice A0_0 l0_0.length c0_0, .slice A0_1 l0_1.length c0_1, .slice A0_2 l0_2.length c0_2]) (t := 26) gs ?_; intro gb460 hg w4 hbox hb; have n0_ := Aside0.mk (below_step (bel HB) hb); have n1_ := Aside0.mk (hbox); have n2_ := gew HB hg; have n3_ := gew HB hg; clear HB; have HB := n0_; have BK460 := n1_; have GW460 := n2_; have GE460 := n3_; clear n0_ n1_ n2_ n3_; clear hb hbox hg; have hcz5 := cz3 BK460.out))
   go_ret
   exact ⟨fin, bel HB⟩
  ·rw [if_neg c3] at H
   have c3b0 : decide ((l0_1.length : Int) ≤ 100) = false := decide_eq_false c3
   have c3b1 : decide (l0_1.length ≤ 100) = false := decide_eq_false (by omega)
   clear c3;obtain rfl := Option.some.inj H;go_enter Tryd.func19, Tryd.ntmps19
   go_wp2_with (first | ((with_reducible refine gate_dst (N := 1) rfl ?_); (try (refine gate_guard (by rfl) ?_; dsimp only)); refine box_event rfl (N := 1) rfl (cs := #[.slice A0_0 l0_0.length c0_0, .slice A0_1 l0_1.length c0_1, .slice A0_2 l0_2.length c0_2]) (t := 26) gs ?_; intro gb460 hg w6 hbox hb; have n0_ := Aside0.mk (below_step (bel HB) hb); have n1_ := Aside0.mk (hbox); have n2_ := gew HB hg; have n3_ := gew HB hg; clear HB; have HB := n0_; have BK460 := n1_; have GW460 := n2_; have GE460 := n3_; clear n0_ n1_ n2_ n3_; clear hb hbox hg; have hcz7 := cz3 BK460.out))
   go_ret
   exact ⟨fin, bel HB⟩
 ·rw [if_neg c2] at H
  have c2b0 : decide ((l0_0.length : Int) ≤ 40) = false := decide_eq_false c2
  have c2b1 : decide (l0_0.length ≤ 40) = false := decide_eq_false (by omega)
  clear c2;obtain rfl := Option.some.inj H;go_enter Tryd.func19, Tryd.ntmps19
  go_wp2_with (first | ((with_reducible refine gate_dst (N := 1) rfl ?_); (try (refine gate_guard (by rfl) ?_; dsimp only)); refine box_event rfl (N := 1) rfl (cs := #[.slice A0_0 l0_0.length c0_0, .slice A0_1 l0_1.length c0_1, .slice A0_2 l0_2.length c0_2]) (t := 26) gs ?_; intro gb460 hg w8 hbox hb; have n0_ := Aside0.mk (below_step (bel HB) hb); have n1_ := Aside0.mk (hbox); have n2_ := gew HB hg; have n3_ := gew HB hg; clear HB; have HB := n0_; have BK460 := n1_; have GW460 := n2_; have GE460 := n3_; clear n0_ n1_ n2_ n3_; clear hb hbox hg; have hcz9 := cz3 BK460.out))
  go_ret
  exact ⟨fin, bel HB⟩

end Go.Proofs.YtloclimoffhbhaaDoor.PSto

namespace Go.Proofs.YtloclimoffhbhaaDoor.PSto
open Go.RowKit Go.Proofs.YtloclimoffhbhaaDoorW.PrintWords Go.Proofs.YtloclimoffhbhaaDoorW.PrintLast Go.Proofs.YtloclimoffhbhaaDoorW.PrintMore Go.Proofs.YtloclimoffhbhaaDoorW.PrintSq List
attribute [local go_sem] max2_int min2_int max_two min_two max_three min_three max_four min_four   -- for this text's walks alone
set_option linter.unusedVariables false
set_option linter.unusedSimpArgs false

theorem eqA128 (d : Nat) (w : World) (x0 y0 x1 y1 : Int) : (Op.equalIn (d + 2) 128 (.agg #[.int .i64 x0, .int .i64 x1]) (.agg #[.int .i64 y0, .int .i64 y1])).run Tryd.prog w = .ok (x0 == y0 && (x1 == y1)) w := by
 have h3 : ∀ a b : Int, (Op.equalIn (d + 1) 3 (.int .i64 a) (.int .i64 b)).run Tryd.prog w = .ok (a == b) w := fun a b => by simp [Op.equalIn, run_underlying Tryd.underlying3]
 have hp : ∀ (xs : Array Value) (i : Nat) (v : Value), xs[i]? = some v → (part 3 xs i).run Tryd.prog w = .ok v w := fun xs i v h => by
  have : xs.toList[i]? = some v := by simpa using h
  simp [part, isAgg, run_underlying Tryd.underlying3, h, Result.andThen]
 have hz : (sizeOf 3).run Tryd.prog w = .ok 1 w := by simp [sizeOf, typeInfo, go_sem]; kernel_rfl
 rw [Op.equalIn];simp only [Sem.run_bind, run_underlying Tryd.underlying128, Result.andThen_ok, hz]
 by_cases e0 : x0 = y0
 ·by_cases e1 : x1 = y1
  ·simp [Std.Legacy.Range.forIn_eq_forIn_range', List.range', hp, h3, Result.andThen, e0, e1]
  ·simp [Std.Legacy.Range.forIn_eq_forIn_range', List.range', hp, h3, Result.andThen, e0, e1]
 ·simp [Std.Legacy.Range.forIn_eq_forIn_range', List.range', hp, h3, Result.andThen, e0]
end Go.Proofs.YtloclimoffhbhaaDoor.PSto

namespace Go.Proofs.YtloclimoffhbhaaDoor.PSto
open Go.RowKit Go.Proofs.YtloclimoffhbhaaDoorW.PrintWords Go.Proofs.YtloclimoffhbhaaDoorW.PrintLast Go.Proofs.YtloclimoffhbhaaDoorW.PrintMore Go.Proofs.YtloclimoffhbhaaDoorW.PrintSq List
attribute [local go_sem] max2_int min2_int max_two min_two max_three min_three max_four min_four   -- for this text's walks alone
set_option linter.unusedVariables false
set_option linter.unusedSimpArgs false

/-! ### crossbuckref05_Ends: function 74 -/
def crossbuckref05_Ends.l0 : Nat → List (S128) → Int → List Int → List (S133) → List (S130) → Option ((List (S128)))
 | 0, _, _, _, _, _ => none
 | k + 1, x3, x4, x462000, x462001, x462002 => if x4 < (x462001.length : Int) then (if 0 ≤ x4 then ((some (([(⟨(rd_T133 x462001 x4).f0, (rd_T133 x462001 x4).f1⟩ : S128), (⟨(rd_T133 x462001 x4).f2, (rd_T133 x462001 x4).f3⟩ : S128)] : List (S128)) : List (S128))).bind fun y464 => (if x3.length + y464.length < 8796093022208 then (crossbuckref05_Ends.l0 k (x3 ++ y464) (wrap64 (x4 + 1)) x462000 x462001 x462002) else (none))) else (none)) else (some x3)
def crossbuckref05_Ends.f (k : Nat) (l0_0 : List Int) (l0_1 : List (S133)) (l0_2 : List (S130)) : Option ((List (S128))) := crossbuckref05_Ends.l0 k ([] : List (S128)) 0 l0_0 l0_1 l0_2
set_option maxHeartbeats 8000000 in
set_option maxRecDepth 100000 in
theorem crossbuckref05_Ends.calls (k : Nat) (A0_0 : Option Addr) (c0_0 : Nat) (l0_0 : List Int) (A0_1 : Option Addr) (c0_1 : Nat) (l0_1 : List (S133)) (A0_2 : Option Addr) (c0_2 : Nat) (l0_2 : List (S130)) (r : List (S128)) (w : World) (hr0_0 : Kd.C (Kd.int .i64) w A0_0 l0_0.length l0_0) (hc0_0 : l0_0.length ≤ c0_0) (hr0_1 : Kd.C k133 w A0_1 l0_1.length l0_1) (hc0_1 : l0_1.length ≤ c0_1) (hr0_2 : Kd.C k130 w A0_2 l0_2.length l0_2) (hc0_2 : l0_2.length ≤ c0_2) (h : crossbuckref05_Ends.f k l0_0 l0_1 l0_2 = some r) :
  Calls Tryd.prog 74 #[.agg #[.slice A0_0 l0_0.length c0_0, .slice A0_1 l0_1.length c0_1, .slice A0_2 l0_2.length c0_2]] w fun e w' => ∃ v0_ : Value, e = .returned (v0_) ∧ Kd.R k128 128 w' w.heap.size (fun _ => True) v0_ r ∧ Below w.heap.size w w' := by
 have hu26 := Tryd.underlying26;have hu133 := Tryd.underlying133;have hu128 := Tryd.underlying128;have HR0_0 := Aside0.mk hr0_0;have HC0_0 := Aside0.mk hc0_0;clear hr0_0 hc0_0;have HR0_1 := Aside0.mk hr0_1;have HC0_1 := Aside0.mk hc0_1;clear hr0_1 hc0_1;have HR0_2 := Aside0.mk hr0_2;have HC0_2 := Aside0.mk hc0_2;clear hr0_2 hc0_2;have HB := Aside0.mk (Below.refl w.heap.size w);have H : (crossbuckref05_Ends.l0 k ([] : List (S128)) 0 l0_0 l0_1 l0_2) = some r := h;clear h;have H' := Aside0.mk H;clear H;go_enter Tryd.func74, Tryd.ntmps74
 go_wp2_with (first | ((with_reducible refine gate_dst (N := 1) rfl ?_); refine box_event rfl (N := 1) rfl (cs := #[.slice A0_0 l0_0.length c0_0, .slice A0_1 l0_1.length c0_1, .slice A0_2 l0_2.length c0_2]) (t := 26) gs ?_; intro gb461 hg w2 hbox hb; have n0_ := Aside0.mk (below_step (bel HB) hb); have n1_ := Aside0.mk (hbox); have n2_ := gew HB hg; have n3_ := gew HB hg; clear HB; have HB := n0_; have BK461 := n1_; have GW461 := n2_; have GE461 := n3_; clear n0_ n1_ n2_ n3_; clear hb hbox hg))
 go_loopg [3, 4] k (fun kq v3 v4 w' => ∃ (x3_1 : List (S128)) (x4_1 : Int), v4 = .int .i64 x4_1 ∧ Aside0 (crossbuckref05_Ends.l0 kq x3_1 x4_1 l0_0 l0_1 l0_2 = some r) ∧ Aside0 (kq ≤ k) ∧ Aside0 (Kd.R k128 128 w' w.heap.size (fun _ => True) v3 x3_1) ∧ Aside0 (w'.heap[gb461]? = some (.cells #[(.slice A0_0 l0_0.length c0_0), (.slice A0_1 l0_1.length c0_1), (.slice A0_2 l0_2.length c0_2)] 26 (0, 0))) ∧ Aside0 (Below w.heap.size w w'))
 case atStart => exact ⟨(([] : List (S128))), (0), (by first | rfl | (simp; done) | (simp [*]; done)), H', ⟨Nat.le_refl _⟩, ⟨by first | exact Kd.R_nil _ _ _ _ _ | exact Kd.N_nil _ _ _ _ _ | exact Kd.V_nil _ _ _ _ _ | exact Kd.Q_nil _ _ _ _ _ | exact Kd.S_nil _ _ _ _ _⟩, ⟨bkp⟩, ⟨by repeat (first | (with_reducible first | exact HB.out | apply below_alloc | apply pw_below_drewN | apply below_drew1 | refine below_set ?_ GE461.out) | exact HB.out)⟩⟩
 case round =>
  clear H'
  try clear p2
  obtain ⟨x3_1, x4_1, rfl, HA, HK1, HO_3, BK461, HB⟩ := hrel
  cases gk with
  | zero => exact absurd HA.out (by simp [crossbuckref05_Ends.l0])
  | succ k1 =>
   have H := HA.out;clear HA;simp only [crossbuckref05_Ends.l0] at H
   by_cases c3 : x4_1 < (l0_1.length : Int)
   ·rw [if_pos c3] at H
    have c3b0 : decide (x4_1 < (l0_1.length : Int)) = true := decide_eq_true c3;clear c3
    by_cases c4 : 0 ≤ x4_1
    ·rw [if_pos c4] at H
     have c4b0 : decide (0 ≤ x4_1) = true := decide_eq_true c4;clear c4;obtain ⟨y464, hy464⟩ : ∃ y_ : List (S128), y_ = (([(⟨(rd_T133 l0_1 x4_1).f0, (rd_T133 l0_1 x4_1).f1⟩ : S128), (⟨(rd_T133 l0_1 x4_1).f2, (rd_T133 l0_1 x4_1).f3⟩ : S128)] : List (S128))) := ⟨_, rfl⟩
     replace H : (if x3_1.length + y464.length < 8796093022208 then (crossbuckref05_Ends.l0 k1 (x3_1 ++ y464) (wrap64 (x4_1 + 1)) l0_0 l0_1 l0_2) else (none)) = some r := by first | (rw [hy464]; with_reducible exact H) | (have H2_ := (Option.bind_some _ _).symm.trans H; rw [hy464]; with_reducible exact H2_) | (have H2_ := (Option.bind_some _ _).symm.trans H; with_reducible exact H2_) | with_reducible exact H | (rw [hy464]; exact H) | exact H
     have Ny464 := Aside0.mk hy464;clear hy464
     by_cases c5 : x3_1.length + y464.length < 8796093022208
     ·rw [if_pos c5] at H
      have LMc5 := Aside0.mk c5;clear c5;obtain ⟨y467, hy467⟩ : ∃ y_ : List (S128), y_ = (x3_1 ++ y464) := ⟨_, rfl⟩
      replace H : (crossbuckref05_Ends.l0 k1 y467 (wrap64 (x4_1 + 1)) l0_0 l0_1 l0_2) = some r := by first | (rw [hy467]; with_reducible exact H) | (have H2_ := (Option.bind_some _ _).symm.trans H; rw [hy467]; with_reducible exact H2_) | (have H2_ := (Option.bind_some _ _).symm.trans H; with_reducible exact H2_) | with_reducible exact H | (rw [hy467]; exact H) | exact H
      have Ny467 := Aside0.mk hy467;clear hy467;have H' := Aside0.mk H;clear H;have hcz6 := cz3 BK461.out
      have p462 : 0 ≤ (x4_1 : Int) := of_decide_eq_true (by first | (with_reducible assumption) | assumption)
      have q462 : x4_1 < (l0_1.length : Int) := of_decide_eq_true (by first | (with_reducible assumption) | assumption)
      obtain ⟨ad462, e462, hx462_0, hx462_1, hx462_2, hx462_3⟩ := at_T133 HR0_1.out x4_1 p462 q462
      cases e462
      replace hx462_0 := mv HB hx462_0;replace hx462_1 := mv HB hx462_1;replace hx462_2 := mv HB hx462_2;replace hx462_3 := mv HB hx462_3;replace p462 := eq_true p462;replace q462 := eq_true q462
      go_wp2_with (first | ((with_reducible refine gate_dst (N := 5) rfl ?_); refine box_event rfl (N := 5) rfl (cs := #[.int .i64 0, .int .i64 0, .int .i64 0, .int .i64 0]) (t := 133) gs ?_; intro gb463 hg w7 hbox hb; have n0_ := Aside0.mk (Kd.R_below (rp HO_3) hb); have n1_ := Aside0.mk (bb BK461.out hb); have n2_ := Aside0.mk (below_step (bel HB) hb); have n3_ := Aside0.mk (hbox); have n4_ := gew HB hg; have n5_ := gew HB hg; have n6_ := Aside0.mk ((ne1 BK461.out hg : gb461 ≠ gb463)); have n7_ := Aside0.mk ((ne2 BK461.out hg : gb463 ≠ gb461)); clear HO_3; clear BK461; clear HB; have HO_3 := n0_; have BK461 := n1_; have HB := n2_; have BK463 := n3_; have GW463 := n4_; have GE463 := n5_; have NB461_463 := n6_; have NB463_461 := n7_; clear n0_ n1_ n2_ n3_ n4_ n5_ n6_ n7_; clear hb hbox hg; have hnb8 := NB463_461.out; have hnc8 := NB461_463.out; have hcz9 := cz4 BK463.out) | ((with_reducible refine gate_dst (N := 29) rfl ?_); refine Kd.R_lit k128 _ 128 ?hg (N := 29) ?hd (xs := ([(⟨(rd_T133 l0_1 x4_1).f0, (rd_T133 l0_1 x4_1).f1⟩ : S128), (⟨(rd_T133 l0_1 x4_1).f2, (rd_T133 l0_1 x4_1).f3⟩ : S128)] : List (S128))) (inner := [.int .i64 ((rd_T133 l0_1 x4_1).f0), .int .i64 ((rd_T133 l0_1 x4_1).f1), .int .i64 ((rd_T133 l0_1 x4_1).f2), .int .i64 ((rd_T133 l0_1 x4_1).f3)]) (ok := fun _ => True) (okp := fun _ => True) ?hr ?hp (fun _ hk => hk) trivial (Below.refl _ _) (Nat.le_refl _) (by simp) ?_; (case hd => rfl); (case hg => rfl); (case hr => first | (go_simp; done) | (go_simp; rfl)); (case hp => exact (Reps.c2 (show Kd.M k128 _ _ _ (⟨(rd_T133 l0_1 x4_1).f0, (rd_T133 l0_1 x4_1).f1⟩ : S128) [.int .i64 ((rd_T133 l0_1 x4_1).f0), .int .i64 ((rd_T133 l0_1 x4_1).f1)] from (k128_mkM _ _ _ (⟨(rd_T133 l0_1 x4_1).f0, (rd_T133 l0_1 x4_1).f1⟩ : S128) )) (Reps.c2 (show Kd.M k128 _ _ _ (⟨(rd_T133 l0_1 x4_1).f2, (rd_T133 l0_1 x4_1).f3⟩ : S128) [.int .i64 ((rd_T133 l0_1 x4_1).f2), .int .i64 ((rd_T133 l0_1 x4_1).f3)] from (k128_mkM _ _ _ (⟨(rd_T133 l0_1 x4_1).f2, (rd_T133 l0_1 x4_1).f3⟩ : S128) )) (Reps.none _ _)))); intro v465 w10 ho11 hb hg_ hnew_; clear hg_ hnew_; (first | rw [← Ny464.out] at ho11 | (simp only [Int.reduceToNat] at ho11; rw [← Ny464.out] at ho11)); have n0_ := Aside0.mk (Kd.R_elder' (by (with_reducible repeat (first | apply Kd.R_alloc | apply Kd.R_drewN | apply Kd.R_drew)); exact (Kd.R_mono (Kd.R_far (p := ⟨gb463, 3, none⟩) (Kd.R_far (p := ⟨gb463, 2, none⟩) (Kd.R_far (p := ⟨gb463, 1, none⟩) (Kd.R_far (p := ⟨gb463, 0, none⟩) (Kd.R_types HO_3.out BK463.out (by decide)) (fun _ hk => hk.2) (.int .i64 ((rd_T133 l0_1 x4_1).f0))) (fun _ hk => hk.2) (.int .i64 ((rd_T133 l0_1 x4_1).f1))) (fun _ hk => hk.2) (.int .i64 ((rd_T133 l0_1 x4_1).f2))) (fun _ hk => hk.2) (.int .i64 ((rd_T133 l0_1 x4_1).f3))) (fun _ h_ => h_.1))) (Kd.R_base ho11) hb); have n1_ := Aside0.mk (Kd.R_lower (Kd.R_new' ho11 (Kd.R_lt (by (with_reducible repeat (first | apply Kd.R_alloc | apply Kd.R_drewN | apply Kd.R_drew)); exact (Kd.R_mono (Kd.R_far (p := ⟨gb463, 3, none⟩) (Kd.R_far (p := ⟨gb463, 2, none⟩) (Kd.R_far (p := ⟨gb463, 1, none⟩) (Kd.R_far (p := ⟨gb463, 0, none⟩) (Kd.R_types HO_3.out BK463.out (by decide)) (fun _ hk => hk.2) (.int .i64 ((rd_T133 l0_1 x4_1).f0))) (fun _ hk => hk.2) (.int .i64 ((rd_T133 l0_1 x4_1).f1))) (fun _ hk => hk.2) (.int .i64 ((rd_T133 l0_1 x4_1).f2))) (fun _ hk => hk.2) (.int .i64 ((rd_T133 l0_1 x4_1).f3))) (fun _ h_ => h_.1))))) (below_size (bel HB))); have n2_ := Aside0.mk (blk_below (g := gb461) (o := .cells #[.slice A0_0 l0_0.length c0_0, .slice (some ad462) l0_1.length c0_1, .slice A0_2 l0_2.length c0_2] 26 (0, 0)) bkp hb); have n3_ := Aside0.mk (blk_below (g := gb463) (o := .cells #[.int .i64 ((rd_T133 l0_1 x4_1).f0), .int .i64 ((rd_T133 l0_1 x4_1).f1), .int .i64 ((rd_T133 l0_1 x4_1).f2), .int .i64 ((rd_T133 l0_1 x4_1).f3)] 133 (0, 0)) bkp hb); have n4_ := Aside0.mk (below_step (bel HB) hb); clear HO_3; clear BK461; clear BK463; clear HB; have HO_3 := n0_; have HO466 := n1_; have BK461 := n2_; have BK463 := n3_; have HB := n4_; clear n0_ n1_ n2_ n3_ n4_; clear hb ho11; obtain ⟨Ao13, co13, eo13⟩ := Kd.R_slice HO466.out; subst eo13) | ((with_reducible refine gate_builtin (b := .append) (xs := #[.tmp 18, .tmp 29]) rfl ?_); at_builtin; refine Kd.R_append_rows k128 (w0 := w) w.heap.size rfl (.tmp 18) (.tmp 29) 125 128 (.agg #[(.int .i64 0), (.int .i64 0)]) 16 rfl Tryd.underlying125 info128 rfl (by decide) (by omega) u3 x3_1 y464 _ _ _ (fun k_ => some k_ ≠ (.slice Ao13 y464.length co13 : Value).ownBlock) (fun _ => False) rfl rfl ?aO ?aR (fun _ _ h => h) (fun _ h => h.elim) ?aF ?aB ?aS ?aL ?_; (case aR => repeat (first | exact (Kd.R_reads' HO466.out).2.2 | (with_reducible refine Kd.C_alloc ?_ _) | (with_reducible refine Kd.C_drewN ?_ _) | (with_reducible refine Kd.C_drew ?_))); (case aB => exact (bel HB)); (case aF => exact (fun k_ hk => Kd.fresh' (Kd.R_lt (rp HO466)) k_ hk)); (case aO => exact (by (with_reducible repeat (first | apply Kd.R_alloc | apply Kd.R_drewN | apply Kd.R_drew)); exact Kd.R_mono HO_3.out (fun _ hk => hk.2))); (case aS => exact (below_size (bel HB))); (case aL => have := LMc5.out; omega); intro v468 w12 ho hb hg hat; rw [← Ny467.out] at ho; have n0_ := Aside0.mk (blk_grown (g := gb461) (o := .cells #[.slice A0_0 l0_0.length c0_0, .slice (some ad462) l0_1.length c0_1, .slice A0_2 l0_2.length c0_2] 26 (0, 0)) bkp hg (Kd.R_ne HO_3.out BK461.out (by decide))); have n1_ := Aside0.mk (blk_grown (g := gb463) (o := .cells #[.int .i64 ((rd_T133 l0_1 x4_1).f0), .int .i64 ((rd_T133 l0_1 x4_1).f1), .int .i64 ((rd_T133 l0_1 x4_1).f2), .int .i64 ((rd_T133 l0_1 x4_1).f3)] 133 (0, 0)) bkp hg (Kd.R_ne HO_3.out BK463.out (by decide))); have n2_ := Aside0.mk (Kd.R_after (ok := (fun _ => True)) (rp HO466) hg hat); have n3_ := Aside0.mk (hb); have n4_ := Aside0.mk (ho); clear BK461; clear BK463; clear HO466; clear HB; clear HO_3; have BK461 := n0_; have BK463 := n1_; have HO466 := n2_; have HB := n3_; have HO469 := n4_; clear n0_ n1_ n2_ n3_ n4_; clear ho hb hg hat))
      go_roundg k1
      case measure => have := HK1.out; omega
      case rel => exact ⟨(y467), (wrap64 (x4_1 + 1)), (by first | rfl | (simp; done) | (simp [*]; done)), H', ⟨by have := HK1.out; omega⟩, ⟨by (with_reducible repeat (first | apply Kd.R_alloc | apply Kd.R_drewN | apply Kd.R_drew)); exact Kd.R_mono HO469.out (fun _ hk => trivial)⟩, ⟨bkp⟩, ⟨by repeat (first | (with_reducible first | exact HB.out | apply below_alloc | apply pw_below_drewN | apply below_drew1 | refine below_set ?_ GE461.out | refine below_set ?_ GE463.out) | exact HB.out)⟩⟩
     ·rw [if_neg c5] at H
      exact absurd H (by simp)
    ·rw [if_neg c4] at H
     exact absurd H (by simp)
   ·rw [if_neg c3] at H
    have c3b0 : decide (x4_1 < (l0_1.length : Int)) = false := decide_eq_false c3;clear c3;obtain rfl := Option.some.inj H;have hcz14 := cz3 BK461.out;go_wp2;go_ret
    exact ⟨_, by first | rfl | (simp [errW_none, errW_some] <;> rfl) | (simp [*, errW_none, errW_some] <;> rfl), by (with_reducible repeat (first | apply Kd.R_alloc | apply Kd.R_drewN | apply Kd.R_drew)); exact HO_3.out, bel HB⟩

end Go.Proofs.YtloclimoffhbhaaDoor.PSto

namespace Go.Proofs.YtloclimoffhbhaaDoor.PSto
open Go.RowKit Go.Proofs.YtloclimoffhbhaaDoorW.PrintWords Go.Proofs.YtloclimoffhbhaaDoorW.PrintLast Go.Proofs.YtloclimoffhbhaaDoorW.PrintMore Go.Proofs.YtloclimoffhbhaaDoorW.PrintSq List
attribute [local go_sem] max2_int min2_int max_two min_two max_three min_three max_four min_four   -- for this text's walks alone
set_option linter.unusedVariables false
set_option linter.unusedSimpArgs false

/-! ### crossbuckref05_Port: function 75 -/
def crossbuckref05_Port.j0 : Nat → Int → Int → Bool → List Int → List (S133) → List (S130) → Option (Int)
 | 0, _, _, _, _, _, _ => none
 | k + 1, x1, x2, x15, x471000, x471001, x471002 => if x15 = true then (some 10) else (if x2 < 0 then (some 11) else (if 0 ≤ x1 then (if x1 < (x471000.length : Int) then (if x2 ≥ (rd x471000 x1) then (some 11) else (some 0)) else (none)) else (none)))
def crossbuckref05_Port.f (k : Nat) (l0_0 : List Int) (l0_1 : List (S133)) (l0_2 : List (S130)) (a1 : Int) (a2 : Int) : Option (Int) := if a1 < 0 then (crossbuckref05_Port.j0 k a1 a2 true l0_0 l0_1 l0_2) else (crossbuckref05_Port.j0 k a1 a2 (decide (a1 ≥ (l0_0.length : Int))) l0_0 l0_1 l0_2)
set_option maxHeartbeats 8000000 in
set_option maxRecDepth 100000 in
theorem crossbuckref05_Port.calls (k : Nat) (A0_0 : Option Addr) (c0_0 : Nat) (l0_0 : List Int) (A0_1 : Option Addr) (c0_1 : Nat) (l0_1 : List (S133)) (A0_2 : Option Addr) (c0_2 : Nat) (l0_2 : List (S130)) (a1 : Int) (a2 : Int) (r : Int) (w : World) (hr0_0 : Kd.C (Kd.int .i64) w A0_0 l0_0.length l0_0) (hc0_0 : l0_0.length ≤ c0_0) (hr0_1 : Kd.C k133 w A0_1 l0_1.length l0_1) (hc0_1 : l0_1.length ≤ c0_1) (hr0_2 : Kd.C k130 w A0_2 l0_2.length l0_2) (hc0_2 : l0_2.length ≤ c0_2) (h : crossbuckref05_Port.f k l0_0 l0_1 l0_2 a1 a2 = some r) :
  Calls Tryd.prog 75 #[.agg #[.slice A0_0 l0_0.length c0_0, .slice A0_1 l0_1.length c0_1, .slice A0_2 l0_2.length c0_2], .int .i64 a1, .int .i64 a2] w fun e w' => e = .returned (.int .i64 r) ∧ Below w.heap.size w w' := by
 have hu26 := Tryd.underlying26;have HR0_0 := Aside0.mk hr0_0;have HC0_0 := Aside0.mk hc0_0;clear hr0_0 hc0_0;have HR0_1 := Aside0.mk hr0_1;have HC0_1 := Aside0.mk hc0_1;clear hr0_1 hc0_1;have HR0_2 := Aside0.mk hr0_2;have HC0_2 := Aside0.mk hc0_2;clear hr0_2 hc0_2;have HB := Aside0.mk (Below.refl w.heap.size w);have H : (if a1 < 0 then (crossbuckref05_Port.j0 k a1 a2 true l0_0 l0_1 l0_2) else (crossbuckref05_Port.j0 k a1 a2 (decide (a1 ≥ (l0_0.length : Int))) l0_0 l0_1 l0_2)) = some r := h;clear h;have HC4 := Aside0.mk H;clear H;go_enter Tryd.func75, Tryd.ntmps75
 go_upto_region 1 with (first | ((with_reducible refine gate_dst (N := 3) rfl ?_); (try (refine gate_guard (by rfl) ?_; dsimp only)); refine box_event rfl (N := 3) rfl (cs := #[.slice A0_0 l0_0.length c0_0, .slice A0_1 l0_1.length c0_1, .slice A0_2 l0_2.length c0_2]) (t := 26) gs ?_; intro gb470 hg w5 hbox hb; have n0_ := Aside0.mk (below_step (bel HB) hb); have n1_ := Aside0.mk (hbox); have n2_ := gew HB hg; have n3_ := gew HB hg; clear HB; have HB := n0_; have BK470 := n1_; have GW470 := n2_; have GE470 := n3_; clear n0_ n1_ n2_ n3_; clear hb hbox hg))
 (try simp only [Act.put, setIfInBounds_toArray, set_cons_zero, set_cons_succ])
 go_cut [15] (fun v15 wc => ∃ (kq : Nat) (x15_3 : Bool), v15 = .bool x15_3 ∧ Aside0 (crossbuckref05_Port.j0 kq a1 a2 x15_3 l0_0 l0_1 l0_2 = some r) ∧ Aside0 (kq ≤ k) ∧ Aside0 (wc.heap[gb470]? = some (.cells #[(.slice A0_0 l0_0.length c0_0), (.slice A0_1 l0_1.length c0_1), (.slice A0_2 l0_2.length c0_2)] 26 (0, 0))) ∧ Aside0 (Below w.heap.size w wc))
 case first =>
  have H := HC4.out;clear HC4
  by_cases c6 : a1 < 0
  ·rw [if_pos c6] at H
   have c6b0 : decide (a1 < 0) = true := decide_eq_true c6;clear c6;(first | rw [c6b0] | (simp only [i64_w, i32_w]; rw [c6b0]) | skip);have H' := Aside0.mk H;clear H;go_wp2;go_meet
   case rel => exact ⟨_, (true), (by first | rfl | (simp; done) | (simp [*]; done)), H', ⟨by first | omega | exact Nat.le_refl _⟩, ⟨bkp⟩, ⟨by repeat (first | (with_reducible first | exact HB.out | apply below_alloc | apply pw_below_drewN | apply below_drew1 | refine below_set ?_ GE470.out) | exact HB.out)⟩⟩
  ·rw [if_neg c6] at H
   have c6b0 : decide (a1 < 0) = false := decide_eq_false c6;clear c6;(first | rw [c6b0] | (simp only [i64_w, i32_w]; rw [c6b0]) | skip);have H' := Aside0.mk H;clear H;have hcz7 := cz3 BK470.out;go_wp2;go_meet
   case rel => exact ⟨_, (decide (a1 ≥ (l0_0.length : Int))), (by first | rfl | (simp; done) | (simp [*]; done)), H', ⟨by first | omega | exact Nat.le_refl _⟩, ⟨bkp⟩, ⟨by repeat (first | (with_reducible first | exact HB.out | apply below_alloc | apply pw_below_drewN | apply below_drew1 | refine below_set ?_ GE470.out) | exact HB.out)⟩⟩
 case rest =>
  clear HC4
  try clear p2
  try clear c6
  try clear c6b0
  try clear c7
  try clear hcz7
  obtain ⟨kq, x15_3, rfl, HA, HJ3, BK470, HB⟩ := hcut
  cases kq with
  | zero => exact absurd HA.out (by simp [crossbuckref05_Port.j0])
  | succ kj3 =>
   have H := HA.out;clear HA;simp only [crossbuckref05_Port.j0] at H
   by_cases c8 : x15_3 = true
   ·subst c8
    have H1 : (some 10) = some r := by rw [if_pos rfl] at H; exact H
    clear H;have H := H1;clear H1;obtain rfl := Option.some.inj H;go_wp2;go_ret
    exact ⟨fin, bel HB⟩
   ·replace c8 := Bool.eq_false_iff.mpr c8
    subst c8
    have H1 : (if a2 < 0 then (some 11) else (if 0 ≤ a1 then (if a1 < (l0_0.length : Int) then (if a2 ≥ (rd l0_0 a1) then (some 11) else (some 0)) else (none)) else (none))) = some r := by rw [if_neg (show ¬ (false = true) by decide)] at H; exact H
    clear H;have H := H1;clear H1
    by_cases c9 : a2 < 0
    ·rw [if_pos c9] at H
     have c9b0 : decide (a2 < 0) = true := decide_eq_true c9;clear c9;obtain rfl := Option.some.inj H;go_wp2;go_ret
     exact ⟨fin, bel HB⟩
    ·rw [if_neg c9] at H
     have c9b0 : decide (a2 < 0) = false := decide_eq_false c9;clear c9
     by_cases c10 : 0 ≤ a1
     ·rw [if_pos c10] at H
      have c10b0 : decide (0 ≤ a1) = true := decide_eq_true c10;clear c10
      by_cases c11 : a1 < (l0_0.length : Int)
      ·rw [if_pos c11] at H
       have c11b0 : decide (a1 < (l0_0.length : Int)) = true := decide_eq_true c11;clear c11
       by_cases c12 : a2 ≥ (rd l0_0 a1)
       ·rw [if_pos c12] at H
        have c12b0 : decide ((rd l0_0 a1) ≤ a2) = true := decide_eq_true c12;clear c12;obtain rfl := Option.some.inj H;have hcz13 := cz3 BK470.out
        have p471 : 0 ≤ (a1 : Int) := of_decide_eq_true (by first | (with_reducible assumption) | assumption)
        have q471 : a1 < (l0_0.length : Int) := of_decide_eq_true (by first | (with_reducible assumption) | assumption)
        obtain ⟨ad471, e471, hx471_0⟩ := Kd.at_int HR0_0.out a1 p471 q471
        cases e471
        replace hx471_0 := mv HB hx471_0;replace p471 := eq_true p471;replace q471 := eq_true q471;go_wp2;go_ret
        exact ⟨fin, bel HB⟩
       ·rw [if_neg c12] at H
        have c12b0 : decide ((rd l0_0 a1) ≤ a2) = false := decide_eq_false c12;clear c12;obtain rfl := Option.some.inj H;have hcz14 := cz3 BK470.out
        have p471 : 0 ≤ (a1 : Int) := of_decide_eq_true (by first | (with_reducible assumption) | assumption)
        have q471 : a1 < (l0_0.length : Int) := of_decide_eq_true (by first | (with_reducible assumption) | assumption)
        obtain ⟨ad471, e471, hx471_0⟩ := Kd.at_int HR0_0.out a1 p471 q471
        cases e471
        replace hx471_0 := mv HB hx471_0;replace p471 := eq_true p471;replace q471 := eq_true q471;go_wp2;go_ret
        exact ⟨fin, bel HB⟩
      ·rw [if_neg c11] at H
       exact absurd H (by simp)
     ·rw [if_neg c10] at H
      exact absurd H (by simp)

end Go.Proofs.YtloclimoffhbhaaDoor.PSto
