-- Written by wip/myprint.py and wip/merge.py (this session's own programs); Lean checks it.
import Derived.Test.YtdemogdagemagaaPTgx0
import Derived.Test.YtdemogdagemagaaPTgx4
import Derived.Test.YtdemogdagemagaaPTgx5
namespace Go.Proofs.Ytdemogdagemagaa.PTg
open Go.RowKit Go.Proofs.YtdemogdagemagaaW.PrintWords Go.Proofs.YtdemogdagemagaaW.PrintLast Go.Proofs.YtdemogdagemagaaW.PrintMore
attribute [local go_sem] max2_int min2_int max_two min_two max_three min_three max_four min_four   -- for this text's walks alone
set_option linter.unusedVariables false
set_option linter.unusedSimpArgs false

/-! ### crossbucklaw05_awake: function 12 -/
def crossbucklaw05_awake.f (k : Nat)  : Option (Bool) := (some (([1, 1] : List Int) : List Int)).bind fun y119 => ((some (([(⟨0, 0, 1, 0⟩ : S39)] : List (S39)) : List (S39))).bind fun y122 => ((topo_Peer.f k y119 y122 ([] : List (S52)) 0 0).bind fun bt126 => (if bt126.2.2 = true then (if bt126.1 = 1 then (if bt126.2.1 = 0 then ((topo_Check.f k y119 y122 ([] : List (S52))).bind fun t129 => (some (t129 == 0))) else (some false)) else (some false)) else (some false))))
theorem crossbucklaw05_awake.mono : ∀ k, LeO (crossbucklaw05_awake.f k ) (crossbucklaw05_awake.f (k + 1) ) := by
  intro  k
  unfold crossbucklaw05_awake.f
  repeat' first
      | (with_reducible exact topo_Check.mono _ _ _ _)
      | (with_reducible exact topo_Peer.mono _ _ _ _ _ _)
      | (with_reducible exact LeO.refl _)
      | (with_reducible exact LeO.none _)
      | (with_reducible refine LeO.ite ?_ ?_)
      | (with_reducible refine LeO.bind ?_ (fun _ => ?_))
      | exact topo_Check.mono _ _ _ _
      | exact topo_Peer.mono _ _ _ _ _ _
      | exact LeO.none _
      | refine LeO.ite ?_ ?_
      | refine LeO.bind ?_ (fun _ => ?_)
set_option maxHeartbeats 8000000 in
set_option maxRecDepth 100000 in
theorem crossbucklaw05_awake.calls (k : Nat)  (r : Bool) (w : World) (h : crossbucklaw05_awake.f k  = some r) :
    Calls Try.prog 12 #[] w fun e w' => e = .returned (.bool r) ∧ Below w.heap.size w w' := by
  have hu39 := Try.underlying39
  have hu26 := Try.underlying26
  have HB := Aside0.mk (Below.refl w.heap.size w)
  have H : ((some (([1, 1] : List Int) : List Int)).bind fun y119 => ((some (([(⟨0, 0, 1, 0⟩ : S39)] : List (S39)) : List (S39))).bind fun y122 => ((topo_Peer.f k y119 y122 ([] : List (S52)) 0 0).bind fun bt126 => (if bt126.2.2 = true then (if bt126.1 = 1 then (if bt126.2.1 = 0 then ((topo_Check.f k y119 y122 ([] : List (S52))).bind fun t129 => (some (t129 == 0))) else (some false)) else (some false)) else (some false))))) = some r := h
  clear h
  obtain ⟨y119, hy119⟩ : ∃ y_ : List Int, y_ = (([1, 1] : List Int)) := ⟨_, rfl⟩
  replace H : ((some (([(⟨0, 0, 1, 0⟩ : S39)] : List (S39)) : List (S39))).bind fun y122 => ((topo_Peer.f k y119 y122 ([] : List (S52)) 0 0).bind fun bt126 => (if bt126.2.2 = true then (if bt126.1 = 1 then (if bt126.2.1 = 0 then ((topo_Check.f k y119 y122 ([] : List (S52))).bind fun t129 => (some (t129 == 0))) else (some false)) else (some false)) else (some false)))) = some r := by first | (rw [hy119]; with_reducible exact H) | (have H2_ := (Option.bind_some _ _).symm.trans H; rw [hy119]; with_reducible exact H2_) | (have H2_ := (Option.bind_some _ _).symm.trans H; with_reducible exact H2_) | with_reducible exact H | (rw [hy119]; exact H) | exact H
  have Ny119 := Aside0.mk hy119
  clear hy119
  obtain ⟨y122, hy122⟩ : ∃ y_ : List (S39), y_ = (([(⟨0, 0, 1, 0⟩ : S39)] : List (S39))) := ⟨_, rfl⟩
  replace H : ((topo_Peer.f k y119 y122 ([] : List (S52)) 0 0).bind fun bt126 => (if bt126.2.2 = true then (if bt126.1 = 1 then (if bt126.2.1 = 0 then ((topo_Check.f k y119 y122 ([] : List (S52))).bind fun t129 => (some (t129 == 0))) else (some false)) else (some false)) else (some false))) = some r := by first | (rw [hy122]; with_reducible exact H) | (have H2_ := (Option.bind_some _ _).symm.trans H; rw [hy122]; with_reducible exact H2_) | (have H2_ := (Option.bind_some _ _).symm.trans H; with_reducible exact H2_) | with_reducible exact H | (rw [hy122]; exact H) | exact H
  have Ny122 := Aside0.mk hy122
  clear hy122
  replace H := Option.bind_eq_some_iff.mp H
  obtain ⟨⟨t126, t127, t128⟩, A10, H⟩ := H
  replace H : (if t128 = true then (if t126 = 1 then (if t127 = 0 then ((topo_Check.f k y119 y122 ([] : List (S52))).bind fun t129 => (some (t129 == 0))) else (some false)) else (some false)) else (some false)) = some r := H
  have A1 := Aside0.mk A10
  clear A10
  by_cases c2 : t128 = true
  · subst c2
    have H1 : (if t126 = 1 then (if t127 = 0 then ((topo_Check.f k y119 y122 ([] : List (S52))).bind fun t129 => (some (t129 == 0))) else (some false)) else (some false)) = some r := by rw [if_pos rfl] at H; exact H
    clear H
    have H := H1
    clear H1
    by_cases c3 : t126 = 1
    · rw [if_pos c3] at H
      have c3b0 : (t126 == 1) = true := beq_iff_eq.mpr c3
      have c3b1 : (t126 != 1) = false := bne_eq_false_iff_eq.mpr c3
      clear c3
      by_cases c4 : t127 = 0
      · rw [if_pos c4] at H
        have c4b0 : (t127 == 0) = true := beq_iff_eq.mpr c4
        have c4b1 : (t127 != 0) = false := bne_eq_false_iff_eq.mpr c4
        clear c4
        replace H := Option.bind_eq_some_iff.mp H
        obtain ⟨t129, A50, H⟩ := H
        replace H : (some (t129 == 0)) = some r := H
        have A5 := Aside0.mk A50
        clear A50
        obtain rfl := Option.some.inj H
        go_enter Try.func12, Try.ntmps12
        go_wp2_with (first | ((with_reducible refine gate_dst (N := 5) rfl ?_); refine Kd.R_lit (Kd.int .i64) _ 3 ?hg (N := 5) ?hd (xs := ([1, 1] : List Int)) (inner := [.int .i64 1, .int .i64 1]) (ok := fun _ => True) (okp := fun _ => True) ?hr ?hp (fun _ hk => hk) trivial (Below.refl _ _) (Nat.le_refl _) (by simp) ?_; (case hd => rfl); (case hg => rfl); (case hr => first | (go_simp; done) | (go_simp; rfl)); (case hp => exact (Reps.one (show Kd.M (Kd.int .i64) _ _ _ 1 [.int .i64 1] from rfl) (Reps.one (show Kd.M (Kd.int .i64) _ _ _ 1 [.int .i64 1] from rfl) (Reps.none _ _)))); intro v120 w6 ho7 hb hg_ hnew_; clear hg_ hnew_; (first | rw [← Ny119.out] at ho7 | (simp only [Int.reduceToNat] at ho7; rw [← Ny119.out] at ho7)); have n0_ := Aside0.mk (Kd.R_lower ho7 (below_size (by repeat (first | (with_reducible first | exact HB.out | apply below_alloc | apply pw_below_drewN | apply below_drew1) | exact HB.out)))); have n1_ := Aside0.mk (below_step (by repeat (first | (with_reducible first | exact HB.out | apply below_alloc | apply pw_below_drewN | apply below_drew1) | exact HB.out)) hb); clear HB; have HO121 := n0_; have HB := n1_; clear n0_ n1_; clear hb ho7) | ((with_reducible refine gate_dst (N := 7) rfl ?_); refine Kd.R_lit k39 _ 39 ?hg (N := 7) ?hd (xs := ([(⟨0, 0, 1, 0⟩ : S39)] : List (S39))) (inner := [.int .i64 0, .int .i64 0, .int .i64 1, .int .i64 0]) (ok := fun _ => True) (okp := fun _ => True) ?hr ?hp (fun _ hk => hk) trivial (Below.refl _ _) (Nat.le_refl _) (by simp) ?_; (case hd => rfl); (case hg => rfl); (case hr => first | (go_simp; done) | (go_simp; rfl)); (case hp => exact (Reps.c4 (show Kd.M k39 _ _ _ (⟨0, 0, 1, 0⟩ : S39) [.int .i64 0, .int .i64 0, .int .i64 1, .int .i64 0] from (k39_mkM _ _ _ (⟨0, 0, 1, 0⟩ : S39) )) (Reps.none _ _))); intro v123 w8 ho9 hb hg_ hnew_; clear hg_ hnew_; (first | rw [← Ny122.out] at ho9 | (simp only [Int.reduceToNat] at ho9; rw [← Ny122.out] at ho9)); have n0_ := Aside0.mk (Kd.R_below (by (with_reducible repeat (first | apply Kd.R_alloc | apply Kd.R_drewN | apply Kd.R_drew)); exact HO121.out) hb); have n1_ := Aside0.mk (Kd.R_lower ho9 (below_size (by repeat (first | (with_reducible first | exact HB.out | apply below_alloc | apply pw_below_drewN | apply below_drew1) | exact HB.out)))); have n2_ := Aside0.mk (below_step (by repeat (first | (with_reducible first | exact HB.out | apply below_alloc | apply pw_below_drewN | apply below_drew1) | exact HB.out)) hb); clear HO121; clear HB; have HO121 := n0_; have HO124 := n1_; have HB := n2_; clear n0_ n1_ n2_; clear hb ho9; obtain ⟨Ao10, co10, eo10⟩ := Kd.R_slice HO124.out; subst eo10; obtain ⟨Ao11, co11, eo11⟩ := Kd.R_slice HO121.out; subst eo11) | ((with_reducible refine gate_dst (N := 1) rfl ?_); refine box_event ?hg (N := 1) ?hd (cs := #[.slice none 0 0, .slice none 0 0, .slice none 0 0]) (t := 26) ?hr ?_; (case hd => rfl); (case hg => rfl); (case hr => first | (go_simp; done) | (go_simp; rfl)); intro gb125 hg w12 hbox hb; have n0_ := Aside0.mk (Kd.R_below (by (with_reducible repeat (first | apply Kd.R_alloc | apply Kd.R_drewN | apply Kd.R_drew)); exact HO121.out) hb); have n1_ := Aside0.mk (Kd.R_below (by (with_reducible repeat (first | apply Kd.R_alloc | apply Kd.R_drewN | apply Kd.R_drew)); exact HO124.out) hb); have n2_ := Aside0.mk (below_step (by repeat (first | (with_reducible first | exact HB.out | apply below_alloc | apply pw_below_drewN | apply below_drew1) | exact HB.out)) hb); have n3_ := Aside0.mk (hbox); have n4_ := Aside0.mk ((by rw [hg]; exact (below_size (by repeat (first | (with_reducible first | exact HB.out | apply below_alloc | apply pw_below_drewN | apply below_drew1) | exact HB.out))) : w.heap.size ≤ gb125)); have n5_ := Aside0.mk ((by rw [hg]; exact (below_size (by repeat (first | (with_reducible first | exact HB.out | apply below_alloc | apply pw_below_drewN | apply below_drew1) | exact HB.out))) : w.heap.size ≤ gb125)); clear HO121; clear HO124; clear HB; have HO121 := n0_; have HO124 := n1_; have HB := n2_; have BK125 := n3_; have GW125 := n4_; have GE125 := n5_; clear n0_ n1_ n2_ n3_ n4_ n5_; clear hb hbox hg; have hcz13_0 : w12.cell? ⟨gb125, 0, none⟩ = some (.slice none 0 0) := (blk_cell BK125.out 0).trans rfl; have hcz13_1 : w12.cell? ⟨gb125, 1, none⟩ = some (.slice none 0 0) := (blk_cell BK125.out 1).trans rfl; have hcz13_2 : w12.cell? ⟨gb125, 2, none⟩ = some (.slice none 0 0) := (blk_cell BK125.out 2).trans rfl; have hfz13_0 := blk_frozen BK125.out 0; have hfz13_1 := blk_frozen BK125.out 1; have hfz13_2 := blk_frozen BK125.out 2) | ((with_reducible refine gate_callee (f := 18) rfl ?_); refine goesL_ (some 11) rfl rfl Try.func18 (by kernel_rfl) rfl #[.agg #[.slice Ao11 y119.length co11, .slice Ao10 y122.length co10, .slice none 0 0], .int .i64 0, .int .i64 0] rfl (by (try simp only [List.map_toArray, List.map_cons, List.map_nil]); first | done | rfl | (simp only [List.length_drop, List.length_take]; rfl)) ?_; (refine (topo_Peer.calls k _ _ y119 _ _ y122 _ _ ([] : List (S52)) 0 0 t126 t127 true _ ?side1 ?side2 ?side3 ?side4 ?side5 ?side6 A1.out).mono ?_); (case side1 => refine (Kd.R_reads' (e := 3) (base := w.heap.size) (ok := fun k_ => True) (n := y119.length) (c := co11) ?_).2.2; exact (by (with_reducible repeat (first | apply Kd.R_alloc | apply Kd.R_drewN | apply Kd.R_drew)); exact (Kd.R_mono (Kd.R_far (p := ⟨gb125, 2, none⟩) (Kd.R_far (p := ⟨gb125, 1, none⟩) (Kd.R_far (p := ⟨gb125, 0, none⟩) (Kd.R_types HO121.out BK125.out (by decide)) (fun _ hk => hk.2) (.slice Ao11 y119.length co11)) (fun _ hk => hk.2) (.slice Ao10 y122.length co10)) (fun _ hk => hk.2) (.slice none 0 0)) (fun _ h_ => h_.1)))); (case side2 => exact (Kd.R_reads' HO121.out).2.1); (case side3 => refine (Kd.R_reads' (e := 39) (base := w.heap.size) (ok := fun k_ => True) (n := y122.length) (c := co10) ?_).2.2; exact (by (with_reducible repeat (first | apply Kd.R_alloc | apply Kd.R_drewN | apply Kd.R_drew)); exact (Kd.R_mono (Kd.R_far (p := ⟨gb125, 2, none⟩) (Kd.R_far (p := ⟨gb125, 1, none⟩) (Kd.R_far (p := ⟨gb125, 0, none⟩) (Kd.R_types HO124.out BK125.out (by decide)) (fun _ hk => hk.2) (.slice Ao11 y119.length co11)) (fun _ hk => hk.2) (.slice Ao10 y122.length co10)) (fun _ hk => hk.2) (.slice none 0 0)) (fun _ h_ => h_.1)))); (case side4 => exact (Kd.R_reads' HO124.out).2.1); (case side5 => exact Kd.C_nil _ _); (case side6 => exact Nat.le_refl _); rintro e w14 ⟨rfl, hb⟩; refine ⟨_, rfl, ?_⟩; have n0_ := Aside0.mk (Kd.R_below (by (with_reducible repeat (first | apply Kd.R_alloc | apply Kd.R_drewN | apply Kd.R_drew)); exact (Kd.R_mono (Kd.R_far (p := ⟨gb125, 2, none⟩) (Kd.R_far (p := ⟨gb125, 1, none⟩) (Kd.R_far (p := ⟨gb125, 0, none⟩) (Kd.R_types HO121.out BK125.out (by decide)) (fun _ hk => hk.2) (.slice Ao11 y119.length co11)) (fun _ hk => hk.2) (.slice Ao10 y122.length co10)) (fun _ hk => hk.2) (.slice none 0 0)) (fun _ h_ => h_.1))) hb); have n1_ := Aside0.mk (Kd.R_below (by (with_reducible repeat (first | apply Kd.R_alloc | apply Kd.R_drewN | apply Kd.R_drew)); exact (Kd.R_mono (Kd.R_far (p := ⟨gb125, 2, none⟩) (Kd.R_far (p := ⟨gb125, 1, none⟩) (Kd.R_far (p := ⟨gb125, 0, none⟩) (Kd.R_types HO124.out BK125.out (by decide)) (fun _ hk => hk.2) (.slice Ao11 y119.length co11)) (fun _ hk => hk.2) (.slice Ao10 y122.length co10)) (fun _ hk => hk.2) (.slice none 0 0)) (fun _ h_ => h_.1))) hb); have n2_ := Aside0.mk (blk_below (g := gb125) (o := .cells #[.slice Ao11 y119.length co11, .slice Ao10 y122.length co10, .slice none 0 0] 26 (0, 0)) (by (with_reducible repeat (first | refine blk_drewN ?_ _ | refine blk_drew ?_ | refine blk_alloc ?_ _)); refine blk_put (cs := #[.slice Ao11 y119.length co11, .slice Ao10 y122.length co10, .slice none 0 0]) ?_ 2 _ rfl; (with_reducible repeat (first | refine blk_drewN ?_ _ | refine blk_drew ?_ | refine blk_alloc ?_ _)); refine blk_put (cs := #[.slice Ao11 y119.length co11, .slice none 0 0, .slice none 0 0]) ?_ 1 _ rfl; (with_reducible repeat (first | refine blk_drewN ?_ _ | refine blk_drew ?_ | refine blk_alloc ?_ _)); refine blk_put (cs := #[.slice none 0 0, .slice none 0 0, .slice none 0 0]) ?_ 0 _ rfl; (with_reducible repeat (first | refine blk_drewN ?_ _ | refine blk_drew ?_ | refine blk_alloc ?_ _)); exact BK125.out) hb); have n3_ := Aside0.mk (below_step (by repeat (first | (with_reducible first | exact HB.out | apply below_alloc | apply pw_below_drewN | apply below_drew1 | refine below_set ?_ GE125.out) | exact HB.out)) hb); clear HO121; clear HO124; clear BK125; clear HB; have HO121 := n0_; have HO124 := n1_; have BK125 := n2_; have HB := n3_; clear n0_ n1_ n2_ n3_; (try clear hb); (try clear hb2); (try clear hk); (try clear hi); have hcz15_0 : w14.cell? ⟨gb125, 0, none⟩ = some (.slice Ao11 y119.length co11) := (blk_cell BK125.out 0).trans rfl; have hcz15_1 : w14.cell? ⟨gb125, 1, none⟩ = some (.slice Ao10 y122.length co10) := (blk_cell BK125.out 1).trans rfl; have hcz15_2 : w14.cell? ⟨gb125, 2, none⟩ = some (.slice none 0 0) := (blk_cell BK125.out 2).trans rfl; have hfz15_0 := blk_frozen BK125.out 0; have hfz15_1 := blk_frozen BK125.out 1; have hfz15_2 := blk_frozen BK125.out 2) | (go_at_call 13; (refine (topo_Check.calls k _ _ y119 _ _ y122 _ _ ([] : List (S52)) t129 _ ?side1 ?side2 ?side3 ?side4 ?side5 ?side6 A5.out).mono ?_); (case side1 => repeat (first | exact (Kd.R_reads' HO121.out).2.2 | (with_reducible refine Kd.C_alloc ?_ _) | (with_reducible refine Kd.C_drewN ?_ _) | (with_reducible refine Kd.C_drew ?_))); (case side2 => exact (Kd.R_reads' HO121.out).2.1); (case side3 => repeat (first | exact (Kd.R_reads' HO124.out).2.2 | (with_reducible refine Kd.C_alloc ?_ _) | (with_reducible refine Kd.C_drewN ?_ _) | (with_reducible refine Kd.C_drew ?_))); (case side4 => exact (Kd.R_reads' HO124.out).2.1); (case side5 => exact Kd.C_nil _ _); (case side6 => exact Nat.le_refl _); rintro e w16 ⟨rfl, hb⟩; have n0_ := Aside0.mk (Kd.R_below (by (with_reducible repeat (first | apply Kd.R_alloc | apply Kd.R_drewN | apply Kd.R_drew)); exact HO121.out) hb); have n1_ := Aside0.mk (Kd.R_below (by (with_reducible repeat (first | apply Kd.R_alloc | apply Kd.R_drewN | apply Kd.R_drew)); exact HO124.out) hb); have n2_ := Aside0.mk (blk_below (g := gb125) (o := .cells #[.slice Ao11 y119.length co11, .slice Ao10 y122.length co10, .slice none 0 0] 26 (0, 0)) (by (with_reducible repeat (first | refine blk_drewN ?_ _ | refine blk_drew ?_ | refine blk_alloc ?_ _)); exact BK125.out) hb); have n3_ := Aside0.mk (below_step (by repeat (first | (with_reducible first | exact HB.out | apply below_alloc | apply pw_below_drewN | apply below_drew1 | refine below_set ?_ GE125.out) | exact HB.out)) hb); clear HO121; clear HO124; clear BK125; clear HB; have HO121 := n0_; have HO124 := n1_; have BK125 := n2_; have HB := n3_; clear n0_ n1_ n2_ n3_; (try clear hb); (try clear hb2); (try clear hk); (try clear hi)))
        go_ret
        exact ⟨by first | rfl | (simp [errW_none, errW_some] <;> rfl) | (simp [*, errW_none, errW_some] <;> rfl), by repeat (first | (with_reducible first | exact HB.out | apply below_alloc | apply pw_below_drewN | apply below_drew1 | refine below_set ?_ GE125.out) | exact HB.out)⟩
      · rw [if_neg c4] at H
        have c4b0 : (t127 == 0) = false := beq_eq_false_iff_ne.mpr c4
        have c4b1 : (t127 != 0) = true := bne_iff_ne.mpr c4
        obtain rfl := Option.some.inj H
        go_enter Try.func12, Try.ntmps12
        go_wp2_with (first | ((with_reducible refine gate_dst (N := 5) rfl ?_); refine Kd.R_lit (Kd.int .i64) _ 3 ?hg (N := 5) ?hd (xs := ([1, 1] : List Int)) (inner := [.int .i64 1, .int .i64 1]) (ok := fun _ => True) (okp := fun _ => True) ?hr ?hp (fun _ hk => hk) trivial (Below.refl _ _) (Nat.le_refl _) (by simp) ?_; (case hd => rfl); (case hg => rfl); (case hr => first | (go_simp; done) | (go_simp; rfl)); (case hp => exact (Reps.one (show Kd.M (Kd.int .i64) _ _ _ 1 [.int .i64 1] from rfl) (Reps.one (show Kd.M (Kd.int .i64) _ _ _ 1 [.int .i64 1] from rfl) (Reps.none _ _)))); intro v120 w17 ho18 hb hg_ hnew_; clear hg_ hnew_; (first | rw [← Ny119.out] at ho18 | (simp only [Int.reduceToNat] at ho18; rw [← Ny119.out] at ho18)); have n0_ := Aside0.mk (Kd.R_lower ho18 (below_size (by repeat (first | (with_reducible first | exact HB.out | apply below_alloc | apply pw_below_drewN | apply below_drew1) | exact HB.out)))); have n1_ := Aside0.mk (below_step (by repeat (first | (with_reducible first | exact HB.out | apply below_alloc | apply pw_below_drewN | apply below_drew1) | exact HB.out)) hb); clear HB; have HO121 := n0_; have HB := n1_; clear n0_ n1_; clear hb ho18) | ((with_reducible refine gate_dst (N := 7) rfl ?_); refine Kd.R_lit k39 _ 39 ?hg (N := 7) ?hd (xs := ([(⟨0, 0, 1, 0⟩ : S39)] : List (S39))) (inner := [.int .i64 0, .int .i64 0, .int .i64 1, .int .i64 0]) (ok := fun _ => True) (okp := fun _ => True) ?hr ?hp (fun _ hk => hk) trivial (Below.refl _ _) (Nat.le_refl _) (by simp) ?_; (case hd => rfl); (case hg => rfl); (case hr => first | (go_simp; done) | (go_simp; rfl)); (case hp => exact (Reps.c4 (show Kd.M k39 _ _ _ (⟨0, 0, 1, 0⟩ : S39) [.int .i64 0, .int .i64 0, .int .i64 1, .int .i64 0] from (k39_mkM _ _ _ (⟨0, 0, 1, 0⟩ : S39) )) (Reps.none _ _))); intro v123 w19 ho20 hb hg_ hnew_; clear hg_ hnew_; (first | rw [← Ny122.out] at ho20 | (simp only [Int.reduceToNat] at ho20; rw [← Ny122.out] at ho20)); have n0_ := Aside0.mk (Kd.R_below (by (with_reducible repeat (first | apply Kd.R_alloc | apply Kd.R_drewN | apply Kd.R_drew)); exact HO121.out) hb); have n1_ := Aside0.mk (Kd.R_lower ho20 (below_size (by repeat (first | (with_reducible first | exact HB.out | apply below_alloc | apply pw_below_drewN | apply below_drew1) | exact HB.out)))); have n2_ := Aside0.mk (below_step (by repeat (first | (with_reducible first | exact HB.out | apply below_alloc | apply pw_below_drewN | apply below_drew1) | exact HB.out)) hb); clear HO121; clear HB; have HO121 := n0_; have HO124 := n1_; have HB := n2_; clear n0_ n1_ n2_; clear hb ho20; obtain ⟨Ao21, co21, eo21⟩ := Kd.R_slice HO124.out; subst eo21; obtain ⟨Ao22, co22, eo22⟩ := Kd.R_slice HO121.out; subst eo22) | ((with_reducible refine gate_dst (N := 1) rfl ?_); refine box_event ?hg (N := 1) ?hd (cs := #[.slice none 0 0, .slice none 0 0, .slice none 0 0]) (t := 26) ?hr ?_; (case hd => rfl); (case hg => rfl); (case hr => first | (go_simp; done) | (go_simp; rfl)); intro gb125 hg w23 hbox hb; have n0_ := Aside0.mk (Kd.R_below (by (with_reducible repeat (first | apply Kd.R_alloc | apply Kd.R_drewN | apply Kd.R_drew)); exact HO121.out) hb); have n1_ := Aside0.mk (Kd.R_below (by (with_reducible repeat (first | apply Kd.R_alloc | apply Kd.R_drewN | apply Kd.R_drew)); exact HO124.out) hb); have n2_ := Aside0.mk (below_step (by repeat (first | (with_reducible first | exact HB.out | apply below_alloc | apply pw_below_drewN | apply below_drew1) | exact HB.out)) hb); have n3_ := Aside0.mk (hbox); have n4_ := Aside0.mk ((by rw [hg]; exact (below_size (by repeat (first | (with_reducible first | exact HB.out | apply below_alloc | apply pw_below_drewN | apply below_drew1) | exact HB.out))) : w.heap.size ≤ gb125)); have n5_ := Aside0.mk ((by rw [hg]; exact (below_size (by repeat (first | (with_reducible first | exact HB.out | apply below_alloc | apply pw_below_drewN | apply below_drew1) | exact HB.out))) : w.heap.size ≤ gb125)); clear HO121; clear HO124; clear HB; have HO121 := n0_; have HO124 := n1_; have HB := n2_; have BK125 := n3_; have GW125 := n4_; have GE125 := n5_; clear n0_ n1_ n2_ n3_ n4_ n5_; clear hb hbox hg; have hcz24_0 : w23.cell? ⟨gb125, 0, none⟩ = some (.slice none 0 0) := (blk_cell BK125.out 0).trans rfl; have hcz24_1 : w23.cell? ⟨gb125, 1, none⟩ = some (.slice none 0 0) := (blk_cell BK125.out 1).trans rfl; have hcz24_2 : w23.cell? ⟨gb125, 2, none⟩ = some (.slice none 0 0) := (blk_cell BK125.out 2).trans rfl; have hfz24_0 := blk_frozen BK125.out 0; have hfz24_1 := blk_frozen BK125.out 1; have hfz24_2 := blk_frozen BK125.out 2) | ((with_reducible refine gate_callee (f := 18) rfl ?_); refine goesL_ (some 11) rfl rfl Try.func18 (by kernel_rfl) rfl #[.agg #[.slice Ao22 y119.length co22, .slice Ao21 y122.length co21, .slice none 0 0], .int .i64 0, .int .i64 0] rfl (by (try simp only [List.map_toArray, List.map_cons, List.map_nil]); first | done | rfl | (simp only [List.length_drop, List.length_take]; rfl)) ?_; (refine (topo_Peer.calls k _ _ y119 _ _ y122 _ _ ([] : List (S52)) 0 0 t126 t127 true _ ?side1 ?side2 ?side3 ?side4 ?side5 ?side6 A1.out).mono ?_); (case side1 => refine (Kd.R_reads' (e := 3) (base := w.heap.size) (ok := fun k_ => True) (n := y119.length) (c := co22) ?_).2.2; exact (by (with_reducible repeat (first | apply Kd.R_alloc | apply Kd.R_drewN | apply Kd.R_drew)); exact (Kd.R_mono (Kd.R_far (p := ⟨gb125, 2, none⟩) (Kd.R_far (p := ⟨gb125, 1, none⟩) (Kd.R_far (p := ⟨gb125, 0, none⟩) (Kd.R_types HO121.out BK125.out (by decide)) (fun _ hk => hk.2) (.slice Ao22 y119.length co22)) (fun _ hk => hk.2) (.slice Ao21 y122.length co21)) (fun _ hk => hk.2) (.slice none 0 0)) (fun _ h_ => h_.1)))); (case side2 => exact (Kd.R_reads' HO121.out).2.1); (case side3 => refine (Kd.R_reads' (e := 39) (base := w.heap.size) (ok := fun k_ => True) (n := y122.length) (c := co21) ?_).2.2; exact (by (with_reducible repeat (first | apply Kd.R_alloc | apply Kd.R_drewN | apply Kd.R_drew)); exact (Kd.R_mono (Kd.R_far (p := ⟨gb125, 2, none⟩) (Kd.R_far (p := ⟨gb125, 1, none⟩) (Kd.R_far (p := ⟨gb125, 0, none⟩) (Kd.R_types HO124.out BK125.out (by decide)) (fun _ hk => hk.2) (.slice Ao22 y119.length co22)) (fun _ hk => hk.2) (.slice Ao21 y122.length co21)) (fun _ hk => hk.2) (.slice none 0 0)) (fun _ h_ => h_.1)))); (case side4 => exact (Kd.R_reads' HO124.out).2.1); (case side5 => exact Kd.C_nil _ _); (case side6 => exact Nat.le_refl _); rintro e w25 ⟨rfl, hb⟩; refine ⟨_, rfl, ?_⟩; have n0_ := Aside0.mk (Kd.R_below (by (with_reducible repeat (first | apply Kd.R_alloc | apply Kd.R_drewN | apply Kd.R_drew)); exact (Kd.R_mono (Kd.R_far (p := ⟨gb125, 2, none⟩) (Kd.R_far (p := ⟨gb125, 1, none⟩) (Kd.R_far (p := ⟨gb125, 0, none⟩) (Kd.R_types HO121.out BK125.out (by decide)) (fun _ hk => hk.2) (.slice Ao22 y119.length co22)) (fun _ hk => hk.2) (.slice Ao21 y122.length co21)) (fun _ hk => hk.2) (.slice none 0 0)) (fun _ h_ => h_.1))) hb); have n1_ := Aside0.mk (Kd.R_below (by (with_reducible repeat (first | apply Kd.R_alloc | apply Kd.R_drewN | apply Kd.R_drew)); exact (Kd.R_mono (Kd.R_far (p := ⟨gb125, 2, none⟩) (Kd.R_far (p := ⟨gb125, 1, none⟩) (Kd.R_far (p := ⟨gb125, 0, none⟩) (Kd.R_types HO124.out BK125.out (by decide)) (fun _ hk => hk.2) (.slice Ao22 y119.length co22)) (fun _ hk => hk.2) (.slice Ao21 y122.length co21)) (fun _ hk => hk.2) (.slice none 0 0)) (fun _ h_ => h_.1))) hb); have n2_ := Aside0.mk (blk_below (g := gb125) (o := .cells #[.slice Ao22 y119.length co22, .slice Ao21 y122.length co21, .slice none 0 0] 26 (0, 0)) (by (with_reducible repeat (first | refine blk_drewN ?_ _ | refine blk_drew ?_ | refine blk_alloc ?_ _)); refine blk_put (cs := #[.slice Ao22 y119.length co22, .slice Ao21 y122.length co21, .slice none 0 0]) ?_ 2 _ rfl; (with_reducible repeat (first | refine blk_drewN ?_ _ | refine blk_drew ?_ | refine blk_alloc ?_ _)); refine blk_put (cs := #[.slice Ao22 y119.length co22, .slice none 0 0, .slice none 0 0]) ?_ 1 _ rfl; (with_reducible repeat (first | refine blk_drewN ?_ _ | refine blk_drew ?_ | refine blk_alloc ?_ _)); refine blk_put (cs := #[.slice none 0 0, .slice none 0 0, .slice none 0 0]) ?_ 0 _ rfl; (with_reducible repeat (first | refine blk_drewN ?_ _ | refine blk_drew ?_ | refine blk_alloc ?_ _)); exact BK125.out) hb); have n3_ := Aside0.mk (below_step (by repeat (first | (with_reducible first | exact HB.out | apply below_alloc | apply pw_below_drewN | apply below_drew1 | refine below_set ?_ GE125.out) | exact HB.out)) hb); clear HO121; clear HO124; clear BK125; clear HB; have HO121 := n0_; have HO124 := n1_; have BK125 := n2_; have HB := n3_; clear n0_ n1_ n2_ n3_; (try clear hb); (try clear hb2); (try clear hk); (try clear hi)))
        go_ret
        exact ⟨by first | rfl | (simp [errW_none, errW_some] <;> rfl) | (simp [*, errW_none, errW_some] <;> rfl), by repeat (first | (with_reducible first | exact HB.out | apply below_alloc | apply pw_below_drewN | apply below_drew1 | refine below_set ?_ GE125.out) | exact HB.out)⟩
    · rw [if_neg c3] at H
      have c3b0 : (t126 == 1) = false := beq_eq_false_iff_ne.mpr c3
      have c3b1 : (t126 != 1) = true := bne_iff_ne.mpr c3
      obtain rfl := Option.some.inj H
      go_enter Try.func12, Try.ntmps12
      go_wp2_with (first | ((with_reducible refine gate_dst (N := 5) rfl ?_); refine Kd.R_lit (Kd.int .i64) _ 3 ?hg (N := 5) ?hd (xs := ([1, 1] : List Int)) (inner := [.int .i64 1, .int .i64 1]) (ok := fun _ => True) (okp := fun _ => True) ?hr ?hp (fun _ hk => hk) trivial (Below.refl _ _) (Nat.le_refl _) (by simp) ?_; (case hd => rfl); (case hg => rfl); (case hr => first | (go_simp; done) | (go_simp; rfl)); (case hp => exact (Reps.one (show Kd.M (Kd.int .i64) _ _ _ 1 [.int .i64 1] from rfl) (Reps.one (show Kd.M (Kd.int .i64) _ _ _ 1 [.int .i64 1] from rfl) (Reps.none _ _)))); intro v120 w26 ho27 hb hg_ hnew_; clear hg_ hnew_; (first | rw [← Ny119.out] at ho27 | (simp only [Int.reduceToNat] at ho27; rw [← Ny119.out] at ho27)); have n0_ := Aside0.mk (Kd.R_lower ho27 (below_size (by repeat (first | (with_reducible first | exact HB.out | apply below_alloc | apply pw_below_drewN | apply below_drew1) | exact HB.out)))); have n1_ := Aside0.mk (below_step (by repeat (first | (with_reducible first | exact HB.out | apply below_alloc | apply pw_below_drewN | apply below_drew1) | exact HB.out)) hb); clear HB; have HO121 := n0_; have HB := n1_; clear n0_ n1_; clear hb ho27) | ((with_reducible refine gate_dst (N := 7) rfl ?_); refine Kd.R_lit k39 _ 39 ?hg (N := 7) ?hd (xs := ([(⟨0, 0, 1, 0⟩ : S39)] : List (S39))) (inner := [.int .i64 0, .int .i64 0, .int .i64 1, .int .i64 0]) (ok := fun _ => True) (okp := fun _ => True) ?hr ?hp (fun _ hk => hk) trivial (Below.refl _ _) (Nat.le_refl _) (by simp) ?_; (case hd => rfl); (case hg => rfl); (case hr => first | (go_simp; done) | (go_simp; rfl)); (case hp => exact (Reps.c4 (show Kd.M k39 _ _ _ (⟨0, 0, 1, 0⟩ : S39) [.int .i64 0, .int .i64 0, .int .i64 1, .int .i64 0] from (k39_mkM _ _ _ (⟨0, 0, 1, 0⟩ : S39) )) (Reps.none _ _))); intro v123 w28 ho29 hb hg_ hnew_; clear hg_ hnew_; (first | rw [← Ny122.out] at ho29 | (simp only [Int.reduceToNat] at ho29; rw [← Ny122.out] at ho29)); have n0_ := Aside0.mk (Kd.R_below (by (with_reducible repeat (first | apply Kd.R_alloc | apply Kd.R_drewN | apply Kd.R_drew)); exact HO121.out) hb); have n1_ := Aside0.mk (Kd.R_lower ho29 (below_size (by repeat (first | (with_reducible first | exact HB.out | apply below_alloc | apply pw_below_drewN | apply below_drew1) | exact HB.out)))); have n2_ := Aside0.mk (below_step (by repeat (first | (with_reducible first | exact HB.out | apply below_alloc | apply pw_below_drewN | apply below_drew1) | exact HB.out)) hb); clear HO121; clear HB; have HO121 := n0_; have HO124 := n1_; have HB := n2_; clear n0_ n1_ n2_; clear hb ho29; obtain ⟨Ao30, co30, eo30⟩ := Kd.R_slice HO124.out; subst eo30; obtain ⟨Ao31, co31, eo31⟩ := Kd.R_slice HO121.out; subst eo31) | ((with_reducible refine gate_dst (N := 1) rfl ?_); refine box_event ?hg (N := 1) ?hd (cs := #[.slice none 0 0, .slice none 0 0, .slice none 0 0]) (t := 26) ?hr ?_; (case hd => rfl); (case hg => rfl); (case hr => first | (go_simp; done) | (go_simp; rfl)); intro gb125 hg w32 hbox hb; have n0_ := Aside0.mk (Kd.R_below (by (with_reducible repeat (first | apply Kd.R_alloc | apply Kd.R_drewN | apply Kd.R_drew)); exact HO121.out) hb); have n1_ := Aside0.mk (Kd.R_below (by (with_reducible repeat (first | apply Kd.R_alloc | apply Kd.R_drewN | apply Kd.R_drew)); exact HO124.out) hb); have n2_ := Aside0.mk (below_step (by repeat (first | (with_reducible first | exact HB.out | apply below_alloc | apply pw_below_drewN | apply below_drew1) | exact HB.out)) hb); have n3_ := Aside0.mk (hbox); have n4_ := Aside0.mk ((by rw [hg]; exact (below_size (by repeat (first | (with_reducible first | exact HB.out | apply below_alloc | apply pw_below_drewN | apply below_drew1) | exact HB.out))) : w.heap.size ≤ gb125)); have n5_ := Aside0.mk ((by rw [hg]; exact (below_size (by repeat (first | (with_reducible first | exact HB.out | apply below_alloc | apply pw_below_drewN | apply below_drew1) | exact HB.out))) : w.heap.size ≤ gb125)); clear HO121; clear HO124; clear HB; have HO121 := n0_; have HO124 := n1_; have HB := n2_; have BK125 := n3_; have GW125 := n4_; have GE125 := n5_; clear n0_ n1_ n2_ n3_ n4_ n5_; clear hb hbox hg; have hcz33_0 : w32.cell? ⟨gb125, 0, none⟩ = some (.slice none 0 0) := (blk_cell BK125.out 0).trans rfl; have hcz33_1 : w32.cell? ⟨gb125, 1, none⟩ = some (.slice none 0 0) := (blk_cell BK125.out 1).trans rfl; have hcz33_2 : w32.cell? ⟨gb125, 2, none⟩ = some (.slice none 0 0) := (blk_cell BK125.out 2).trans rfl; have hfz33_0 := blk_frozen BK125.out 0; have hfz33_1 := blk_frozen BK125.out 1; have hfz33_2 := blk_frozen BK125.out 2) | ((with_reducible refine gate_callee (f := 18) rfl ?_); refine goesL_ (some 11) rfl rfl Try.func18 (by kernel_rfl) rfl #[.agg #[.slice Ao31 y119.length co31, .slice Ao30 y122.length co30, .slice none 0 0], .int .i64 0, .int .i64 0] rfl (by (try simp only [List.map_toArray, List.map_cons, List.map_nil]); first | done | rfl | (simp only [List.length_drop, List.length_take]; rfl)) ?_; (refine (topo_Peer.calls k _ _ y119 _ _ y122 _ _ ([] : List (S52)) 0 0 t126 t127 true _ ?side1 ?side2 ?side3 ?side4 ?side5 ?side6 A1.out).mono ?_); (case side1 => refine (Kd.R_reads' (e := 3) (base := w.heap.size) (ok := fun k_ => True) (n := y119.length) (c := co31) ?_).2.2; exact (by (with_reducible repeat (first | apply Kd.R_alloc | apply Kd.R_drewN | apply Kd.R_drew)); exact (Kd.R_mono (Kd.R_far (p := ⟨gb125, 2, none⟩) (Kd.R_far (p := ⟨gb125, 1, none⟩) (Kd.R_far (p := ⟨gb125, 0, none⟩) (Kd.R_types HO121.out BK125.out (by decide)) (fun _ hk => hk.2) (.slice Ao31 y119.length co31)) (fun _ hk => hk.2) (.slice Ao30 y122.length co30)) (fun _ hk => hk.2) (.slice none 0 0)) (fun _ h_ => h_.1)))); (case side2 => exact (Kd.R_reads' HO121.out).2.1); (case side3 => refine (Kd.R_reads' (e := 39) (base := w.heap.size) (ok := fun k_ => True) (n := y122.length) (c := co30) ?_).2.2; exact (by (with_reducible repeat (first | apply Kd.R_alloc | apply Kd.R_drewN | apply Kd.R_drew)); exact (Kd.R_mono (Kd.R_far (p := ⟨gb125, 2, none⟩) (Kd.R_far (p := ⟨gb125, 1, none⟩) (Kd.R_far (p := ⟨gb125, 0, none⟩) (Kd.R_types HO124.out BK125.out (by decide)) (fun _ hk => hk.2) (.slice Ao31 y119.length co31)) (fun _ hk => hk.2) (.slice Ao30 y122.length co30)) (fun _ hk => hk.2) (.slice none 0 0)) (fun _ h_ => h_.1)))); (case side4 => exact (Kd.R_reads' HO124.out).2.1); (case side5 => exact Kd.C_nil _ _); (case side6 => exact Nat.le_refl _); rintro e w34 ⟨rfl, hb⟩; refine ⟨_, rfl, ?_⟩; have n0_ := Aside0.mk (Kd.R_below (by (with_reducible repeat (first | apply Kd.R_alloc | apply Kd.R_drewN | apply Kd.R_drew)); exact (Kd.R_mono (Kd.R_far (p := ⟨gb125, 2, none⟩) (Kd.R_far (p := ⟨gb125, 1, none⟩) (Kd.R_far (p := ⟨gb125, 0, none⟩) (Kd.R_types HO121.out BK125.out (by decide)) (fun _ hk => hk.2) (.slice Ao31 y119.length co31)) (fun _ hk => hk.2) (.slice Ao30 y122.length co30)) (fun _ hk => hk.2) (.slice none 0 0)) (fun _ h_ => h_.1))) hb); have n1_ := Aside0.mk (Kd.R_below (by (with_reducible repeat (first | apply Kd.R_alloc | apply Kd.R_drewN | apply Kd.R_drew)); exact (Kd.R_mono (Kd.R_far (p := ⟨gb125, 2, none⟩) (Kd.R_far (p := ⟨gb125, 1, none⟩) (Kd.R_far (p := ⟨gb125, 0, none⟩) (Kd.R_types HO124.out BK125.out (by decide)) (fun _ hk => hk.2) (.slice Ao31 y119.length co31)) (fun _ hk => hk.2) (.slice Ao30 y122.length co30)) (fun _ hk => hk.2) (.slice none 0 0)) (fun _ h_ => h_.1))) hb); have n2_ := Aside0.mk (blk_below (g := gb125) (o := .cells #[.slice Ao31 y119.length co31, .slice Ao30 y122.length co30, .slice none 0 0] 26 (0, 0)) (by (with_reducible repeat (first | refine blk_drewN ?_ _ | refine blk_drew ?_ | refine blk_alloc ?_ _)); refine blk_put (cs := #[.slice Ao31 y119.length co31, .slice Ao30 y122.length co30, .slice none 0 0]) ?_ 2 _ rfl; (with_reducible repeat (first | refine blk_drewN ?_ _ | refine blk_drew ?_ | refine blk_alloc ?_ _)); refine blk_put (cs := #[.slice Ao31 y119.length co31, .slice none 0 0, .slice none 0 0]) ?_ 1 _ rfl; (with_reducible repeat (first | refine blk_drewN ?_ _ | refine blk_drew ?_ | refine blk_alloc ?_ _)); refine blk_put (cs := #[.slice none 0 0, .slice none 0 0, .slice none 0 0]) ?_ 0 _ rfl; (with_reducible repeat (first | refine blk_drewN ?_ _ | refine blk_drew ?_ | refine blk_alloc ?_ _)); exact BK125.out) hb); have n3_ := Aside0.mk (below_step (by repeat (first | (with_reducible first | exact HB.out | apply below_alloc | apply pw_below_drewN | apply below_drew1 | refine below_set ?_ GE125.out) | exact HB.out)) hb); clear HO121; clear HO124; clear BK125; clear HB; have HO121 := n0_; have HO124 := n1_; have BK125 := n2_; have HB := n3_; clear n0_ n1_ n2_ n3_; (try clear hb); (try clear hb2); (try clear hk); (try clear hi)))
      go_ret
      exact ⟨by first | rfl | (simp [errW_none, errW_some] <;> rfl) | (simp [*, errW_none, errW_some] <;> rfl), by repeat (first | (with_reducible first | exact HB.out | apply below_alloc | apply pw_below_drewN | apply below_drew1 | refine below_set ?_ GE125.out) | exact HB.out)⟩
  · replace c2 := Bool.eq_false_iff.mpr c2
    subst c2
    have H1 : (some false) = some r := by rw [if_neg (show ¬ (false = true) by decide)] at H; exact H
    clear H
    have H := H1
    clear H1
    obtain rfl := Option.some.inj H
    go_enter Try.func12, Try.ntmps12
    go_wp2_with (first | ((with_reducible refine gate_dst (N := 5) rfl ?_); refine Kd.R_lit (Kd.int .i64) _ 3 ?hg (N := 5) ?hd (xs := ([1, 1] : List Int)) (inner := [.int .i64 1, .int .i64 1]) (ok := fun _ => True) (okp := fun _ => True) ?hr ?hp (fun _ hk => hk) trivial (Below.refl _ _) (Nat.le_refl _) (by simp) ?_; (case hd => rfl); (case hg => rfl); (case hr => first | (go_simp; done) | (go_simp; rfl)); (case hp => exact (Reps.one (show Kd.M (Kd.int .i64) _ _ _ 1 [.int .i64 1] from rfl) (Reps.one (show Kd.M (Kd.int .i64) _ _ _ 1 [.int .i64 1] from rfl) (Reps.none _ _)))); intro v120 w35 ho36 hb hg_ hnew_; clear hg_ hnew_; (first | rw [← Ny119.out] at ho36 | (simp only [Int.reduceToNat] at ho36; rw [← Ny119.out] at ho36)); have n0_ := Aside0.mk (Kd.R_lower ho36 (below_size (by repeat (first | (with_reducible first | exact HB.out | apply below_alloc | apply pw_below_drewN | apply below_drew1) | exact HB.out)))); have n1_ := Aside0.mk (below_step (by repeat (first | (with_reducible first | exact HB.out | apply below_alloc | apply pw_below_drewN | apply below_drew1) | exact HB.out)) hb); clear HB; have HO121 := n0_; have HB := n1_; clear n0_ n1_; clear hb ho36) | ((with_reducible refine gate_dst (N := 7) rfl ?_); refine Kd.R_lit k39 _ 39 ?hg (N := 7) ?hd (xs := ([(⟨0, 0, 1, 0⟩ : S39)] : List (S39))) (inner := [.int .i64 0, .int .i64 0, .int .i64 1, .int .i64 0]) (ok := fun _ => True) (okp := fun _ => True) ?hr ?hp (fun _ hk => hk) trivial (Below.refl _ _) (Nat.le_refl _) (by simp) ?_; (case hd => rfl); (case hg => rfl); (case hr => first | (go_simp; done) | (go_simp; rfl)); (case hp => exact (Reps.c4 (show Kd.M k39 _ _ _ (⟨0, 0, 1, 0⟩ : S39) [.int .i64 0, .int .i64 0, .int .i64 1, .int .i64 0] from (k39_mkM _ _ _ (⟨0, 0, 1, 0⟩ : S39) )) (Reps.none _ _))); intro v123 w37 ho38 hb hg_ hnew_; clear hg_ hnew_; (first | rw [← Ny122.out] at ho38 | (simp only [Int.reduceToNat] at ho38; rw [← Ny122.out] at ho38)); have n0_ := Aside0.mk (Kd.R_below (by (with_reducible repeat (first | apply Kd.R_alloc | apply Kd.R_drewN | apply Kd.R_drew)); exact HO121.out) hb); have n1_ := Aside0.mk (Kd.R_lower ho38 (below_size (by repeat (first | (with_reducible first | exact HB.out | apply below_alloc | apply pw_below_drewN | apply below_drew1) | exact HB.out)))); have n2_ := Aside0.mk (below_step (by repeat (first | (with_reducible first | exact HB.out | apply below_alloc | apply pw_below_drewN | apply below_drew1) | exact HB.out)) hb); clear HO121; clear HB; have HO121 := n0_; have HO124 := n1_; have HB := n2_; clear n0_ n1_ n2_; clear hb ho38; obtain ⟨Ao39, co39, eo39⟩ := Kd.R_slice HO124.out; subst eo39; obtain ⟨Ao40, co40, eo40⟩ := Kd.R_slice HO121.out; subst eo40) | ((with_reducible refine gate_dst (N := 1) rfl ?_); refine box_event ?hg (N := 1) ?hd (cs := #[.slice none 0 0, .slice none 0 0, .slice none 0 0]) (t := 26) ?hr ?_; (case hd => rfl); (case hg => rfl); (case hr => first | (go_simp; done) | (go_simp; rfl)); intro gb125 hg w41 hbox hb; have n0_ := Aside0.mk (Kd.R_below (by (with_reducible repeat (first | apply Kd.R_alloc | apply Kd.R_drewN | apply Kd.R_drew)); exact HO121.out) hb); have n1_ := Aside0.mk (Kd.R_below (by (with_reducible repeat (first | apply Kd.R_alloc | apply Kd.R_drewN | apply Kd.R_drew)); exact HO124.out) hb); have n2_ := Aside0.mk (below_step (by repeat (first | (with_reducible first | exact HB.out | apply below_alloc | apply pw_below_drewN | apply below_drew1) | exact HB.out)) hb); have n3_ := Aside0.mk (hbox); have n4_ := Aside0.mk ((by rw [hg]; exact (below_size (by repeat (first | (with_reducible first | exact HB.out | apply below_alloc | apply pw_below_drewN | apply below_drew1) | exact HB.out))) : w.heap.size ≤ gb125)); have n5_ := Aside0.mk ((by rw [hg]; exact (below_size (by repeat (first | (with_reducible first | exact HB.out | apply below_alloc | apply pw_below_drewN | apply below_drew1) | exact HB.out))) : w.heap.size ≤ gb125)); clear HO121; clear HO124; clear HB; have HO121 := n0_; have HO124 := n1_; have HB := n2_; have BK125 := n3_; have GW125 := n4_; have GE125 := n5_; clear n0_ n1_ n2_ n3_ n4_ n5_; clear hb hbox hg; have hcz42_0 : w41.cell? ⟨gb125, 0, none⟩ = some (.slice none 0 0) := (blk_cell BK125.out 0).trans rfl; have hcz42_1 : w41.cell? ⟨gb125, 1, none⟩ = some (.slice none 0 0) := (blk_cell BK125.out 1).trans rfl; have hcz42_2 : w41.cell? ⟨gb125, 2, none⟩ = some (.slice none 0 0) := (blk_cell BK125.out 2).trans rfl; have hfz42_0 := blk_frozen BK125.out 0; have hfz42_1 := blk_frozen BK125.out 1; have hfz42_2 := blk_frozen BK125.out 2) | ((with_reducible refine gate_callee (f := 18) rfl ?_); refine goesL_ (some 11) rfl rfl Try.func18 (by kernel_rfl) rfl #[.agg #[.slice Ao40 y119.length co40, .slice Ao39 y122.length co39, .slice none 0 0], .int .i64 0, .int .i64 0] rfl (by (try simp only [List.map_toArray, List.map_cons, List.map_nil]); first | done | rfl | (simp only [List.length_drop, List.length_take]; rfl)) ?_; (refine (topo_Peer.calls k _ _ y119 _ _ y122 _ _ ([] : List (S52)) 0 0 t126 t127 false _ ?side1 ?side2 ?side3 ?side4 ?side5 ?side6 A1.out).mono ?_); (case side1 => refine (Kd.R_reads' (e := 3) (base := w.heap.size) (ok := fun k_ => True) (n := y119.length) (c := co40) ?_).2.2; exact (by (with_reducible repeat (first | apply Kd.R_alloc | apply Kd.R_drewN | apply Kd.R_drew)); exact (Kd.R_mono (Kd.R_far (p := ⟨gb125, 2, none⟩) (Kd.R_far (p := ⟨gb125, 1, none⟩) (Kd.R_far (p := ⟨gb125, 0, none⟩) (Kd.R_types HO121.out BK125.out (by decide)) (fun _ hk => hk.2) (.slice Ao40 y119.length co40)) (fun _ hk => hk.2) (.slice Ao39 y122.length co39)) (fun _ hk => hk.2) (.slice none 0 0)) (fun _ h_ => h_.1)))); (case side2 => exact (Kd.R_reads' HO121.out).2.1); (case side3 => refine (Kd.R_reads' (e := 39) (base := w.heap.size) (ok := fun k_ => True) (n := y122.length) (c := co39) ?_).2.2; exact (by (with_reducible repeat (first | apply Kd.R_alloc | apply Kd.R_drewN | apply Kd.R_drew)); exact (Kd.R_mono (Kd.R_far (p := ⟨gb125, 2, none⟩) (Kd.R_far (p := ⟨gb125, 1, none⟩) (Kd.R_far (p := ⟨gb125, 0, none⟩) (Kd.R_types HO124.out BK125.out (by decide)) (fun _ hk => hk.2) (.slice Ao40 y119.length co40)) (fun _ hk => hk.2) (.slice Ao39 y122.length co39)) (fun _ hk => hk.2) (.slice none 0 0)) (fun _ h_ => h_.1)))); (case side4 => exact (Kd.R_reads' HO124.out).2.1); (case side5 => exact Kd.C_nil _ _); (case side6 => exact Nat.le_refl _); rintro e w43 ⟨rfl, hb⟩; refine ⟨_, rfl, ?_⟩; have n0_ := Aside0.mk (Kd.R_below (by (with_reducible repeat (first | apply Kd.R_alloc | apply Kd.R_drewN | apply Kd.R_drew)); exact (Kd.R_mono (Kd.R_far (p := ⟨gb125, 2, none⟩) (Kd.R_far (p := ⟨gb125, 1, none⟩) (Kd.R_far (p := ⟨gb125, 0, none⟩) (Kd.R_types HO121.out BK125.out (by decide)) (fun _ hk => hk.2) (.slice Ao40 y119.length co40)) (fun _ hk => hk.2) (.slice Ao39 y122.length co39)) (fun _ hk => hk.2) (.slice none 0 0)) (fun _ h_ => h_.1))) hb); have n1_ := Aside0.mk (Kd.R_below (by (with_reducible repeat (first | apply Kd.R_alloc | apply Kd.R_drewN | apply Kd.R_drew)); exact (Kd.R_mono (Kd.R_far (p := ⟨gb125, 2, none⟩) (Kd.R_far (p := ⟨gb125, 1, none⟩) (Kd.R_far (p := ⟨gb125, 0, none⟩) (Kd.R_types HO124.out BK125.out (by decide)) (fun _ hk => hk.2) (.slice Ao40 y119.length co40)) (fun _ hk => hk.2) (.slice Ao39 y122.length co39)) (fun _ hk => hk.2) (.slice none 0 0)) (fun _ h_ => h_.1))) hb); have n2_ := Aside0.mk (blk_below (g := gb125) (o := .cells #[.slice Ao40 y119.length co40, .slice Ao39 y122.length co39, .slice none 0 0] 26 (0, 0)) (by (with_reducible repeat (first | refine blk_drewN ?_ _ | refine blk_drew ?_ | refine blk_alloc ?_ _)); refine blk_put (cs := #[.slice Ao40 y119.length co40, .slice Ao39 y122.length co39, .slice none 0 0]) ?_ 2 _ rfl; (with_reducible repeat (first | refine blk_drewN ?_ _ | refine blk_drew ?_ | refine blk_alloc ?_ _)); refine blk_put (cs := #[.slice Ao40 y119.length co40, .slice none 0 0, .slice none 0 0]) ?_ 1 _ rfl; (with_reducible repeat (first | refine blk_drewN ?_ _ | refine blk_drew ?_ | refine blk_alloc ?_ _)); refine blk_put (cs := #[.slice none 0 0, .slice none 0 0, .slice none 0 0]) ?_ 0 _ rfl; (with_reducible repeat (first | refine blk_drewN ?_ _ | refine blk_drew ?_ | refine blk_alloc ?_ _)); exact BK125.out) hb); have n3_ := Aside0.mk (below_step (by repeat (first | (with_reducible first | exact HB.out | apply below_alloc | apply pw_below_drewN | apply below_drew1 | refine below_set ?_ GE125.out) | exact HB.out)) hb); clear HO121; clear HO124; clear BK125; clear HB; have HO121 := n0_; have HO124 := n1_; have BK125 := n2_; have HB := n3_; clear n0_ n1_ n2_ n3_; (try clear hb); (try clear hb2); (try clear hk); (try clear hi)))
    go_ret
    exact ⟨by first | rfl | (simp [errW_none, errW_some] <;> rfl) | (simp [*, errW_none, errW_some] <;> rfl), by repeat (first | (with_reducible first | exact HB.out | apply below_alloc | apply pw_below_drewN | apply below_drew1 | refine below_set ?_ GE125.out) | exact HB.out)⟩

end Go.Proofs.Ytdemogdagemagaa.PTg

namespace Go.Proofs.Ytdemogdagemagaa.PTg
open Go.RowKit Go.Proofs.YtdemogdagemagaaW.PrintWords Go.Proofs.YtdemogdagemagaaW.PrintLast Go.Proofs.YtdemogdagemagaaW.PrintMore
attribute [local go_sem] max2_int min2_int max_two min_two max_three min_three max_four min_four   -- for this text's walks alone
set_option linter.unusedVariables false
set_option linter.unusedSimpArgs false

/-! ### crossbuckref05_Port: function 16 -/
def crossbuckref05_Port.j0 : Nat → Int → Int → Bool → List Int → List (S39) → List (S52) → Option (Int)
  | 0, _, _, _, _, _, _ => none
  | k + 1, x1, x2, x15, x131000, x131001, x131002 => if x15 = true then (some 10) else (if x2 < 0 then (some 11) else (if 0 ≤ x1 then (if x1 < (x131000.length : Int) then (if x2 ≥ (rd x131000 x1) then (some 11) else (some 0)) else (none)) else (none)))
def crossbuckref05_Port.f (k : Nat) (l0_0 : List Int) (l0_1 : List (S39)) (l0_2 : List (S52)) (a1 : Int) (a2 : Int) : Option (Int) := if a1 < 0 then (crossbuckref05_Port.j0 k a1 a2 true l0_0 l0_1 l0_2) else (crossbuckref05_Port.j0 k a1 a2 (decide (a1 ≥ (l0_0.length : Int))) l0_0 l0_1 l0_2)
theorem crossbuckref05_Port.mono_l : ∀ k, (∀ y0 y1 y2 y3 y4 y5, LeO (crossbuckref05_Port.j0 k y0 y1 y2 y3 y4 y5) (crossbuckref05_Port.j0 (k + 1) y0 y1 y2 y3 y4 y5))
  | 0 => fun _ _ _ _ _ _ r h => by simp [crossbuckref05_Port.j0] at h
  | k + 1 => by
    have ih0 := crossbuckref05_Port.mono_l k
    · intro y0 y1 y2 y3 y4 y5
      unfold crossbuckref05_Port.j0
      repeat' first
      | (with_reducible exact ih0 _ _ _ _ _ _)
      | (with_reducible exact LeO.refl _)
      | (with_reducible exact LeO.none _)
      | (with_reducible refine LeO.ite ?_ ?_)
      | (with_reducible refine LeO.bind ?_ (fun _ => ?_))
      | exact ih0 _ _ _ _ _ _
      | exact LeO.none _
      | refine LeO.ite ?_ ?_
      | refine LeO.bind ?_ (fun _ => ?_)
theorem crossbuckref05_Port.mono : ∀ a0 a1 a2 a3 a4 k, LeO (crossbuckref05_Port.f k a0 a1 a2 a3 a4) (crossbuckref05_Port.f (k + 1) a0 a1 a2 a3 a4) := by
  intro a0 a1 a2 a3 a4 k
  have ih0 := crossbuckref05_Port.mono_l k
  unfold crossbuckref05_Port.f
  repeat' first
      | (with_reducible exact ih0 _ _ _ _ _ _)
      | (with_reducible exact LeO.refl _)
      | (with_reducible exact LeO.none _)
      | (with_reducible refine LeO.ite ?_ ?_)
      | (with_reducible refine LeO.bind ?_ (fun _ => ?_))
      | exact ih0 _ _ _ _ _ _
      | exact LeO.none _
      | refine LeO.ite ?_ ?_
      | refine LeO.bind ?_ (fun _ => ?_)
set_option maxHeartbeats 8000000 in
set_option maxRecDepth 100000 in
theorem crossbuckref05_Port.calls (k : Nat) (A0_0 : Option Addr) (c0_0 : Nat) (l0_0 : List Int) (A0_1 : Option Addr) (c0_1 : Nat) (l0_1 : List (S39)) (A0_2 : Option Addr) (c0_2 : Nat) (l0_2 : List (S52)) (a1 : Int) (a2 : Int) (r : Int) (w : World) (hr0_0 : Kd.C (Kd.int .i64) w A0_0 l0_0.length l0_0) (hc0_0 : l0_0.length ≤ c0_0) (hr0_1 : Kd.C k39 w A0_1 l0_1.length l0_1) (hc0_1 : l0_1.length ≤ c0_1) (hr0_2 : Kd.C k52 w A0_2 l0_2.length l0_2) (hc0_2 : l0_2.length ≤ c0_2) (h : crossbuckref05_Port.f k l0_0 l0_1 l0_2 a1 a2 = some r) :
    Calls Try.prog 16 #[.agg #[.slice A0_0 l0_0.length c0_0, .slice A0_1 l0_1.length c0_1, .slice A0_2 l0_2.length c0_2], .int .i64 a1, .int .i64 a2] w fun e w' => e = .returned (.int .i64 r) ∧ Below w.heap.size w w' := by
  have hu26 := Try.underlying26
  have HR0_0 := Aside0.mk hr0_0
  have HC0_0 := Aside0.mk hc0_0
  clear hr0_0 hc0_0
  have HR0_1 := Aside0.mk hr0_1
  have HC0_1 := Aside0.mk hc0_1
  clear hr0_1 hc0_1
  have HR0_2 := Aside0.mk hr0_2
  have HC0_2 := Aside0.mk hc0_2
  clear hr0_2 hc0_2
  have HB := Aside0.mk (Below.refl w.heap.size w)
  have H : (if a1 < 0 then (crossbuckref05_Port.j0 k a1 a2 true l0_0 l0_1 l0_2) else (crossbuckref05_Port.j0 k a1 a2 (decide (a1 ≥ (l0_0.length : Int))) l0_0 l0_1 l0_2)) = some r := h
  clear h
  have HC4 := Aside0.mk H
  clear H
  go_enter Try.func16, Try.ntmps16
  go_upto_region 1 with (first | ((with_reducible refine gate_dst (N := 3) rfl ?_); (try (refine gate_guard (by rfl) ?_; dsimp only)); refine box_event ?hg (N := 3) ?hd (cs := #[.slice A0_0 l0_0.length c0_0, .slice A0_1 l0_1.length c0_1, .slice A0_2 l0_2.length c0_2]) (t := 26) ?hr ?_; (case hd => rfl); (case hg => rfl); (case hr => first | (go_simp; done) | (go_simp; rfl)); intro gb130 hg w5 hbox hb; have n0_ := Aside0.mk (below_step (by repeat (first | (with_reducible first | exact HB.out | apply below_alloc | apply pw_below_drewN | apply below_drew1) | exact HB.out)) hb); have n1_ := Aside0.mk (hbox); have n2_ := Aside0.mk ((by rw [hg]; exact (below_size (by repeat (first | (with_reducible first | exact HB.out | apply below_alloc | apply pw_below_drewN | apply below_drew1) | exact HB.out))) : w.heap.size ≤ gb130)); have n3_ := Aside0.mk ((by rw [hg]; exact (below_size (by repeat (first | (with_reducible first | exact HB.out | apply below_alloc | apply pw_below_drewN | apply below_drew1) | exact HB.out))) : w.heap.size ≤ gb130)); clear HB; have HB := n0_; have BK130 := n1_; have GW130 := n2_; have GE130 := n3_; clear n0_ n1_ n2_ n3_; clear hb hbox hg))
  (try simp only [Act.put, List.setIfInBounds_toArray, List.set_cons_zero, List.set_cons_succ])
  go_cut [15] (fun v15 wc => ∃ (kq : Nat) (x15_3 : Bool), v15 = .bool x15_3 ∧ Aside0 (crossbuckref05_Port.j0 kq a1 a2 x15_3 l0_0 l0_1 l0_2 = some r) ∧ Aside0 (kq ≤ k) ∧ Aside0 (wc.heap[gb130]? = some (.cells #[(.slice A0_0 l0_0.length c0_0), (.slice A0_1 l0_1.length c0_1), (.slice A0_2 l0_2.length c0_2)] 26 (0, 0))) ∧ Aside0 (Below w.heap.size w wc))
  case first =>
    have H := HC4.out
    clear HC4
    by_cases c6 : a1 < 0
    · rw [if_pos c6] at H
      have c6b0 : decide (a1 < 0) = true := decide_eq_true c6
      clear c6
      (first | rw [c6b0] | (simp only [i64_w, i32_w]; rw [c6b0]) | skip)
      have H' := Aside0.mk H
      clear H
      go_wp2
      go_meet
      case rel => exact ⟨_, (true), (by first | rfl | (simp; done) | (simp [*]; done)), H', ⟨by first | omega | exact Nat.le_refl _⟩, ⟨by (with_reducible repeat (first | refine blk_drewN ?_ _ | refine blk_drew ?_ | refine blk_alloc ?_ _)); exact BK130.out⟩, ⟨by repeat (first | (with_reducible first | exact HB.out | apply below_alloc | apply pw_below_drewN | apply below_drew1 | refine below_set ?_ GE130.out) | exact HB.out)⟩⟩
    · rw [if_neg c6] at H
      have c6b0 : decide (a1 < 0) = false := decide_eq_false c6
      clear c6
      (first | rw [c6b0] | (simp only [i64_w, i32_w]; rw [c6b0]) | skip)
      have H' := Aside0.mk H
      clear H
      have hcz7_0 : w5.cell? ⟨gb130, 0, none⟩ = some (.slice A0_0 l0_0.length c0_0) := (blk_cell BK130.out 0).trans rfl
      have hcz7_1 : w5.cell? ⟨gb130, 1, none⟩ = some (.slice A0_1 l0_1.length c0_1) := (blk_cell BK130.out 1).trans rfl
      have hcz7_2 : w5.cell? ⟨gb130, 2, none⟩ = some (.slice A0_2 l0_2.length c0_2) := (blk_cell BK130.out 2).trans rfl
      have hfz7_0 := blk_frozen BK130.out 0
      have hfz7_1 := blk_frozen BK130.out 1
      have hfz7_2 := blk_frozen BK130.out 2
      go_wp2
      go_meet
      case rel => exact ⟨_, (decide (a1 ≥ (l0_0.length : Int))), (by first | rfl | (simp; done) | (simp [*]; done)), H', ⟨by first | omega | exact Nat.le_refl _⟩, ⟨by (with_reducible repeat (first | refine blk_drewN ?_ _ | refine blk_drew ?_ | refine blk_alloc ?_ _)); exact BK130.out⟩, ⟨by repeat (first | (with_reducible first | exact HB.out | apply below_alloc | apply pw_below_drewN | apply below_drew1 | refine below_set ?_ GE130.out) | exact HB.out)⟩⟩
  case rest =>
    clear HC4
    try clear c1
    try clear p2
    try clear c6
    try clear c6b0
    try clear hcz7_0
    try clear hcz7_1
    try clear hcz7_2
    try clear hfz7_0
    try clear hfz7_1
    try clear hfz7_2
    obtain ⟨kq, x15_3, rfl, HA, HJ3, BK130, HB⟩ := hcut
    cases kq with
    | zero => exact absurd HA.out (by simp [crossbuckref05_Port.j0])
    | succ kj3 =>
      have H := HA.out
      clear HA
      simp only [crossbuckref05_Port.j0] at H
      by_cases c8 : x15_3 = true
      · subst c8
        have H1 : (some 10) = some r := by rw [if_pos rfl] at H; exact H
        clear H
        have H := H1
        clear H1
        obtain rfl := Option.some.inj H
        go_wp2
        go_ret
        exact ⟨by first | rfl | (simp [errW_none, errW_some] <;> rfl) | (simp [*, errW_none, errW_some] <;> rfl), by repeat (first | (with_reducible first | exact HB.out | apply below_alloc | apply pw_below_drewN | apply below_drew1 | refine below_set ?_ GE130.out) | exact HB.out)⟩
      · replace c8 := Bool.eq_false_iff.mpr c8
        subst c8
        have H1 : (if a2 < 0 then (some 11) else (if 0 ≤ a1 then (if a1 < (l0_0.length : Int) then (if a2 ≥ (rd l0_0 a1) then (some 11) else (some 0)) else (none)) else (none))) = some r := by rw [if_neg (show ¬ (false = true) by decide)] at H; exact H
        clear H
        have H := H1
        clear H1
        by_cases c9 : a2 < 0
        · rw [if_pos c9] at H
          have c9b0 : decide (a2 < 0) = true := decide_eq_true c9
          clear c9
          obtain rfl := Option.some.inj H
          go_wp2
          go_ret
          exact ⟨by first | rfl | (simp [errW_none, errW_some] <;> rfl) | (simp [*, errW_none, errW_some] <;> rfl), by repeat (first | (with_reducible first | exact HB.out | apply below_alloc | apply pw_below_drewN | apply below_drew1 | refine below_set ?_ GE130.out) | exact HB.out)⟩
        · rw [if_neg c9] at H
          have c9b0 : decide (a2 < 0) = false := decide_eq_false c9
          clear c9
          by_cases c10 : 0 ≤ a1
          · rw [if_pos c10] at H
            have c10b0 : decide (0 ≤ a1) = true := decide_eq_true c10
            clear c10
            by_cases c11 : a1 < (l0_0.length : Int)
            · rw [if_pos c11] at H
              have c11b0 : decide (a1 < (l0_0.length : Int)) = true := decide_eq_true c11
              clear c11
              by_cases c12 : a2 ≥ (rd l0_0 a1)
              · rw [if_pos c12] at H
                have c12b0 : decide ((rd l0_0 a1) ≤ a2) = true := decide_eq_true c12
                clear c12
                obtain rfl := Option.some.inj H
                have hcz13_0 : wc.cell? ⟨gb130, 0, none⟩ = some (.slice A0_0 l0_0.length c0_0) := (blk_cell BK130.out 0).trans rfl
                have hcz13_1 : wc.cell? ⟨gb130, 1, none⟩ = some (.slice A0_1 l0_1.length c0_1) := (blk_cell BK130.out 1).trans rfl
                have hcz13_2 : wc.cell? ⟨gb130, 2, none⟩ = some (.slice A0_2 l0_2.length c0_2) := (blk_cell BK130.out 2).trans rfl
                have hfz13_0 := blk_frozen BK130.out 0
                have hfz13_1 := blk_frozen BK130.out 1
                have hfz13_2 := blk_frozen BK130.out 2
                have p131 : 0 ≤ (a1 : Int) := of_decide_eq_true (by first | (with_reducible assumption) | assumption)
                have q131 : a1 < (l0_0.length : Int) := of_decide_eq_true (by first | (with_reducible assumption) | assumption)
                obtain ⟨ad131, e131, hx131_0⟩ := Kd.at_int HR0_0.out a1 p131 q131
                cases e131
                replace hx131_0 := (HB.out.cell (World.block_lt_of_cell? w _ hx131_0)).trans hx131_0
                replace p131 := eq_true p131
                replace q131 := eq_true q131
                go_wp2
                go_ret
                exact ⟨by first | rfl | (simp [errW_none, errW_some] <;> rfl) | (simp [*, errW_none, errW_some] <;> rfl), by repeat (first | (with_reducible first | exact HB.out | apply below_alloc | apply pw_below_drewN | apply below_drew1 | refine below_set ?_ GE130.out) | exact HB.out)⟩
              · rw [if_neg c12] at H
                have c12b0 : decide ((rd l0_0 a1) ≤ a2) = false := decide_eq_false c12
                clear c12
                obtain rfl := Option.some.inj H
                have hcz14_0 : wc.cell? ⟨gb130, 0, none⟩ = some (.slice A0_0 l0_0.length c0_0) := (blk_cell BK130.out 0).trans rfl
                have hcz14_1 : wc.cell? ⟨gb130, 1, none⟩ = some (.slice A0_1 l0_1.length c0_1) := (blk_cell BK130.out 1).trans rfl
                have hcz14_2 : wc.cell? ⟨gb130, 2, none⟩ = some (.slice A0_2 l0_2.length c0_2) := (blk_cell BK130.out 2).trans rfl
                have hfz14_0 := blk_frozen BK130.out 0
                have hfz14_1 := blk_frozen BK130.out 1
                have hfz14_2 := blk_frozen BK130.out 2
                have p131 : 0 ≤ (a1 : Int) := of_decide_eq_true (by first | (with_reducible assumption) | assumption)
                have q131 : a1 < (l0_0.length : Int) := of_decide_eq_true (by first | (with_reducible assumption) | assumption)
                obtain ⟨ad131, e131, hx131_0⟩ := Kd.at_int HR0_0.out a1 p131 q131
                cases e131
                replace hx131_0 := (HB.out.cell (World.block_lt_of_cell? w _ hx131_0)).trans hx131_0
                replace p131 := eq_true p131
                replace q131 := eq_true q131
                go_wp2
                go_ret
                exact ⟨by first | rfl | (simp [errW_none, errW_some] <;> rfl) | (simp [*, errW_none, errW_some] <;> rfl), by repeat (first | (with_reducible first | exact HB.out | apply below_alloc | apply pw_below_drewN | apply below_drew1 | refine below_set ?_ GE130.out) | exact HB.out)⟩
            · rw [if_neg c11] at H
              exact absurd H (by simp)
          · rw [if_neg c10] at H
            exact absurd H (by simp)

end Go.Proofs.Ytdemogdagemagaa.PTg

namespace Go.Proofs.Ytdemogdagemagaa.PTg
open Go.RowKit Go.Proofs.YtdemogdagemagaaW.PrintWords Go.Proofs.YtdemogdagemagaaW.PrintLast Go.Proofs.YtdemogdagemagaaW.PrintMore
attribute [local go_sem] max2_int min2_int max_two min_two max_three min_three max_four min_four   -- for this text's walks alone
set_option linter.unusedVariables false
set_option linter.unusedSimpArgs false

theorem eqA90 (d : Nat) (w : World) (x0 y0 x1 y1 : Int) : (Op.equalIn (d + 2) 90 (.agg #[.int .i64 x0, .int .i64 x1]) (.agg #[.int .i64 y0, .int .i64 y1])).run Try.prog w = .ok (x0 == y0 && (x1 == y1)) w := by
  have h3 : ∀ a b : Int, (Op.equalIn (d + 1) 3 (.int .i64 a) (.int .i64 b)).run Try.prog w = .ok (a == b) w := fun a b => by simp [Op.equalIn, run_underlying Try.underlying3]
  have hp : ∀ (xs : Array Value) (i : Nat) (v : Value), xs[i]? = some v → (part 3 xs i).run Try.prog w = .ok v w := fun xs i v h => by
    have : xs.toList[i]? = some v := by simpa using h
    simp [part, isAgg, run_underlying Try.underlying3, h, Result.andThen]
  have hz : (sizeOf 3).run Try.prog w = .ok 1 w := by simp [sizeOf, typeInfo, go_sem]; kernel_rfl
  rw [Op.equalIn]
  simp only [Sem.run_bind, run_underlying Try.underlying90, Result.andThen_ok, hz]
  by_cases e0 : x0 = y0
  · by_cases e1 : x1 = y1
    · simp [Std.Legacy.Range.forIn_eq_forIn_range', List.range', hp, h3, Result.andThen, e0, e1]
    · simp [Std.Legacy.Range.forIn_eq_forIn_range', List.range', hp, h3, Result.andThen, e0, e1]
  · simp [Std.Legacy.Range.forIn_eq_forIn_range', List.range', hp, h3, Result.andThen, e0]
end Go.Proofs.Ytdemogdagemagaa.PTg
