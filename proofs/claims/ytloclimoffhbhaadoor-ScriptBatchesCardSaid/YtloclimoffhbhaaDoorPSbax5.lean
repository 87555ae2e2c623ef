-- Written by wip/myprint.py and wip/merge.py (this session's own programs); Lean checks it.
-- halved
import Derived.Test.YtloclimoffhbhaaDoorPSbax0
import Derived.Test.YtloclimoffhbhaaDoorPSbax4
namespace Go.Proofs.YtloclimoffhbhaaDoor.PSba
open Go.RowKit Go.Proofs.YtloclimoffhbhaaDoorW.PrintWords Go.Proofs.YtloclimoffhbhaaDoorW.PrintLast Go.Proofs.YtloclimoffhbhaaDoorW.PrintMore
attribute [local go_sem] max2_int min2_int max_two min_two max_three min_three max_four min_four   -- for this text's walks alone
set_option linter.unusedVariables false
set_option linter.unusedSimpArgs false

/-! ### crossbuckref03_Right: function 61 -/
def crossbuckref03_Right.f (k : Nat) (a0_0 : Int) (a0_1 : Int) : Option (Bool) := if a0_1 ≥ 0 then (if a0_1 ≤ 32 then ((crossbuckref03_size.f k a0_1).bind fun t266 => (if t266 = 0 then (none) else (some ((Int.tmod (IntKind.u64.wrap (a0_0)) t266) == 0)))) else (some false)) else (some false)
theorem crossbuckref03_Right.mono : ∀ a0 a1 k, LeO (crossbuckref03_Right.f k a0 a1) (crossbuckref03_Right.f (k + 1) a0 a1) := by
 intro a0 a1 k
 unfold crossbuckref03_Right.f
 repeat' first
   | (with_reducible exact crossbuckref03_size.mono _ _)
   | (with_reducible exact LeO.refl _)
   | (with_reducible exact LeO.none _)
   | (with_reducible refine LeO.ite ?_ ?_)
   | (with_reducible refine LeO.bind ?_ (fun _ => ?_))
   | exact crossbuckref03_size.mono _ _
   | exact LeO.none _
   | refine LeO.ite ?_ ?_
   | refine LeO.bind ?_ (fun _ => ?_)
set_option maxHeartbeats 8000000 in
set_option maxRecDepth 100000 in
theorem crossbuckref03_Right.calls (k : Nat) (a0_0 : Int) (a0_1 : Int) (r : Bool) (w : World) (h : crossbuckref03_Right.f k a0_0 a0_1 = some r) :
  Calls Tryd.prog 61 #[.agg #[.int .u32 a0_0, .int .i64 a0_1]] w fun e w' => e = .returned (.bool r) ∧ Below w.heap.size w w' := by
 have hu42 := Tryd.underlying42
 have HB := Aside0.mk (Below.refl w.heap.size w)
 have H : (if a0_1 ≥ 0 then (if a0_1 ≤ 32 then ((crossbuckref03_size.f k a0_1).bind fun t266 => (if t266 = 0 then (none) else (some ((Int.tmod (IntKind.u64.wrap (a0_0)) t266) == 0)))) else (some false)) else (some false)) = some r := h
 clear h
 by_cases c2 : a0_1 ≥ 0
 ·rw [if_pos c2] at H
  have c2b0 : decide (0 ≤ a0_1) = true := decide_eq_true c2
  clear c2
  by_cases c3 : a0_1 ≤ 32
  ·rw [if_pos c3] at H
   have c3b0 : decide (a0_1 ≤ 32) = true := decide_eq_true c3
   clear c3
   replace H := Option.bind_eq_some_iff.mp H
   obtain ⟨t266, A40, H⟩ := H
   replace H : (if t266 = 0 then (none) else (some ((Int.tmod (IntKind.u64.wrap (a0_0)) t266) == 0))) = some r := H
   have A4 := Aside0.mk A40
   clear A40
   by_cases c5 : t266 = 0
   ·rw [if_pos c5] at H
    exact absurd H (by simp)
   ·rw [if_neg c5] at H
    have c5b0 : (t266 == 0) = false := beq_eq_false_iff_ne.mpr c5
    have c5b1 : (t266 != 0) = true := bne_iff_ne.mpr c5
    obtain rfl := Option.some.inj H
    go_enter Tryd.func61, Tryd.ntmps61
    go_wp2_with (first | ((with_reducible refine gate_dst (N := 1) rfl ?_); refine box_event ?hg (N := 1) ?hd (cs := #[.int .u32 a0_0, .int .i64 a0_1]) (t := 42) ?hr ?_; (case hd => rfl); (case hg => rfl); (case hr => first | (go_simp; done) | (go_simp; rfl)); intro gb265 hg w6 hbox hb; have n0_ := Aside0.mk (below_step (by repeat (first | (with_reducible first | exact HB.out | apply below_alloc | apply pw_below_drewN | apply below_drew1) | exact HB.out)) hb); have n1_ := Aside0.mk (hbox); have n2_ := Aside0.mk ((by rw [hg]; exact (below_size (by repeat (first | (with_reducible first | exact HB.out | apply below_alloc | apply pw_below_drewN | apply below_drew1) | exact HB.out))) : w.heap.size ≤ gb265)); have n3_ := Aside0.mk ((by rw [hg]; exact (below_size (by repeat (first | (with_reducible first | exact HB.out | apply below_alloc | apply pw_below_drewN | apply below_drew1) | exact HB.out))) : w.heap.size ≤ gb265)); clear HB; have HB := n0_; have BK265 := n1_; have GW265 := n2_; have GE265 := n3_; clear n0_ n1_ n2_ n3_; clear hb hbox hg; have hcz7_0 : w6.cell? ⟨gb265, 0, none⟩ = some (.int .u32 a0_0) := (blk_cell BK265.out 0).trans rfl; have hcz7_1 : w6.cell? ⟨gb265, 1, none⟩ = some (.int .i64 a0_1) := (blk_cell BK265.out 1).trans rfl; have hfz7_0 := blk_frozen BK265.out 0; have hfz7_1 := blk_frozen BK265.out 1) | (go_at_call 101; (with_reducible refine (crossbuckref03_size.calls k a0_1 t266 _ A4.out).mono ?_); rintro e w' ⟨rfl, ⟨nd, rfl⟩⟩; (try first | exact ⟨rfl, _, World.drewN_drewN _ _ _⟩ | exact ⟨rfl, _, Eq.trans (World.drewN_drewN _ _ _) (congrArg (World.drewN _) (Nat.add_assoc _ _ _))⟩)))
    repeat (go_quiet (first | ((with_reducible refine gate_dst (N := 1) rfl ?_); refine box_event ?hg (N := 1) ?hd (cs := #[.int .u32 a0_0, .int .i64 a0_1]) (t := 42) ?hr ?_; (case hd => rfl); (case hg => rfl); (case hr => first | (go_simp; done) | (go_simp; rfl)); intro gb265 hg w6 hbox hb; have n0_ := Aside0.mk (below_step (by repeat (first | (with_reducible first | exact HB.out | apply below_alloc | apply pw_below_drewN | apply below_drew1) | exact HB.out)) hb); have n1_ := Aside0.mk (hbox); have n2_ := Aside0.mk ((by rw [hg]; exact (below_size (by repeat (first | (with_reducible first | exact HB.out | apply below_alloc | apply pw_below_drewN | apply below_drew1) | exact HB.out))) : w.heap.size ≤ gb265)); have n3_ := Aside0.mk ((by rw [hg]; exact (below_size (by repeat (first | (with_reducible first | exact HB.out | apply below_alloc | apply pw_below_drewN | apply below_drew1) | exact HB.out))) : w.heap.size ≤ gb265)); clear HB; have HB := n0_; have BK265 := n1_; have GW265 := n2_; have GE265 := n3_; clear n0_ n1_ n2_ n3_; clear hb hbox hg; have hcz7_0 : w6.cell? ⟨gb265, 0, none⟩ = some (.int .u32 a0_0) := (blk_cell BK265.out 0).trans rfl; have hcz7_1 : w6.cell? ⟨gb265, 1, none⟩ = some (.int .i64 a0_1) := (blk_cell BK265.out 1).trans rfl; have hfz7_0 := blk_frozen BK265.out 0; have hfz7_1 := blk_frozen BK265.out 1) | (go_at_call 101; (with_reducible refine (crossbuckref03_size.calls k a0_1 t266 _ A4.out).mono ?_); rintro e w' ⟨rfl, ⟨nd, rfl⟩⟩; (try first | exact ⟨rfl, _, World.drewN_drewN _ _ _⟩ | exact ⟨rfl, _, Eq.trans (World.drewN_drewN _ _ _) (congrArg (World.drewN _) (Nat.add_assoc _ _ _))⟩))); try go_wp2_with (first | ((with_reducible refine gate_dst (N := 1) rfl ?_); refine box_event ?hg (N := 1) ?hd (cs := #[.int .u32 a0_0, .int .i64 a0_1]) (t := 42) ?hr ?_; (case hd => rfl); (case hg => rfl); (case hr => first | (go_simp; done) | (go_simp; rfl)); intro gb265 hg w6 hbox hb; have n0_ := Aside0.mk (below_step (by repeat (first | (with_reducible first | exact HB.out | apply below_alloc | apply pw_below_drewN | apply below_drew1) | exact HB.out)) hb); have n1_ := Aside0.mk (hbox); have n2_ := Aside0.mk ((by rw [hg]; exact (below_size (by repeat (first | (with_reducible first | exact HB.out | apply below_alloc | apply pw_below_drewN | apply below_drew1) | exact HB.out))) : w.heap.size ≤ gb265)); have n3_ := Aside0.mk ((by rw [hg]; exact (below_size (by repeat (first | (with_reducible first | exact HB.out | apply below_alloc | apply pw_below_drewN | apply below_drew1) | exact HB.out))) : w.heap.size ≤ gb265)); clear HB; have HB := n0_; have BK265 := n1_; have GW265 := n2_; have GE265 := n3_; clear n0_ n1_ n2_ n3_; clear hb hbox hg; have hcz7_0 : w6.cell? ⟨gb265, 0, none⟩ = some (.int .u32 a0_0) := (blk_cell BK265.out 0).trans rfl; have hcz7_1 : w6.cell? ⟨gb265, 1, none⟩ = some (.int .i64 a0_1) := (blk_cell BK265.out 1).trans rfl; have hfz7_0 := blk_frozen BK265.out 0; have hfz7_1 := blk_frozen BK265.out 1) | (go_at_call 101; (with_reducible refine (crossbuckref03_size.calls k a0_1 t266 _ A4.out).mono ?_); rintro e w' ⟨rfl, ⟨nd, rfl⟩⟩; (try first | exact ⟨rfl, _, World.drewN_drewN _ _ _⟩ | exact ⟨rfl, _, Eq.trans (World.drewN_drewN _ _ _) (congrArg (World.drewN _) (Nat.add_assoc _ _ _))⟩))))
    go_ret
    exact ⟨by first | rfl | (simp [errW_none, errW_some] <;> rfl) | (simp [*, errW_none, errW_some] <;> rfl), by repeat (first | (with_reducible first | exact HB.out | apply below_alloc | apply pw_below_drewN | apply below_drew1 | refine below_set ?_ GE265.out) | exact HB.out)⟩
  ·rw [if_neg c3] at H
   have c3b0 : decide (a0_1 ≤ 32) = false := decide_eq_false c3
   clear c3
   obtain rfl := Option.some.inj H
   go_enter Tryd.func61, Tryd.ntmps61
   go_wp2_with (first | ((with_reducible refine gate_dst (N := 1) rfl ?_); refine box_event ?hg (N := 1) ?hd (cs := #[.int .u32 a0_0, .int .i64 a0_1]) (t := 42) ?hr ?_; (case hd => rfl); (case hg => rfl); (case hr => first | (go_simp; done) | (go_simp; rfl)); intro gb265 hg w8 hbox hb; have n0_ := Aside0.mk (below_step (by repeat (first | (with_reducible first | exact HB.out | apply below_alloc | apply pw_below_drewN | apply below_drew1) | exact HB.out)) hb); have n1_ := Aside0.mk (hbox); have n2_ := Aside0.mk ((by rw [hg]; exact (below_size (by repeat (first | (with_reducible first | exact HB.out | apply below_alloc | apply pw_below_drewN | apply below_drew1) | exact HB.out))) : w.heap.size ≤ gb265)); have n3_ := Aside0.mk ((by rw [hg]; exact (below_size (by repeat (first | (with_reducible first | exact HB.out | apply below_alloc | apply pw_below_drewN | apply below_drew1) | exact HB.out))) : w.heap.size ≤ gb265)); clear HB; have HB := n0_; have BK265 := n1_; have GW265 := n2_; have GE265 := n3_; clear n0_ n1_ n2_ n3_; clear hb hbox hg; have hcz9_0 : w8.cell? ⟨gb265, 0, none⟩ = some (.int .u32 a0_0) := (blk_cell BK265.out 0).trans rfl; have hcz9_1 : w8.cell? ⟨gb265, 1, none⟩ = some (.int .i64 a0_1) := (blk_cell BK265.out 1).trans rfl; have hfz9_0 := blk_frozen BK265.out 0; have hfz9_1 := blk_frozen BK265.out 1))
   repeat (go_quiet (first | ((with_reducible refine gate_dst (N := 1) rfl ?_); refine box_event ?hg (N := 1) ?hd (cs := #[.int .u32 a0_0, .int .i64 a0_1]) (t := 42) ?hr ?_; (case hd => rfl); (case hg => rfl); (case hr => first | (go_simp; done) | (go_simp; rfl)); intro gb265 hg w8 hbox hb; have n0_ := Aside0.mk (below_step (by repeat (first | (with_reducible first | exact HB.out | apply below_alloc | apply pw_below_drewN | apply below_drew1) | exact HB.out)) hb); have n1_ := Aside0.mk (hbox); have n2_ := Aside0.mk ((by rw [hg]; exact (below_size (by repeat (first | (with_reducible first | exact HB.out | apply below_alloc | apply pw_below_drewN | apply below_drew1) | exact HB.out))) : w.heap.size ≤ gb265)); have n3_ := Aside0.mk ((by rw [hg]; exact (below_size (by repeat (first | (with_reducible first | exact HB.out | apply below_alloc | apply pw_below_drewN | apply below_drew1) | exact HB.out))) : w.heap.size ≤ gb265)); clear HB; have HB := n0_; have BK265 := n1_; have GW265 := n2_; have GE265 := n3_; clear n0_ n1_ n2_ n3_; clear hb hbox hg; have hcz9_0 : w8.cell? ⟨gb265, 0, none⟩ = some (.int .u32 a0_0) := (blk_cell BK265.out 0).trans rfl; have hcz9_1 : w8.cell? ⟨gb265, 1, none⟩ = some (.int .i64 a0_1) := (blk_cell BK265.out 1).trans rfl; have hfz9_0 := blk_frozen BK265.out 0; have hfz9_1 := blk_frozen BK265.out 1)); try go_wp2_with (first | ((with_reducible refine gate_dst (N := 1) rfl ?_); refine box_event ?hg (N := 1) ?hd (cs := #[.int .u32 a0_0, .int .i64 a0_1]) (t := 42) ?hr ?_; (case hd => rfl); (case hg => rfl); (case hr => first | (go_simp; done) | (go_simp; rfl)); intro gb265 hg w8 hbox hb; have n0_ := Aside0.mk (below_step (by repeat (first | (with_reducible first | exact HB.out | apply below_alloc | apply pw_below_drewN | apply below_drew1) | exact HB.out)) hb); have n1_ := Aside0.mk (hbox); have n2_ := Aside0.mk ((by rw [hg]; exact (below_size (by repeat (first | (with_reducible first | exact HB.out | apply below_alloc | apply pw_below_drewN | apply below_drew1) | exact HB.out))) : w.heap.size ≤ gb265)); have n3_ := Aside0.mk ((by rw [hg]; exact (below_size (by repeat (first | (with_reducible first | exact HB.out | apply below_alloc | apply pw_below_drewN | apply below_drew1) | exact HB.out))) : w.heap.size ≤ gb265)); clear HB; have HB := n0_; have BK265 := n1_; have GW265 := n2_; have GE265 := n3_; clear n0_ n1_ n2_ n3_; clear hb hbox hg; have hcz9_0 : w8.cell? ⟨gb265, 0, none⟩ = some (.int .u32 a0_0) := (blk_cell BK265.out 0).trans rfl; have hcz9_1 : w8.cell? ⟨gb265, 1, none⟩ = some (.int .i64 a0_1) := (blk_cell BK265.out 1).trans rfl; have hfz9_0 := blk_frozen BK265.out 0; have hfz9_1 := blk_frozen BK265.out 1)))
   go_ret
   exact ⟨by first | rfl | (simp [errW_none, errW_some] <;> rfl) | (simp [*, errW_none, errW_some] <;> rfl), by repeat (first | (with_reducible first | exact HB.out | apply below_alloc | apply pw_below_drewN | apply below_drew1 | refine below_set ?_ GE265.out) | exact HB.out)⟩
 ·rw [if_neg c2] at H
  have c2b0 : decide (0 ≤ a0_1) = false := decide_eq_false c2
  clear c2
  obtain rfl := Option.some.inj H
  go_enter Tryd.func61, Tryd.ntmps61
  go_wp2_with (first | ((with_reducible refine gate_dst (N := 1) rfl ?_); refine box_event ?hg (N := 1) ?hd (cs := #[.int .u32 a0_0, .int .i64 a0_1]) (t := 42) ?hr ?_; (case hd => rfl); (case hg => rfl); (case hr => first | (go_simp; done) | (go_simp; rfl)); intro gb265 hg w10 hbox hb; have n0_ := Aside0.mk (below_step (by repeat (first | (with_reducible first | exact HB.out | apply below_alloc | apply pw_below_drewN | apply below_drew1) | exact HB.out)) hb); have n1_ := Aside0.mk (hbox); have n2_ := Aside0.mk ((by rw [hg]; exact (below_size (by repeat (first | (with_reducible first | exact HB.out | apply below_alloc | apply pw_below_drewN | apply below_drew1) | exact HB.out))) : w.heap.size ≤ gb265)); have n3_ := Aside0.mk ((by rw [hg]; exact (below_size (by repeat (first | (with_reducible first | exact HB.out | apply below_alloc | apply pw_below_drewN | apply below_drew1) | exact HB.out))) : w.heap.size ≤ gb265)); clear HB; have HB := n0_; have BK265 := n1_; have GW265 := n2_; have GE265 := n3_; clear n0_ n1_ n2_ n3_; clear hb hbox hg; have hcz11_0 : w10.cell? ⟨gb265, 0, none⟩ = some (.int .u32 a0_0) := (blk_cell BK265.out 0).trans rfl; have hcz11_1 : w10.cell? ⟨gb265, 1, none⟩ = some (.int .i64 a0_1) := (blk_cell BK265.out 1).trans rfl; have hfz11_0 := blk_frozen BK265.out 0; have hfz11_1 := blk_frozen BK265.out 1))
  repeat (go_quiet (first | ((with_reducible refine gate_dst (N := 1) rfl ?_); refine box_event ?hg (N := 1) ?hd (cs := #[.int .u32 a0_0, .int .i64 a0_1]) (t := 42) ?hr ?_; (case hd => rfl); (case hg => rfl); (case hr => first | (go_simp; done) | (go_simp; rfl)); intro gb265 hg w10 hbox hb; have n0_ := Aside0.mk (below_step (by repeat (first | (with_reducible first | exact HB.out | apply below_alloc | apply pw_below_drewN | apply below_drew1) | exact HB.out)) hb); have n1_ := Aside0.mk (hbox); have n2_ := Aside0.mk ((by rw [hg]; exact (below_size (by repeat (first | (with_reducible first | exact HB.out | apply below_alloc | apply pw_below_drewN | apply below_drew1) | exact HB.out))) : w.heap.size ≤ gb265)); have n3_ := Aside0.mk ((by rw [hg]; exact (below_size (by repeat (first | (with_reducible first | exact HB.out | apply below_alloc | apply pw_below_drewN | apply below_drew1) | exact HB.out))) : w.heap.size ≤ gb265)); clear HB; have HB := n0_; have BK265 := n1_; have GW265 := n2_; have GE265 := n3_; clear n0_ n1_ n2_ n3_; clear hb hbox hg; have hcz11_0 : w10.cell? ⟨gb265, 0, none⟩ = some (.int .u32 a0_0) := (blk_cell BK265.out 0).trans rfl; have hcz11_1 : w10.cell? ⟨gb265, 1, none⟩ = some (.int .i64 a0_1) := (blk_cell BK265.out 1).trans rfl; have hfz11_0 := blk_frozen BK265.out 0; have hfz11_1 := blk_frozen BK265.out 1)); try go_wp2_with (first | ((with_reducible refine gate_dst (N := 1) rfl ?_); refine box_event ?hg (N := 1) ?hd (cs := #[.int .u32 a0_0, .int .i64 a0_1]) (t := 42) ?hr ?_; (case hd => rfl); (case hg => rfl); (case hr => first | (go_simp; done) | (go_simp; rfl)); intro gb265 hg w10 hbox hb; have n0_ := Aside0.mk (below_step (by repeat (first | (with_reducible first | exact HB.out | apply below_alloc | apply pw_below_drewN | apply below_drew1) | exact HB.out)) hb); have n1_ := Aside0.mk (hbox); have n2_ := Aside0.mk ((by rw [hg]; exact (below_size (by repeat (first | (with_reducible first | exact HB.out | apply below_alloc | apply pw_below_drewN | apply below_drew1) | exact HB.out))) : w.heap.size ≤ gb265)); have n3_ := Aside0.mk ((by rw [hg]; exact (below_size (by repeat (first | (with_reducible first | exact HB.out | apply below_alloc | apply pw_below_drewN | apply below_drew1) | exact HB.out))) : w.heap.size ≤ gb265)); clear HB; have HB := n0_; have BK265 := n1_; have GW265 := n2_; have GE265 := n3_; clear n0_ n1_ n2_ n3_; clear hb hbox hg; have hcz11_0 : w10.cell? ⟨gb265, 0, none⟩ = some (.int .u32 a0_0) := (blk_cell BK265.out 0).trans rfl; have hcz11_1 : w10.cell? ⟨gb265, 1, none⟩ = some (.int .i64 a0_1) := (blk_cell BK265.out 1).trans rfl; have hfz11_0 := blk_frozen BK265.out 0; have hfz11_1 := blk_frozen BK265.out 1)))
  go_ret
  exact ⟨by first | rfl | (simp [errW_none, errW_some] <;> rfl) | (simp [*, errW_none, errW_some] <;> rfl), by repeat (first | (with_reducible first | exact HB.out | apply below_alloc | apply pw_below_drewN | apply below_drew1 | refine below_set ?_ GE265.out) | exact HB.out)⟩

end Go.Proofs.YtloclimoffhbhaaDoor.PSba

namespace Go.Proofs.YtloclimoffhbhaaDoor.PSba
open Go.RowKit Go.Proofs.YtloclimoffhbhaaDoorW.PrintWords Go.Proofs.YtloclimoffhbhaaDoorW.PrintLast Go.Proofs.YtloclimoffhbhaaDoorW.PrintMore
attribute [local go_sem] max2_int min2_int max_two min_two max_three min_three max_four min_four   -- for this text's walks alone
set_option linter.unusedVariables false
set_option linter.unusedSimpArgs false

/-! ### crossbuckref04_Check: function 43 -/
mutual
def crossbuckref04_Check.j0 : Nat → Bool → Int → Int → Int → Int → Int → Int → Int → Int → Int → Option (Int)
 | 0, _, _, _, _, _, _, _, _, _, _ => none
 | k + 1, x12, x268000, x268001, x268002, x268003, x268004, x268005, x268006, x268007, x268008 => if x12 = true then (some 13) else (if x268004 < (-1) then (crossbuckref04_Check.j1 k true x268000 x268001 x268002 x268003 x268004 x268005 x268006 x268007 x268008) else (crossbuckref04_Check.j1 k (decide (x268004 > 255)) x268000 x268001 x268002 x268003 x268004 x268005 x268006 x268007 x268008))
def crossbuckref04_Check.j1 : Nat → Bool → Int → Int → Int → Int → Int → Int → Int → Int → Int → Option (Int)
 | 0, _, _, _, _, _, _, _, _, _, _ => none
 | k + 1, x20, x268000, x268001, x268002, x268003, x268004, x268005, x268006, x268007, x268008 => if x20 = true then (some 5) else (if x268005 > x268006 then (some 14) else (if x268007 > x268008 then (some 14) else (some 0)))
end
def crossbuckref04_Check.f (k : Nat) (a0_0 : Int) (a0_1 : Int) (a0_2 : Int) (a0_3 : Int) (a0_4 : Int) (a0_5 : Int) (a0_6 : Int) (a0_7 : Int) (a0_8 : Int) : Option (Int) := (crossbuckref03_Right.f k a0_0 a0_1).bind fun t268 => (if t268 = true then ((crossbuckref03_Right.f k a0_2 a0_3).bind fun t269 => (crossbuckref04_Check.j0 k (!t269) a0_0 a0_1 a0_2 a0_3 a0_4 a0_5 a0_6 a0_7 a0_8)) else (crossbuckref04_Check.j0 k true a0_0 a0_1 a0_2 a0_3 a0_4 a0_5 a0_6 a0_7 a0_8))
theorem crossbuckref04_Check.mono_l : ∀ k, (∀ y0 y1 y2 y3 y4 y5 y6 y7 y8 y9, LeO (crossbuckref04_Check.j0 k y0 y1 y2 y3 y4 y5 y6 y7 y8 y9) (crossbuckref04_Check.j0 (k + 1) y0 y1 y2 y3 y4 y5 y6 y7 y8 y9)) ∧ (∀ y0 y1 y2 y3 y4 y5 y6 y7 y8 y9, LeO (crossbuckref04_Check.j1 k y0 y1 y2 y3 y4 y5 y6 y7 y8 y9) (crossbuckref04_Check.j1 (k + 1) y0 y1 y2 y3 y4 y5 y6 y7 y8 y9))
 | 0 => ⟨fun _ _ _ _ _ _ _ _ _ _ r h => by simp [crossbuckref04_Check.j0] at h, fun _ _ _ _ _ _ _ _ _ _ r h => by simp [crossbuckref04_Check.j1] at h⟩
 | k + 1 => by
  obtain ⟨ih0, ih1⟩ := crossbuckref04_Check.mono_l k
  refine ⟨?_, ?_⟩
  ·intro y0 y1 y2 y3 y4 y5 y6 y7 y8 y9
   unfold crossbuckref04_Check.j0
   repeat' first
   | (with_reducible exact ih0 _ _ _ _ _ _ _ _ _ _)
   | (with_reducible exact ih1 _ _ _ _ _ _ _ _ _ _)
   | (with_reducible exact crossbuckref03_Right.mono _ _ _)
   | (with_reducible exact LeO.refl _)
   | (with_reducible exact LeO.none _)
   | (with_reducible refine LeO.ite ?_ ?_)
   | (with_reducible refine LeO.bind ?_ (fun _ => ?_))
   | exact ih0 _ _ _ _ _ _ _ _ _ _
   | exact ih1 _ _ _ _ _ _ _ _ _ _
   | exact crossbuckref03_Right.mono _ _ _
   | exact LeO.none _
   | refine LeO.ite ?_ ?_
   | refine LeO.bind ?_ (fun _ => ?_)
  ·intro y0 y1 y2 y3 y4 y5 y6 y7 y8 y9
   unfold crossbuckref04_Check.j1
   repeat' first
   | (with_reducible exact ih0 _ _ _ _ _ _ _ _ _ _)
   | (with_reducible exact ih1 _ _ _ _ _ _ _ _ _ _)
   | (with_reducible exact crossbuckref03_Right.mono _ _ _)
   | (with_reducible exact LeO.refl _)
   | (with_reducible exact LeO.none _)
   | (with_reducible refine LeO.ite ?_ ?_)
   | (with_reducible refine LeO.bind ?_ (fun _ => ?_))
   | exact ih0 _ _ _ _ _ _ _ _ _ _
   | exact ih1 _ _ _ _ _ _ _ _ _ _
   | exact crossbuckref03_Right.mono _ _ _
   | exact LeO.none _
   | refine LeO.ite ?_ ?_
   | refine LeO.bind ?_ (fun _ => ?_)
theorem crossbuckref04_Check.mono : ∀ a0 a1 a2 a3 a4 a5 a6 a7 a8 k, LeO (crossbuckref04_Check.f k a0 a1 a2 a3 a4 a5 a6 a7 a8) (crossbuckref04_Check.f (k + 1) a0 a1 a2 a3 a4 a5 a6 a7 a8) := by
 intro a0 a1 a2 a3 a4 a5 a6 a7 a8 k
 obtain ⟨ih0, ih1⟩ := crossbuckref04_Check.mono_l k
 unfold crossbuckref04_Check.f
 repeat' first
   | (with_reducible exact ih0 _ _ _ _ _ _ _ _ _ _)
   | (with_reducible exact ih1 _ _ _ _ _ _ _ _ _ _)
   | (with_reducible exact crossbuckref03_Right.mono _ _ _)
   | (with_reducible exact LeO.refl _)
   | (with_reducible exact LeO.none _)
   | (with_reducible refine LeO.ite ?_ ?_)
   | (with_reducible refine LeO.bind ?_ (fun _ => ?_))
   | exact ih0 _ _ _ _ _ _ _ _ _ _
   | exact ih1 _ _ _ _ _ _ _ _ _ _
   | exact crossbuckref03_Right.mono _ _ _
   | exact LeO.none _
   | refine LeO.ite ?_ ?_
   | refine LeO.bind ?_ (fun _ => ?_)
set_option maxHeartbeats 8000000 in
set_option maxRecDepth 100000 in
theorem crossbuckref04_Check.calls (k : Nat) (a0_0 : Int) (a0_1 : Int) (a0_2 : Int) (a0_3 : Int) (a0_4 : Int) (a0_5 : Int) (a0_6 : Int) (a0_7 : Int) (a0_8 : Int) (r : Int) (w : World) (h : crossbuckref04_Check.f k a0_0 a0_1 a0_2 a0_3 a0_4 a0_5 a0_6 a0_7 a0_8 = some r) :
  Calls Tryd.prog 43 #[.agg #[.int .u32 a0_0, .int .i64 a0_1, .int .u32 a0_2, .int .i64 a0_3, .int .i64 a0_4, .int .u16 a0_5, .int .u16 a0_6, .int .u16 a0_7, .int .u16 a0_8]] w fun e w' => e = .returned (.int .i64 r) ∧ Below w.heap.size w w' := by
 have hu77 := Tryd.underlying77
 have hu42 := Tryd.underlying42
 have HB := Aside0.mk (Below.refl w.heap.size w)
 have H : ((crossbuckref03_Right.f k a0_0 a0_1).bind fun t268 => (if t268 = true then ((crossbuckref03_Right.f k a0_2 a0_3).bind fun t269 => (crossbuckref04_Check.j0 k (!t269) a0_0 a0_1 a0_2 a0_3 a0_4 a0_5 a0_6 a0_7 a0_8)) else (crossbuckref04_Check.j0 k true a0_0 a0_1 a0_2 a0_3 a0_4 a0_5 a0_6 a0_7 a0_8))) = some r := h
 clear h
 have HC2 := Aside0.mk H
 clear H
 go_enter Tryd.func43, Tryd.ntmps43
 go_upto_region 1 with (first | ((with_reducible refine gate_dst (N := 1) rfl ?_); refine box_event ?hg (N := 1) ?hd (cs := #[.int .u32 a0_0, .int .i64 a0_1, .int .u32 a0_2, .int .i64 a0_3, .int .i64 a0_4, .int .u16 a0_5, .int .u16 a0_6, .int .u16 a0_7, .int .u16 a0_8]) (t := 77) ?hr ?_; (case hd => rfl); (case hg => rfl); (case hr => first | (go_simp; done) | (go_simp; rfl)); intro gb267 hg w3 hbox hb; have n0_ := Aside0.mk (below_step (by repeat (first | (with_reducible first | exact HB.out | apply below_alloc | apply pw_below_drewN | apply below_drew1) | exact HB.out)) hb); have n1_ := Aside0.mk (hbox); have n2_ := Aside0.mk ((by rw [hg]; exact (below_size (by repeat (first | (with_reducible first | exact HB.out | apply below_alloc | apply pw_below_drewN | apply below_drew1) | exact HB.out))) : w.heap.size ≤ gb267)); have n3_ := Aside0.mk ((by rw [hg]; exact (below_size (by repeat (first | (with_reducible first | exact HB.out | apply below_alloc | apply pw_below_drewN | apply below_drew1) | exact HB.out))) : w.heap.size ≤ gb267)); clear HB; have HB := n0_; have BK267 := n1_; have GW267 := n2_; have GE267 := n3_; clear n0_ n1_ n2_ n3_; clear hb hbox hg))
 (try simp only [Act.put, List.setIfInBounds_toArray, List.set_cons_zero, List.set_cons_succ])
 go_cut [12] (fun v12 wc => ∃ (kq : Nat) (x12_1 : Bool), v12 = .bool x12_1 ∧ Aside0 (crossbuckref04_Check.j0 kq x12_1 a0_0 a0_1 a0_2 a0_3 a0_4 a0_5 a0_6 a0_7 a0_8 = some r) ∧ Aside0 (kq ≤ k) ∧ Aside0 (wc.heap[gb267]? = some (.cells #[.int .u32 a0_0, .int .i64 a0_1, .int .u32 a0_2, .int .i64 a0_3, .int .i64 a0_4, .int .u16 a0_5, .int .u16 a0_6, .int .u16 a0_7, .int .u16 a0_8] 77 (0, 0))) ∧ Aside0 (Below w.heap.size w wc))
 case first =>
  have H := HC2.out
  clear HC2
  replace H := Option.bind_eq_some_iff.mp H
  obtain ⟨t268, A40, H⟩ := H
  replace H : (if t268 = true then ((crossbuckref03_Right.f k a0_2 a0_3).bind fun t269 => (crossbuckref04_Check.j0 k (!t269) a0_0 a0_1 a0_2 a0_3 a0_4 a0_5 a0_6 a0_7 a0_8)) else (crossbuckref04_Check.j0 k true a0_0 a0_1 a0_2 a0_3 a0_4 a0_5 a0_6 a0_7 a0_8)) = some r := H
  have A4 := Aside0.mk A40
  clear A40
  by_cases c5 : t268 = true
  ·subst c5
   have H1 : ((crossbuckref03_Right.f k a0_2 a0_3).bind fun t269 => (crossbuckref04_Check.j0 k (!t269) a0_0 a0_1 a0_2 a0_3 a0_4 a0_5 a0_6 a0_7 a0_8)) = some r := by rw [if_pos rfl] at H; exact H
   clear H
   have H := H1
   clear H1
   replace H := Option.bind_eq_some_iff.mp H
   obtain ⟨t269, A60, H⟩ := H
   replace H : (crossbuckref04_Check.j0 k (!t269) a0_0 a0_1 a0_2 a0_3 a0_4 a0_5 a0_6 a0_7 a0_8) = some r := H
   have A6 := Aside0.mk A60
   clear A60
   have H' := Aside0.mk H
   clear H
   have hcz7_0 : w3.cell? ⟨gb267, 0, none⟩ = some (.int .u32 a0_0) := (blk_cell BK267.out 0).trans rfl
   have hcz7_1 : w3.cell? ⟨gb267, 1, none⟩ = some (.int .i64 a0_1) := (blk_cell BK267.out 1).trans rfl
   have hcz7_2 : w3.cell? ⟨gb267, 2, none⟩ = some (.int .u32 a0_2) := (blk_cell BK267.out 2).trans rfl
   have hcz7_3 : w3.cell? ⟨gb267, 3, none⟩ = some (.int .i64 a0_3) := (blk_cell BK267.out 3).trans rfl
   have hcz7_4 : w3.cell? ⟨gb267, 4, none⟩ = some (.int .i64 a0_4) := (blk_cell BK267.out 4).trans rfl
   have hcz7_5 : w3.cell? ⟨gb267, 5, none⟩ = some (.int .u16 a0_5) := (blk_cell BK267.out 5).trans rfl
   have hcz7_6 : w3.cell? ⟨gb267, 6, none⟩ = some (.int .u16 a0_6) := (blk_cell BK267.out 6).trans rfl
   have hcz7_7 : w3.cell? ⟨gb267, 7, none⟩ = some (.int .u16 a0_7) := (blk_cell BK267.out 7).trans rfl
   have hcz7_8 : w3.cell? ⟨gb267, 8, none⟩ = some (.int .u16 a0_8) := (blk_cell BK267.out 8).trans rfl
   have hfz7_0 := blk_frozen BK267.out 0
   have hfz7_1 := blk_frozen BK267.out 1
   have hfz7_2 := blk_frozen BK267.out 2
   have hfz7_3 := blk_frozen BK267.out 3
   have hfz7_4 := blk_frozen BK267.out 4
   have hfz7_5 := blk_frozen BK267.out 5
   have hfz7_6 := blk_frozen BK267.out 6
   have hfz7_7 := blk_frozen BK267.out 7
   have hfz7_8 := blk_frozen BK267.out 8
   go_wp2_with (first | ((with_reducible refine gate_callee (f := 61) rfl ?_); refine goesL_ (some 5) rfl rfl Tryd.func61 (by kernel_rfl) rfl #[.agg #[.int .u32 a0_0, .int .i64 a0_1]] rfl (by (try simp only [List.map_toArray, List.map_cons, List.map_nil]); first | done | rfl | (simp only [List.length_drop, List.length_take]; rfl)) ?_; (with_reducible refine (crossbuckref03_Right.calls k a0_0 a0_1 true _ A4.out).mono ?_); rintro e w8 ⟨rfl, hb⟩; refine ⟨_, rfl, ?_⟩; have n0_ := Aside0.mk (blk_below (g := gb267) (o := .cells #[.int .u32 a0_0, .int .i64 a0_1, .int .u32 a0_2, .int .i64 a0_3, .int .i64 a0_4, .int .u16 a0_5, .int .u16 a0_6, .int .u16 a0_7, .int .u16 a0_8] 77 (0, 0)) (by (with_reducible repeat (first | refine blk_drewN ?_ _ | refine blk_drew ?_ | refine blk_alloc ?_ _)); exact BK267.out) hb); have n1_ := Aside0.mk (below_step (by repeat (first | (with_reducible first | exact HB.out | apply below_alloc | apply pw_below_drewN | apply below_drew1 | refine below_set ?_ GE267.out) | exact HB.out)) hb); clear BK267; clear HB; have BK267 := n0_; have HB := n1_; clear n0_ n1_; (try clear hb); (try clear hb2); (try clear hk); (try clear hi); have hcz9_0 : w8.cell? ⟨gb267, 0, none⟩ = some (.int .u32 a0_0) := (blk_cell BK267.out 0).trans rfl; have hcz9_1 : w8.cell? ⟨gb267, 1, none⟩ = some (.int .i64 a0_1) := (blk_cell BK267.out 1).trans rfl; have hcz9_2 : w8.cell? ⟨gb267, 2, none⟩ = some (.int .u32 a0_2) := (blk_cell BK267.out 2).trans rfl; have hcz9_3 : w8.cell? ⟨gb267, 3, none⟩ = some (.int .i64 a0_3) := (blk_cell BK267.out 3).trans rfl; have hcz9_4 : w8.cell? ⟨gb267, 4, none⟩ = some (.int .i64 a0_4) := (blk_cell BK267.out 4).trans rfl; have hcz9_5 : w8.cell? ⟨gb267, 5, none⟩ = some (.int .u16 a0_5) := (blk_cell BK267.out 5).trans rfl; have hcz9_6 : w8.cell? ⟨gb267, 6, none⟩ = some (.int .u16 a0_6) := (blk_cell BK267.out 6).trans rfl; have hcz9_7 : w8.cell? ⟨gb267, 7, none⟩ = some (.int .u16 a0_7) := (blk_cell BK267.out 7).trans rfl; have hcz9_8 : w8.cell? ⟨gb267, 8, none⟩ = some (.int .u16 a0_8) := (blk_cell BK267.out 8).trans rfl; have hfz9_0 := blk_frozen BK267.out 0; have hfz9_1 := blk_frozen BK267.out 1; have hfz9_2 := blk_frozen BK267.out 2; have hfz9_3 := blk_frozen BK267.out 3; have hfz9_4 := blk_frozen BK267.out 4; have hfz9_5 := blk_frozen BK267.out 5; have hfz9_6 := blk_frozen BK267.out 6; have hfz9_7 := blk_frozen BK267.out 7; have hfz9_8 := blk_frozen BK267.out 8) | (go_at_call 61; (with_reducible refine (crossbuckref03_Right.calls k a0_2 a0_3 t269 _ A6.out).mono ?_); rintro e w10 ⟨rfl, hb⟩; have n0_ := Aside0.mk (blk_below (g := gb267) (o := .cells #[.int .u32 a0_0, .int .i64 a0_1, .int .u32 a0_2, .int .i64 a0_3, .int .i64 a0_4, .int .u16 a0_5, .int .u16 a0_6, .int .u16 a0_7, .int .u16 a0_8] 77 (0, 0)) (by (with_reducible repeat (first | refine blk_drewN ?_ _ | refine blk_drew ?_ | refine blk_alloc ?_ _)); exact BK267.out) hb); have n1_ := Aside0.mk (below_step (by repeat (first | (with_reducible first | exact HB.out | apply below_alloc | apply pw_below_drewN | apply below_drew1 | refine below_set ?_ GE267.out) | exact HB.out)) hb); clear BK267; clear HB; have BK267 := n0_; have HB := n1_; clear n0_ n1_; (try clear hb); (try clear hb2); (try clear hk); (try clear hi)))
   go_meet
   case rel => exact ⟨_, (!t269), (by first | rfl | (simp; done) | (simp [*]; done)), H', ⟨by first | omega | exact Nat.le_refl _⟩, ⟨by (with_reducible repeat (first | refine blk_drewN ?_ _ | refine blk_drew ?_ | refine blk_alloc ?_ _)); exact BK267.out⟩, ⟨by repeat (first | (with_reducible first | exact HB.out | apply below_alloc | apply pw_below_drewN | apply below_drew1 | refine below_set ?_ GE267.out) | exact HB.out)⟩⟩
  ·replace c5 := Bool.eq_false_iff.mpr c5
   subst c5
   have H1 : (crossbuckref04_Check.j0 k true a0_0 a0_1 a0_2 a0_3 a0_4 a0_5 a0_6 a0_7 a0_8) = some r := by rw [if_neg (show ¬ (false = true) by decide)] at H; exact H
   clear H
   have H := H1
   clear H1
   have H' := Aside0.mk H
   clear H
   have hcz11_0 : w3.cell? ⟨gb267, 0, none⟩ = some (.int .u32 a0_0) := (blk_cell BK267.out 0).trans rfl
   have hcz11_1 : w3.cell? ⟨gb267, 1, none⟩ = some (.int .i64 a0_1) := (blk_cell BK267.out 1).trans rfl
   have hcz11_2 : w3.cell? ⟨gb267, 2, none⟩ = some (.int .u32 a0_2) := (blk_cell BK267.out 2).trans rfl
   have hcz11_3 : w3.cell? ⟨gb267, 3, none⟩ = some (.int .i64 a0_3) := (blk_cell BK267.out 3).trans rfl
   have hcz11_4 : w3.cell? ⟨gb267, 4, none⟩ = some (.int .i64 a0_4) := (blk_cell BK267.out 4).trans rfl
   have hcz11_5 : w3.cell? ⟨gb267, 5, none⟩ = some (.int .u16 a0_5) := (blk_cell BK267.out 5).trans rfl
   have hcz11_6 : w3.cell? ⟨gb267, 6, none⟩ = some (.int .u16 a0_6) := (blk_cell BK267.out 6).trans rfl
   have hcz11_7 : w3.cell? ⟨gb267, 7, none⟩ = some (.int .u16 a0_7) := (blk_cell BK267.out 7).trans rfl
   have hcz11_8 : w3.cell? ⟨gb267, 8, none⟩ = some (.int .u16 a0_8) := (blk_cell BK267.out 8).trans rfl
   have hfz11_0 := blk_frozen BK267.out 0
   have hfz11_1 := blk_frozen BK267.out 1
   have hfz11_2 := blk_frozen BK267.out 2
   have hfz11_3 := blk_frozen BK267.out 3
   have hfz11_4 := blk_frozen BK267.out 4
   have hfz11_5 := blk_frozen BK267.out 5
   have hfz11_6 := blk_frozen BK267.out 6
   have hfz11_7 := blk_frozen BK267.out 7
   have hfz11_8 := blk_frozen BK267.out 8
   go_wp2_with (first | ((with_reducible refine gate_callee (f := 61) rfl ?_); refine goesL_ (some 5) rfl rfl Tryd.func61 (by kernel_rfl) rfl #[.agg #[.int .u32 a0_0, .int .i64 a0_1]] rfl (by (try simp only [List.map_toArray, List.map_cons, List.map_nil]); first | done | rfl | (simp only [List.length_drop, List.length_take]; rfl)) ?_; (with_reducible refine (crossbuckref03_Right.calls k a0_0 a0_1 false _ A4.out).mono ?_); rintro e w12 ⟨rfl, hb⟩; refine ⟨_, rfl, ?_⟩; have n0_ := Aside0.mk (blk_below (g := gb267) (o := .cells #[.int .u32 a0_0, .int .i64 a0_1, .int .u32 a0_2, .int .i64 a0_3, .int .i64 a0_4, .int .u16 a0_5, .int .u16 a0_6, .int .u16 a0_7, .int .u16 a0_8] 77 (0, 0)) (by (with_reducible repeat (first | refine blk_drewN ?_ _ | refine blk_drew ?_ | refine blk_alloc ?_ _)); exact BK267.out) hb); have n1_ := Aside0.mk (below_step (by repeat (first | (with_reducible first | exact HB.out | apply below_alloc | apply pw_below_drewN | apply below_drew1 | refine below_set ?_ GE267.out) | exact HB.out)) hb); clear BK267; clear HB; have BK267 := n0_; have HB := n1_; clear n0_ n1_; (try clear hb); (try clear hb2); (try clear hk); (try clear hi)))
   go_meet
   case rel => exact ⟨_, (true), (by first | rfl | (simp; done) | (simp [*]; done)), H', ⟨by first | omega | exact Nat.le_refl _⟩, ⟨by (with_reducible repeat (first | refine blk_drewN ?_ _ | refine blk_drew ?_ | refine blk_alloc ?_ _)); exact BK267.out⟩, ⟨by repeat (first | (with_reducible first | exact HB.out | apply below_alloc | apply pw_below_drewN | apply below_drew1 | refine below_set ?_ GE267.out) | exact HB.out)⟩⟩
 case rest =>
  clear HC2
  try clear p2
  try clear c4
  try clear c5
  try clear c6
  try clear hcz11_0
  try clear hcz11_1
  try clear hcz11_2
  try clear hcz11_3
  try clear hcz11_4
  try clear hcz11_5
  try clear hcz11_6
  try clear hcz11_7
  try clear hcz11_8
  try clear hcz7_0
  try clear hcz7_1
  try clear hcz7_2
  try clear hcz7_3
  try clear hcz7_4
  try clear hcz7_5
  try clear hcz7_6
  try clear hcz7_7
  try clear hcz7_8
  try clear hcz9_0
  try clear hcz9_1
  try clear hcz9_2
  try clear hcz9_3
  try clear hcz9_4
  try clear hcz9_5
  try clear hcz9_6
  try clear hcz9_7
  try clear hcz9_8
  try clear hfz11_0
  try clear hfz11_1
  try clear hfz11_2
  try clear hfz11_3
  try clear hfz11_4
  try clear hfz11_5
  try clear hfz11_6
  try clear hfz11_7
  try clear hfz11_8
  try clear hfz7_0
  try clear hfz7_1
  try clear hfz7_2
  try clear hfz7_3
  try clear hfz7_4
  try clear hfz7_5
  try clear hfz7_6
  try clear hfz7_7
  try clear hfz7_8
  try clear hfz9_0
  try clear hfz9_1
  try clear hfz9_2
  try clear hfz9_3
  try clear hfz9_4
  try clear hfz9_5
  try clear hfz9_6
  try clear hfz9_7
  try clear hfz9_8
  obtain ⟨kq, x12_1, rfl, HA, HJ1, BK267, HB⟩ := hcut
  cases kq with
  | zero => exact absurd HA.out (by simp [crossbuckref04_Check.j0])
  | succ kj1 =>
   have H := HA.out
   clear HA
   simp only [crossbuckref04_Check.j0] at H
   by_cases c13 : x12_1 = true
   ·subst c13
    have H1 : (some 13) = some r := by rw [if_pos rfl] at H; exact H
    clear H
    have H := H1
    clear H1
    obtain rfl := Option.some.inj H
    go_wp2
    go_ret
    exact ⟨by first | rfl | (simp [errW_none, errW_some] <;> rfl) | (simp [*, errW_none, errW_some] <;> rfl), by repeat (first | (with_reducible first | exact HB.out | apply below_alloc | apply pw_below_drewN | apply below_drew1 | refine below_set ?_ GE267.out) | exact HB.out)⟩
   ·replace c13 := Bool.eq_false_iff.mpr c13
    subst c13
    have H1 : (if a0_4 < (-1) then (crossbuckref04_Check.j1 kj1 true a0_0 a0_1 a0_2 a0_3 a0_4 a0_5 a0_6 a0_7 a0_8) else (crossbuckref04_Check.j1 kj1 (decide (a0_4 > 255)) a0_0 a0_1 a0_2 a0_3 a0_4 a0_5 a0_6 a0_7 a0_8)) = some r := by rw [if_neg (show ¬ (false = true) by decide)] at H; exact H
    clear H
    have H := H1
    clear H1
    have HC14 := Aside0.mk H
    clear H
    go_upto_region 3 with (fail)
    go_cut [20] (fun v20 wc => ∃ (kq : Nat) (x20_13 : Bool), v20 = .bool x20_13 ∧ Aside0 (crossbuckref04_Check.j1 kq x20_13 a0_0 a0_1 a0_2 a0_3 a0_4 a0_5 a0_6 a0_7 a0_8 = some r) ∧ Aside0 (kq ≤ kj1) ∧ Aside0 (wc.heap[gb267]? = some (.cells #[.int .u32 a0_0, .int .i64 a0_1, .int .u32 a0_2, .int .i64 a0_3, .int .i64 a0_4, .int .u16 a0_5, .int .u16 a0_6, .int .u16 a0_7, .int .u16 a0_8] 77 (0, 0))) ∧ Aside0 (Below w.heap.size w wc))
    case first =>
     have H := HC14.out
     clear HC14
     by_cases c15 : a0_4 < (-1)
     ·rw [if_pos c15] at H
      have c15b0 : decide (a0_4 < (-1)) = true := decide_eq_true c15
      clear c15
      (first | rw [c15b0] | (simp only [i64_w, i32_w]; rw [c15b0]) | skip)
      have H' := Aside0.mk H
      clear H
      have hcz16_0 : wc.cell? ⟨gb267, 0, none⟩ = some (.int .u32 a0_0) := (blk_cell BK267.out 0).trans rfl
      have hcz16_1 : wc.cell? ⟨gb267, 1, none⟩ = some (.int .i64 a0_1) := (blk_cell BK267.out 1).trans rfl
      have hcz16_2 : wc.cell? ⟨gb267, 2, none⟩ = some (.int .u32 a0_2) := (blk_cell BK267.out 2).trans rfl
      have hcz16_3 : wc.cell? ⟨gb267, 3, none⟩ = some (.int .i64 a0_3) := (blk_cell BK267.out 3).trans rfl
      have hcz16_4 : wc.cell? ⟨gb267, 4, none⟩ = some (.int .i64 a0_4) := (blk_cell BK267.out 4).trans rfl
      have hcz16_5 : wc.cell? ⟨gb267, 5, none⟩ = some (.int .u16 a0_5) := (blk_cell BK267.out 5).trans rfl
      have hcz16_6 : wc.cell? ⟨gb267, 6, none⟩ = some (.int .u16 a0_6) := (blk_cell BK267.out 6).trans rfl
      have hcz16_7 : wc.cell? ⟨gb267, 7, none⟩ = some (.int .u16 a0_7) := (blk_cell BK267.out 7).trans rfl
      have hcz16_8 : wc.cell? ⟨gb267, 8, none⟩ = some (.int .u16 a0_8) := (blk_cell BK267.out 8).trans rfl
      have hfz16_0 := blk_frozen BK267.out 0
      have hfz16_1 := blk_frozen BK267.out 1
      have hfz16_2 := blk_frozen BK267.out 2
      have hfz16_3 := blk_frozen BK267.out 3
      have hfz16_4 := blk_frozen BK267.out 4
      have hfz16_5 := blk_frozen BK267.out 5
      have hfz16_6 := blk_frozen BK267.out 6
      have hfz16_7 := blk_frozen BK267.out 7
      have hfz16_8 := blk_frozen BK267.out 8
      go_wp2
      go_meet
      case rel => exact ⟨_, (true), (by first | rfl | (simp; done) | (simp [*]; done)), H', ⟨by have := HJ1.out; first | omega | exact Nat.le_refl _⟩, ⟨by (with_reducible repeat (first | refine blk_drewN ?_ _ | refine blk_drew ?_ | refine blk_alloc ?_ _)); exact BK267.out⟩, ⟨by repeat (first | (with_reducible first | exact HB.out | apply below_alloc | apply pw_below_drewN | apply below_drew1 | refine below_set ?_ GE267.out) | exact HB.out)⟩⟩
     ·rw [if_neg c15] at H
      have c15b0 : decide (a0_4 < (-1)) = false := decide_eq_false c15
      clear c15
      (first | rw [c15b0] | (simp only [i64_w, i32_w]; rw [c15b0]) | skip)
      have H' := Aside0.mk H
      clear H
      have hcz17_0 : wc.cell? ⟨gb267, 0, none⟩ = some (.int .u32 a0_0) := (blk_cell BK267.out 0).trans rfl
      have hcz17_1 : wc.cell? ⟨gb267, 1, none⟩ = some (.int .i64 a0_1) := (blk_cell BK267.out 1).trans rfl
      have hcz17_2 : wc.cell? ⟨gb267, 2, none⟩ = some (.int .u32 a0_2) := (blk_cell BK267.out 2).trans rfl
      have hcz17_3 : wc.cell? ⟨gb267, 3, none⟩ = some (.int .i64 a0_3) := (blk_cell BK267.out 3).trans rfl
      have hcz17_4 : wc.cell? ⟨gb267, 4, none⟩ = some (.int .i64 a0_4) := (blk_cell BK267.out 4).trans rfl
      have hcz17_5 : wc.cell? ⟨gb267, 5, none⟩ = some (.int .u16 a0_5) := (blk_cell BK267.out 5).trans rfl
      have hcz17_6 : wc.cell? ⟨gb267, 6, none⟩ = some (.int .u16 a0_6) := (blk_cell BK267.out 6).trans rfl
      have hcz17_7 : wc.cell? ⟨gb267, 7, none⟩ = some (.int .u16 a0_7) := (blk_cell BK267.out 7).trans rfl
      have hcz17_8 : wc.cell? ⟨gb267, 8, none⟩ = some (.int .u16 a0_8) := (blk_cell BK267.out 8).trans rfl
      have hfz17_0 := blk_frozen BK267.out 0
      have hfz17_1 := blk_frozen BK267.out 1
      have hfz17_2 := blk_frozen BK267.out 2
      have hfz17_3 := blk_frozen BK267.out 3
      have hfz17_4 := blk_frozen BK267.out 4
      have hfz17_5 := blk_frozen BK267.out 5
      have hfz17_6 := blk_frozen BK267.out 6
      have hfz17_7 := blk_frozen BK267.out 7
      have hfz17_8 := blk_frozen BK267.out 8
      go_wp2
      go_meet
      case rel => exact ⟨_, (decide (a0_4 > 255)), (by first | rfl | (simp; done) | (simp [*]; done)), H', ⟨by have := HJ1.out; first | omega | exact Nat.le_refl _⟩, ⟨by (with_reducible repeat (first | refine blk_drewN ?_ _ | refine blk_drew ?_ | refine blk_alloc ?_ _)); exact BK267.out⟩, ⟨by repeat (first | (with_reducible first | exact HB.out | apply below_alloc | apply pw_below_drewN | apply below_drew1 | refine below_set ?_ GE267.out) | exact HB.out)⟩⟩
    case rest =>
     clear HC14
     try clear c1
     try clear p2
     try clear c4
     try clear c5
     try clear c6
     try clear c13
     try clear c15
     try clear c15b0
     try clear hcz11_0
     try clear hcz11_1
     try clear hcz11_2
     try clear hcz11_3
     try clear hcz11_4
     try clear hcz11_5
     try clear hcz11_6
     try clear hcz11_7
     try clear hcz11_8
     try clear hcz16_0
     try clear hcz16_1
     try clear hcz16_2
     try clear hcz16_3
     try clear hcz16_4
     try clear hcz16_5
     try clear hcz16_6
     try clear hcz16_7
     try clear hcz16_8
     try clear hcz17_0
     try clear hcz17_1
     try clear hcz17_2
     try clear hcz17_3
     try clear hcz17_4
     try clear hcz17_5
     try clear hcz17_6
     try clear hcz17_7
     try clear hcz17_8
     try clear hcz7_0
     try clear hcz7_1
     try clear hcz7_2
     try clear hcz7_3
     try clear hcz7_4
     try clear hcz7_5
     try clear hcz7_6
     try clear hcz7_7
     try clear hcz7_8
     try clear hcz9_0
     try clear hcz9_1
     try clear hcz9_2
     try clear hcz9_3
     try clear hcz9_4
     try clear hcz9_5
     try clear hcz9_6
     try clear hcz9_7
     try clear hcz9_8
     try clear hfz11_0
     try clear hfz11_1
     try clear hfz11_2
     try clear hfz11_3
     try clear hfz11_4
     try clear hfz11_5
     try clear hfz11_6
     try clear hfz11_7
     try clear hfz11_8
     try clear hfz16_0
     try clear hfz16_1
     try clear hfz16_2
     try clear hfz16_3
     try clear hfz16_4
     try clear hfz16_5
     try clear hfz16_6
     try clear hfz16_7
     try clear hfz16_8
     try clear hfz17_0
     try clear hfz17_1
     try clear hfz17_2
     try clear hfz17_3
     try clear hfz17_4
     try clear hfz17_5
     try clear hfz17_6
     try clear hfz17_7
     try clear hfz17_8
     try clear hfz7_0
     try clear hfz7_1
     try clear hfz7_2
     try clear hfz7_3
     try clear hfz7_4
     try clear hfz7_5
     try clear hfz7_6
     try clear hfz7_7
     try clear hfz7_8
     try clear hfz9_0
     try clear hfz9_1
     try clear hfz9_2
     try clear hfz9_3
     try clear hfz9_4
     try clear hfz9_5
     try clear hfz9_6
     try clear hfz9_7
     try clear hfz9_8
     try clear p2
     obtain ⟨kq, x20_13, rfl, HA, HJ13, BK267, HB⟩ := hcut
     cases kq with
     | zero => exact absurd HA.out (by simp [crossbuckref04_Check.j1])
     | succ kj13 =>
      have H := HA.out
      clear HA
      simp only [crossbuckref04_Check.j1] at H
      by_cases c18 : x20_13 = true
      ·subst c18
       have H1 : (some 5) = some r := by rw [if_pos rfl] at H; exact H
       clear H
       have H := H1
       clear H1
       obtain rfl := Option.some.inj H
       go_wp2
       go_ret
       exact ⟨by first | rfl | (simp [errW_none, errW_some] <;> rfl) | (simp [*, errW_none, errW_some] <;> rfl), by repeat (first | (with_reducible first | exact HB.out | apply below_alloc | apply pw_below_drewN | apply below_drew1 | refine below_set ?_ GE267.out) | exact HB.out)⟩
      ·replace c18 := Bool.eq_false_iff.mpr c18
       subst c18
       have H1 : (if a0_5 > a0_6 then (some 14) else (if a0_7 > a0_8 then (some 14) else (some 0))) = some r := by rw [if_neg (show ¬ (false = true) by decide)] at H; exact H
       clear H
       have H := H1
       clear H1
       by_cases c19 : a0_5 > a0_6
       ·rw [if_pos c19] at H
        have c19b0 : decide (a0_6 < a0_5) = true := decide_eq_true c19
        clear c19
        obtain rfl := Option.some.inj H
        have hcz20_0 : wc.cell? ⟨gb267, 0, none⟩ = some (.int .u32 a0_0) := (blk_cell BK267.out 0).trans rfl
        have hcz20_1 : wc.cell? ⟨gb267, 1, none⟩ = some (.int .i64 a0_1) := (blk_cell BK267.out 1).trans rfl
        have hcz20_2 : wc.cell? ⟨gb267, 2, none⟩ = some (.int .u32 a0_2) := (blk_cell BK267.out 2).trans rfl
        have hcz20_3 : wc.cell? ⟨gb267, 3, none⟩ = some (.int .i64 a0_3) := (blk_cell BK267.out 3).trans rfl
        have hcz20_4 : wc.cell? ⟨gb267, 4, none⟩ = some (.int .i64 a0_4) := (blk_cell BK267.out 4).trans rfl
        have hcz20_5 : wc.cell? ⟨gb267, 5, none⟩ = some (.int .u16 a0_5) := (blk_cell BK267.out 5).trans rfl
        have hcz20_6 : wc.cell? ⟨gb267, 6, none⟩ = some (.int .u16 a0_6) := (blk_cell BK267.out 6).trans rfl
        have hcz20_7 : wc.cell? ⟨gb267, 7, none⟩ = some (.int .u16 a0_7) := (blk_cell BK267.out 7).trans rfl
        have hcz20_8 : wc.cell? ⟨gb267, 8, none⟩ = some (.int .u16 a0_8) := (blk_cell BK267.out 8).trans rfl
        have hfz20_0 := blk_frozen BK267.out 0
        have hfz20_1 := blk_frozen BK267.out 1
        have hfz20_2 := blk_frozen BK267.out 2
        have hfz20_3 := blk_frozen BK267.out 3
        have hfz20_4 := blk_frozen BK267.out 4
        have hfz20_5 := blk_frozen BK267.out 5
        have hfz20_6 := blk_frozen BK267.out 6
        have hfz20_7 := blk_frozen BK267.out 7
        have hfz20_8 := blk_frozen BK267.out 8
        go_wp2
        go_ret
        exact ⟨by first | rfl | (simp [errW_none, errW_some] <;> rfl) | (simp [*, errW_none, errW_some] <;> rfl), by repeat (first | (with_reducible first | exact HB.out | apply below_alloc | apply pw_below_drewN | apply below_drew1 | refine below_set ?_ GE267.out) | exact HB.out)⟩
       ·rw [if_neg c19] at H
        have c19b0 : decide (a0_6 < a0_5) = false := decide_eq_false c19
        clear c19
        by_cases c21 : a0_7 > a0_8
        ·rw [if_pos c21] at H
         have c21b0 : decide (a0_8 < a0_7) = true := decide_eq_true c21
         clear c21
         obtain rfl := Option.some.inj H
         have hcz22_0 : wc.cell? ⟨gb267, 0, none⟩ = some (.int .u32 a0_0) := (blk_cell BK267.out 0).trans rfl
         have hcz22_1 : wc.cell? ⟨gb267, 1, none⟩ = some (.int .i64 a0_1) := (blk_cell BK267.out 1).trans rfl
         have hcz22_2 : wc.cell? ⟨gb267, 2, none⟩ = some (.int .u32 a0_2) := (blk_cell BK267.out 2).trans rfl
         have hcz22_3 : wc.cell? ⟨gb267, 3, none⟩ = some (.int .i64 a0_3) := (blk_cell BK267.out 3).trans rfl
         have hcz22_4 : wc.cell? ⟨gb267, 4, none⟩ = some (.int .i64 a0_4) := (blk_cell BK267.out 4).trans rfl
         have hcz22_5 : wc.cell? ⟨gb267, 5, none⟩ = some (.int .u16 a0_5) := (blk_cell BK267.out 5).trans rfl
         have hcz22_6 : wc.cell? ⟨gb267, 6, none⟩ = some (.int .u16 a0_6) := (blk_cell BK267.out 6).trans rfl
         have hcz22_7 : wc.cell? ⟨gb267, 7, none⟩ = some (.int .u16 a0_7) := (blk_cell BK267.out 7).trans rfl
         have hcz22_8 : wc.cell? ⟨gb267, 8, none⟩ = some (.int .u16 a0_8) := (blk_cell BK267.out 8).trans rfl
         have hfz22_0 := blk_frozen BK267.out 0
         have hfz22_1 := blk_frozen BK267.out 1
         have hfz22_2 := blk_frozen BK267.out 2
         have hfz22_3 := blk_frozen BK267.out 3
         have hfz22_4 := blk_frozen BK267.out 4
         have hfz22_5 := blk_frozen BK267.out 5
         have hfz22_6 := blk_frozen BK267.out 6
         have hfz22_7 := blk_frozen BK267.out 7
         have hfz22_8 := blk_frozen BK267.out 8
         go_wp2
         go_ret
         exact ⟨by first | rfl | (simp [errW_none, errW_some] <;> rfl) | (simp [*, errW_none, errW_some] <;> rfl), by repeat (first | (with_reducible first | exact HB.out | apply below_alloc | apply pw_below_drewN | apply below_drew1 | refine below_set ?_ GE267.out) | exact HB.out)⟩
        ·rw [if_neg c21] at H
         have c21b0 : decide (a0_8 < a0_7) = false := decide_eq_false c21
         clear c21
         obtain rfl := Option.some.inj H
         have hcz23_0 : wc.cell? ⟨gb267, 0, none⟩ = some (.int .u32 a0_0) := (blk_cell BK267.out 0).trans rfl
         have hcz23_1 : wc.cell? ⟨gb267, 1, none⟩ = some (.int .i64 a0_1) := (blk_cell BK267.out 1).trans rfl
         have hcz23_2 : wc.cell? ⟨gb267, 2, none⟩ = some (.int .u32 a0_2) := (blk_cell BK267.out 2).trans rfl
         have hcz23_3 : wc.cell? ⟨gb267, 3, none⟩ = some (.int .i64 a0_3) := (blk_cell BK267.out 3).trans rfl
         have hcz23_4 : wc.cell? ⟨gb267, 4, none⟩ = some (.int .i64 a0_4) := (blk_cell BK267.out 4).trans rfl
         have hcz23_5 : wc.cell? ⟨gb267, 5, none⟩ = some (.int .u16 a0_5) := (blk_cell BK267.out 5).trans rfl
         have hcz23_6 : wc.cell? ⟨gb267, 6, none⟩ = some (.int .u16 a0_6) := (blk_cell BK267.out 6).trans rfl
         have hcz23_7 : wc.cell? ⟨gb267, 7, none⟩ = some (.int .u16 a0_7) := (blk_cell BK267.out 7).trans rfl
         have hcz23_8 : wc.cell? ⟨gb267, 8, none⟩ = some (.int .u16 a0_8) := (blk_cell BK267.out 8).trans rfl
         have hfz23_0 := blk_frozen BK267.out 0
         have hfz23_1 := blk_frozen BK267.out 1
         have hfz23_2 := blk_frozen BK267.out 2
         have hfz23_3 := blk_frozen BK267.out 3
         have hfz23_4 := blk_frozen BK267.out 4
         have hfz23_5 := blk_frozen BK267.out 5
         have hfz23_6 := blk_frozen BK267.out 6
         have hfz23_7 := blk_frozen BK267.out 7
         have hfz23_8 := blk_frozen BK267.out 8
         go_wp2
         go_ret
         exact ⟨by first | rfl | (simp [errW_none, errW_some] <;> rfl) | (simp [*, errW_none, errW_some] <;> rfl), by repeat (first | (with_reducible first | exact HB.out | apply below_alloc | apply pw_below_drewN | apply below_drew1 | refine below_set ?_ GE267.out) | exact HB.out)⟩

end Go.Proofs.YtloclimoffhbhaaDoor.PSba

namespace Go.Proofs.YtloclimoffhbhaaDoor.PSba
open Go.RowKit Go.Proofs.YtloclimoffhbhaaDoorW.PrintWords Go.Proofs.YtloclimoffhbhaaDoorW.PrintLast Go.Proofs.YtloclimoffhbhaaDoorW.PrintMore
attribute [local go_sem] max2_int min2_int max_two min_two max_three min_three max_four min_four   -- for this text's walks alone
set_option linter.unusedVariables false
set_option linter.unusedSimpArgs false

/-! ### crossbuckref25_small: function 102 -/
def crossbuckref25_small.l0 : Nat → List Int → Int → Option (Bool)
 | 0, _, _ => none
 | k + 1, x0, x3 => if x3 < (x0.length : Int) then (if 0 ≤ x3 then (if (rd x0 x3) < 0 then (some false) else (if (rd x0 x3) > 2097152 then (some false) else (crossbuckref25_small.l0 k x0 (wrap64 (x3 + 1))))) else (none)) else (some true)
def crossbuckref25_small.f (k : Nat) (l0 : List Int) : Option (Bool) := crossbuckref25_small.l0 k l0 0
theorem crossbuckref25_small.mono_l : ∀ k, (∀ y0 y1, LeO (crossbuckref25_small.l0 k y0 y1) (crossbuckref25_small.l0 (k + 1) y0 y1))
 | 0 => fun _ _ r h => by simp [crossbuckref25_small.l0] at h
 | k + 1 => by
  have ih0 := crossbuckref25_small.mono_l k
  ·intro y0 y1
   unfold crossbuckref25_small.l0
   repeat' first
   | (with_reducible exact ih0 _ _)
   | (with_reducible exact LeO.refl _)
   | (with_reducible exact LeO.none _)
   | (with_reducible refine LeO.ite ?_ ?_)
   | (with_reducible refine LeO.bind ?_ (fun _ => ?_))
   | exact ih0 _ _
   | exact LeO.none _
   | refine LeO.ite ?_ ?_
   | refine LeO.bind ?_ (fun _ => ?_)
theorem crossbuckref25_small.mono : ∀ a0 k, LeO (crossbuckref25_small.f k a0) (crossbuckref25_small.f (k + 1) a0) := by
 intro a0 k
 have ih0 := crossbuckref25_small.mono_l k
 unfold crossbuckref25_small.f
 repeat' first
   | (with_reducible exact ih0 _ _)
   | (with_reducible exact LeO.refl _)
   | (with_reducible exact LeO.none _)
   | (with_reducible refine LeO.ite ?_ ?_)
   | (with_reducible refine LeO.bind ?_ (fun _ => ?_))
   | exact ih0 _ _
   | exact LeO.none _
   | refine LeO.ite ?_ ?_
   | refine LeO.bind ?_ (fun _ => ?_)
set_option maxHeartbeats 8000000 in
set_option maxRecDepth 100000 in
theorem crossbuckref25_small.calls (k : Nat) (A0 : Option Addr) (c0 : Nat) (l0 : List Int) (r : Bool) (w : World) (hr0 : Kd.C (Kd.int .i64) w A0 l0.length l0) (hc0 : l0.length ≤ c0) (h : crossbuckref25_small.f k l0 = some r) :
  Calls Tryd.prog 102 #[.slice A0 l0.length c0] w fun e w' => e = .returned (.bool r) ∧ Drawn0 w w' := by
 have HR0 := Aside0.mk hr0
 have HC0 := Aside0.mk hc0
 clear hr0 hc0
 have H : (crossbuckref25_small.l0 k l0 0) = some r := h
 clear h
 have H' := Aside0.mk H
 clear H
 go_enter Tryd.func102, Tryd.ntmps102
 go_wp2
 go_loopg [3] k (fun kq v3 w' => ∃ (x3_1 : Int), v3 = .int .i64 x3_1 ∧ Aside0 (crossbuckref25_small.l0 kq l0 x3_1 = some r) ∧ Aside0 (kq ≤ k) ∧ Drawn0 w w')
 case atStart => exact ⟨(0), (by first | rfl | (simp; done) | (simp [*]; done)), H', ⟨Nat.le_refl _⟩, by repeat (first | exact Drawn0.refl _ | apply Drawn0.step)⟩
 case round =>
  clear H'
  try clear c1
  obtain ⟨x3_1, rfl, HA, HK1, ⟨m1, rfl⟩⟩ := hrel
  cases gk with
  | zero => exact absurd HA.out (by simp [crossbuckref25_small.l0])
  | succ k1 =>
   have H := HA.out
   clear HA
   simp only [crossbuckref25_small.l0] at H
   by_cases c2 : x3_1 < (l0.length : Int)
   ·rw [if_pos c2] at H
    have c2b0 : decide (x3_1 < (l0.length : Int)) = true := decide_eq_true c2
    clear c2
    by_cases c3 : 0 ≤ x3_1
    ·rw [if_pos c3] at H
     have c3b0 : decide (0 ≤ x3_1) = true := decide_eq_true c3
     clear c3
     by_cases c4 : (rd l0 x3_1) < 0
     ·rw [if_pos c4] at H
      have c4b0 : decide ((rd l0 x3_1) < 0) = true := decide_eq_true c4
      clear c4
      obtain rfl := Option.some.inj H
      have p270 : 0 ≤ (x3_1 : Int) := of_decide_eq_true (by first | (with_reducible assumption) | assumption)
      have q270 : x3_1 < (l0.length : Int) := of_decide_eq_true (by first | (with_reducible assumption) | assumption)
      obtain ⟨ad270, e270, hx270_0⟩ := Kd.at_int HR0.out x3_1 p270 q270
      cases e270
      replace p270 := eq_true p270
      replace q270 := eq_true q270
      go_wp2
      go_ret
      exact ⟨by first | rfl | (simp; done) | (simp [*]; done), by repeat (first | exact Drawn0.refl _ | apply Drawn0.step)⟩
     ·rw [if_neg c4] at H
      have c4b0 : decide ((rd l0 x3_1) < 0) = false := decide_eq_false c4
      clear c4
      by_cases c5 : (rd l0 x3_1) > 2097152
      ·rw [if_pos c5] at H
       have c5b0 : decide (2097152 < (rd l0 x3_1)) = true := decide_eq_true c5
       clear c5
       obtain rfl := Option.some.inj H
       have p270 : 0 ≤ (x3_1 : Int) := of_decide_eq_true (by first | (with_reducible assumption) | assumption)
       have q270 : x3_1 < (l0.length : Int) := of_decide_eq_true (by first | (with_reducible assumption) | assumption)
       obtain ⟨ad270, e270, hx270_0⟩ := Kd.at_int HR0.out x3_1 p270 q270
       cases e270
       replace p270 := eq_true p270
       replace q270 := eq_true q270
       have p271 : 0 ≤ (x3_1 : Int) := of_decide_eq_true (by first | (with_reducible assumption) | assumption)
       have q271 : x3_1 < (l0.length : Int) := of_decide_eq_true (by first | (with_reducible assumption) | assumption)
       obtain ⟨ad271, e271, hx271_0⟩ := Kd.at_int HR0.out x3_1 p271 q271
       obtain rfl : ad270 = ad271 := (by injection e271)
       replace p271 := eq_true p271
       replace q271 := eq_true q271
       go_wp2
       go_ret
       exact ⟨by first | rfl | (simp; done) | (simp [*]; done), by repeat (first | exact Drawn0.refl _ | apply Drawn0.step)⟩
      ·rw [if_neg c5] at H
       have c5b0 : decide (2097152 < (rd l0 x3_1)) = false := decide_eq_false c5
       clear c5
       have H' := Aside0.mk H
       clear H
       have p270 : 0 ≤ (x3_1 : Int) := of_decide_eq_true (by first | (with_reducible assumption) | assumption)
       have q270 : x3_1 < (l0.length : Int) := of_decide_eq_true (by first | (with_reducible assumption) | assumption)
       obtain ⟨ad270, e270, hx270_0⟩ := Kd.at_int HR0.out x3_1 p270 q270
       cases e270
       replace p270 := eq_true p270
       replace q270 := eq_true q270
       have p271 : 0 ≤ (x3_1 : Int) := of_decide_eq_true (by first | (with_reducible assumption) | assumption)
       have q271 : x3_1 < (l0.length : Int) := of_decide_eq_true (by first | (with_reducible assumption) | assumption)
       obtain ⟨ad271, e271, hx271_0⟩ := Kd.at_int HR0.out x3_1 p271 q271
       obtain rfl : ad270 = ad271 := (by injection e271)
       replace p271 := eq_true p271
       replace q271 := eq_true q271
       go_wp2
       go_roundg k1
       case measure => have := HK1.out; omega
       case rel => exact ⟨(wrap64 (x3_1 + 1)), (by first | rfl | (simp; done) | (simp [*]; done)), H', ⟨by have := HK1.out; omega⟩, by repeat (first | exact Drawn0.refl _ | apply Drawn0.step)⟩
    ·rw [if_neg c3] at H
     exact absurd H (by simp)
   ·rw [if_neg c2] at H
    have c2b0 : decide (x3_1 < (l0.length : Int)) = false := decide_eq_false c2
    clear c2
    obtain rfl := Option.some.inj H
    go_wp2
    go_ret
    exact ⟨by first | rfl | (simp; done) | (simp [*]; done), by repeat (first | exact Drawn0.refl _ | apply Drawn0.step)⟩

end Go.Proofs.YtloclimoffhbhaaDoor.PSba
