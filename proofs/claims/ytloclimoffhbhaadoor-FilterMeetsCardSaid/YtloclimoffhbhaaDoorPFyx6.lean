-- Written by wip/myprint.py and wip/merge.py (this session's own programs); Lean checks it.
-- halved
import Derived.Test.YtloclimoffhbhaaDoorPFyx0
import Derived.Test.YtloclimoffhbhaaDoorPFyx2
import Derived.Test.YtloclimoffhbhaaDoorPFyx5
import Derived.Test.YtloclimoffhbhaaDoorPFyx1
namespace Go.Proofs.YtloclimoffhbhaaDoor.PFy
open Go.RowKit Go.Proofs.YtloclimoffhbhaaDoorW.PrintWords Go.Proofs.YtloclimoffhbhaaDoorW.PrintLast Go.Proofs.YtloclimoffhbhaaDoorW.PrintMore
attribute [local go_sem] max2_int min2_int max_two min_two max_three min_three max_four min_four   -- for this text's walks alone
set_option linter.unusedVariables false
set_option linter.unusedSimpArgs false

/-! ### crossbucklaw04_awake: function 46 -/
def crossbucklaw04_awake.f (k : Nat)  : Option (Bool) := (filter_Parse.f k (⟨#[49, 48, 46, 48, 46, 48, 46, 48, 47, 56, 32, 48, 46, 48, 46, 48, 46, 48, 47, 48, 32, 97, 110, 121, 32, 48, 45, 54, 53, 53, 51, 53, 32, 56, 48, 45, 56, 48]⟩ : ByteArray)).bind fun bt189 => (if bt189.2.2.2.2.2.2.2.2.2 = 0 then ((filter_Match.f bt189.1 bt189.2.1 bt189.2.2.1 bt189.2.2.2.1 bt189.2.2.2.2.1 bt189.2.2.2.2.2.1 bt189.2.2.2.2.2.2.1 bt189.2.2.2.2.2.2.2.1 bt189.2.2.2.2.2.2.2.2.1 167772161 0 0 0 80).bind fun t200 => (if t200 = true then ((filter_Match.f bt189.1 bt189.2.1 bt189.2.2.1 bt189.2.2.2.1 bt189.2.2.2.2.1 bt189.2.2.2.2.2.1 bt189.2.2.2.2.2.2.1 bt189.2.2.2.2.2.2.2.1 bt189.2.2.2.2.2.2.2.2.1 184549377 0 0 0 80).bind fun t201 => (some (!t201))) else (some false))) else (some false))
theorem crossbucklaw04_awake.mono : ∀ k, LeO (crossbucklaw04_awake.f k ) (crossbucklaw04_awake.f (k + 1) ) := by
 intro  k
 unfold crossbucklaw04_awake.f
 repeat' first
   | (with_reducible exact filter_Parse.mono _ _)
   | (with_reducible exact LeO.refl _)
   | (with_reducible exact LeO.none _)
   | (with_reducible refine LeO.ite ?_ ?_)
   | (with_reducible refine LeO.bind ?_ (fun _ => ?_))
   | exact filter_Parse.mono _ _
   | exact LeO.none _
   | refine LeO.ite ?_ ?_
   | refine LeO.bind ?_ (fun _ => ?_)
set_option maxHeartbeats 8000000 in
set_option maxRecDepth 100000 in
theorem crossbucklaw04_awake.calls (k : Nat)  (r : Bool) (w : World) (hG : Hand.Good true false w) (h : crossbucklaw04_awake.f k  = some r) :
  Calls Tryd.prog 46 #[] w fun e w' => e = .returned (.bool r) ∧ Below w.heap.size w w' := by
 have hu77 := Tryd.underlying77
 have hu67 := Tryd.underlying67
 have HB := Aside0.mk (Below.refl w.heap.size w)
 have hGG := Aside0.mk hG
 clear hG
 have H : ((filter_Parse.f k (⟨#[49, 48, 46, 48, 46, 48, 46, 48, 47, 56, 32, 48, 46, 48, 46, 48, 46, 48, 47, 48, 32, 97, 110, 121, 32, 48, 45, 54, 53, 53, 51, 53, 32, 56, 48, 45, 56, 48]⟩ : ByteArray)).bind fun bt189 => (if bt189.2.2.2.2.2.2.2.2.2 = 0 then ((filter_Match.f bt189.1 bt189.2.1 bt189.2.2.1 bt189.2.2.2.1 bt189.2.2.2.2.1 bt189.2.2.2.2.2.1 bt189.2.2.2.2.2.2.1 bt189.2.2.2.2.2.2.2.1 bt189.2.2.2.2.2.2.2.2.1 167772161 0 0 0 80).bind fun t200 => (if t200 = true then ((filter_Match.f bt189.1 bt189.2.1 bt189.2.2.1 bt189.2.2.2.1 bt189.2.2.2.2.1 bt189.2.2.2.2.2.1 bt189.2.2.2.2.2.2.1 bt189.2.2.2.2.2.2.2.1 bt189.2.2.2.2.2.2.2.2.1 184549377 0 0 0 80).bind fun t201 => (some (!t201))) else (some false))) else (some false))) = some r := h
 clear h
 replace H := Option.bind_eq_some_iff.mp H
 obtain ⟨⟨t189, t190, t191, t192, t193, t194, t195, t196, t197, t198⟩, A10, H⟩ := H
 replace H : (if t198 = 0 then ((filter_Match.f t189 t190 t191 t192 t193 t194 t195 t196 t197 167772161 0 0 0 80).bind fun t200 => (if t200 = true then ((filter_Match.f t189 t190 t191 t192 t193 t194 t195 t196 t197 184549377 0 0 0 80).bind fun t201 => (some (!t201))) else (some false))) else (some false)) = some r := H
 have A1 := Aside0.mk A10
 clear A10
 by_cases c2 : t198 = 0
 ·rw [if_pos c2] at H
  have c2b0 : (t198 == 0) = true := beq_iff_eq.mpr c2
  have c2b1 : (t198 != 0) = false := bne_eq_false_iff_eq.mpr c2
  clear c2
  replace H := Option.bind_eq_some_iff.mp H
  obtain ⟨t200, A30, H⟩ := H
  replace H : (if t200 = true then ((filter_Match.f t189 t190 t191 t192 t193 t194 t195 t196 t197 184549377 0 0 0 80).bind fun t201 => (some (!t201))) else (some false)) = some r := H
  have A3 := Aside0.mk A30
  clear A30
  by_cases c4 : t200 = true
  ·subst c4
   have H1 : ((filter_Match.f t189 t190 t191 t192 t193 t194 t195 t196 t197 184549377 0 0 0 80).bind fun t201 => (some (!t201))) = some r := by rw [if_pos rfl] at H; exact H
   clear H
   have H := H1
   clear H1
   replace H := Option.bind_eq_some_iff.mp H
   obtain ⟨t201, A50, H⟩ := H
   replace H : (some (!t201)) = some r := H
   have A5 := Aside0.mk A50
   clear A50
   obtain rfl := Option.some.inj H
   go_enter Tryd.func46, Tryd.ntmps46
   go_wp2_with (first | ((with_reducible refine gate_callee (f := 64) rfl ?_); refine goesL_ (some 4) rfl rfl Tryd.func64 (by kernel_rfl) rfl #[.string (⟨#[49, 48, 46, 48, 46, 48, 46, 48, 47, 56, 32, 48, 46, 48, 46, 48, 46, 48, 47, 48, 32, 97, 110, 121, 32, 48, 45, 54, 53, 53, 51, 53, 32, 56, 48, 45, 56, 48]⟩ : ByteArray)] rfl (by (try simp only [List.map_toArray, List.map_cons, List.map_nil]); first | done | rfl | (simp only [List.length_drop, List.length_take]; rfl)) ?_; (with_reducible refine (filter_Parse.calls k (⟨#[49, 48, 46, 48, 46, 48, 46, 48, 47, 56, 32, 48, 46, 48, 46, 48, 46, 48, 47, 48, 32, 97, 110, 121, 32, 48, 45, 54, 53, 53, 51, 53, 32, 56, 48, 45, 56, 48]⟩ : ByteArray) t189 t190 t191 t192 t193 t194 t195 t196 t197 t198 _ (Hand.Good.below true false hGG.out (by repeat (first | (with_reducible first | exact HB.out | apply below_alloc | apply pw_below_drewN | apply below_drew1) | exact HB.out)) rfl rfl) A1.out).mono ?_); rintro e w6 ⟨rfl, hb⟩; refine ⟨_, rfl, ?_⟩; have n0_ := Aside0.mk (below_step (by repeat (first | (with_reducible first | exact HB.out | apply below_alloc | apply pw_below_drewN | apply below_drew1) | exact HB.out)) hb); clear HB; have HB := n0_; clear n0_; (try clear hb); (try clear hb2); (try clear hk); (try clear hi)) | ((with_reducible refine gate_dst (N := 1) rfl ?_); refine box_event ?hg (N := 1) ?hd (cs := #[.int .u32 0, .int .i64 0, .int .u32 0, .int .i64 0, .int .i64 0, .int .u16 0, .int .u16 0, .int .u16 0, .int .u16 0]) (t := 77) ?hr ?_; (case hd => rfl); (case hg => rfl); (case hr => first | (go_simp; done) | (go_simp; rfl)); intro gb199 hg w7 hbox hb; have n0_ := Aside0.mk (below_step (by repeat (first | (with_reducible first | exact HB.out | apply below_alloc | apply pw_below_drewN | apply below_drew1) | exact HB.out)) hb); have n1_ := Aside0.mk (hbox); have n2_ := Aside0.mk ((by rw [hg]; exact (below_size (by repeat (first | (with_reducible first | exact HB.out | apply below_alloc | apply pw_below_drewN | apply below_drew1) | exact HB.out))) : w.heap.size ≤ gb199)); have n3_ := Aside0.mk ((by rw [hg]; exact (below_size (by repeat (first | (with_reducible first | exact HB.out | apply below_alloc | apply pw_below_drewN | apply below_drew1) | exact HB.out))) : w.heap.size ≤ gb199)); clear HB; have HB := n0_; have BK199 := n1_; have GW199 := n2_; have GE199 := n3_; clear n0_ n1_ n2_ n3_; clear hb hbox hg; have hcz8_0 : w7.cell? ⟨gb199, 0, none⟩ = some (.int .u32 0) := (blk_cell BK199.out 0).trans rfl; have hcz8_1 : w7.cell? ⟨gb199, 1, none⟩ = some (.int .i64 0) := (blk_cell BK199.out 1).trans rfl; have hcz8_2 : w7.cell? ⟨gb199, 2, none⟩ = some (.int .u32 0) := (blk_cell BK199.out 2).trans rfl; have hcz8_3 : w7.cell? ⟨gb199, 3, none⟩ = some (.int .i64 0) := (blk_cell BK199.out 3).trans rfl; have hcz8_4 : w7.cell? ⟨gb199, 4, none⟩ = some (.int .i64 0) := (blk_cell BK199.out 4).trans rfl; have hcz8_5 : w7.cell? ⟨gb199, 5, none⟩ = some (.int .u16 0) := (blk_cell BK199.out 5).trans rfl; have hcz8_6 : w7.cell? ⟨gb199, 6, none⟩ = some (.int .u16 0) := (blk_cell BK199.out 6).trans rfl; have hcz8_7 : w7.cell? ⟨gb199, 7, none⟩ = some (.int .u16 0) := (blk_cell BK199.out 7).trans rfl; have hcz8_8 : w7.cell? ⟨gb199, 8, none⟩ = some (.int .u16 0) := (blk_cell BK199.out 8).trans rfl; have hfz8_0 := blk_frozen BK199.out 0; have hfz8_1 := blk_frozen BK199.out 1; have hfz8_2 := blk_frozen BK199.out 2; have hfz8_3 := blk_frozen BK199.out 3; have hfz8_4 := blk_frozen BK199.out 4; have hfz8_5 := blk_frozen BK199.out 5; have hfz8_6 := blk_frozen BK199.out 6; have hfz8_7 := blk_frozen BK199.out 7; have hfz8_8 := blk_frozen BK199.out 8) | (go_at_call 44; (with_reducible refine (filter_Match.calls t189 t190 t191 t192 t193 t194 t195 t196 t197 167772161 0 0 0 80 true _ A3.out).mono ?_); rintro e w9 ⟨rfl, hb⟩; have n0_ := Aside0.mk (blk_below (g := gb199) (o := .cells #[.int .u32 t189, .int .i64 t190, .int .u32 t191, .int .i64 t192, .int .i64 t193, .int .u16 t194, .int .u16 t195, .int .u16 t196, .int .u16 t197] 77 (0, 0)) (by (with_reducible repeat (first | refine blk_drewN ?_ _ | refine blk_drew ?_ | refine blk_alloc ?_ _)); refine blk_put (cs := #[.int .u32 t189, .int .i64 t190, .int .u32 t191, .int .i64 t192, .int .i64 t193, .int .u16 t194, .int .u16 t195, .int .u16 t196, .int .u16 0]) ?_ 8 _ rfl; (with_reducible repeat (first | refine blk_drewN ?_ _ | refine blk_drew ?_ | refine blk_alloc ?_ _)); refine blk_put (cs := #[.int .u32 t189, .int .i64 t190, .int .u32 t191, .int .i64 t192, .int .i64 t193, .int .u16 t194, .int .u16 t195, .int .u16 0, .int .u16 0]) ?_ 7 _ rfl; (with_reducible repeat (first | refine blk_drewN ?_ _ | refine blk_drew ?_ | refine blk_alloc ?_ _)); refine blk_put (cs := #[.int .u32 t189, .int .i64 t190, .int .u32 t191, .int .i64 t192, .int .i64 t193, .int .u16 t194, .int .u16 0, .int .u16 0, .int .u16 0]) ?_ 6 _ rfl; (with_reducible repeat (first | refine blk_drewN ?_ _ | refine blk_drew ?_ | refine blk_alloc ?_ _)); refine blk_put (cs := #[.int .u32 t189, .int .i64 t190, .int .u32 t191, .int .i64 t192, .int .i64 t193, .int .u16 0, .int .u16 0, .int .u16 0, .int .u16 0]) ?_ 5 _ rfl; (with_reducible repeat (first | refine blk_drewN ?_ _ | refine blk_drew ?_ | refine blk_alloc ?_ _)); refine blk_put (cs := #[.int .u32 t189, .int .i64 t190, .int .u32 t191, .int .i64 t192, .int .i64 0, .int .u16 0, .int .u16 0, .int .u16 0, .int .u16 0]) ?_ 4 _ rfl; (with_reducible repeat (first | refine blk_drewN ?_ _ | refine blk_drew ?_ | refine blk_alloc ?_ _)); refine blk_put (cs := #[.int .u32 t189, .int .i64 t190, .int .u32 t191, .int .i64 0, .int .i64 0, .int .u16 0, .int .u16 0, .int .u16 0, .int .u16 0]) ?_ 3 _ rfl; (with_reducible repeat (first | refine blk_drewN ?_ _ | refine blk_drew ?_ | refine blk_alloc ?_ _)); refine blk_put (cs := #[.int .u32 t189, .int .i64 t190, .int .u32 0, .int .i64 0, .int .i64 0, .int .u16 0, .int .u16 0, .int .u16 0, .int .u16 0]) ?_ 2 _ rfl; (with_reducible repeat (first | refine blk_drewN ?_ _ | refine blk_drew ?_ | refine blk_alloc ?_ _)); refine blk_put (cs := #[.int .u32 t189, .int .i64 0, .int .u32 0, .int .i64 0, .int .i64 0, .int .u16 0, .int .u16 0, .int .u16 0, .int .u16 0]) ?_ 1 _ rfl; (with_reducible repeat (first | refine blk_drewN ?_ _ | refine blk_drew ?_ | refine blk_alloc ?_ _)); refine blk_put (cs := #[.int .u32 0, .int .i64 0, .int .u32 0, .int .i64 0, .int .i64 0, .int .u16 0, .int .u16 0, .int .u16 0, .int .u16 0]) ?_ 0 _ rfl; (with_reducible repeat (first | refine blk_drewN ?_ _ | refine blk_drew ?_ | refine blk_alloc ?_ _)); exact BK199.out) hb); have n1_ := Aside0.mk (below_step (by repeat (first | (with_reducible first | exact HB.out | apply below_alloc | apply pw_below_drewN | apply below_drew1 | refine below_set ?_ GE199.out) | exact HB.out)) hb); clear BK199; clear HB; have BK199 := n0_; have HB := n1_; clear n0_ n1_; (try clear hb); (try clear hb2); (try clear hk); (try clear hi); have hcz10_0 : w9.cell? ⟨gb199, 0, none⟩ = some (.int .u32 t189) := (blk_cell BK199.out 0).trans rfl; have hcz10_1 : w9.cell? ⟨gb199, 1, none⟩ = some (.int .i64 t190) := (blk_cell BK199.out 1).trans rfl; have hcz10_2 : w9.cell? ⟨gb199, 2, none⟩ = some (.int .u32 t191) := (blk_cell BK199.out 2).trans rfl; have hcz10_3 : w9.cell? ⟨gb199, 3, none⟩ = some (.int .i64 t192) := (blk_cell BK199.out 3).trans rfl; have hcz10_4 : w9.cell? ⟨gb199, 4, none⟩ = some (.int .i64 t193) := (blk_cell BK199.out 4).trans rfl; have hcz10_5 : w9.cell? ⟨gb199, 5, none⟩ = some (.int .u16 t194) := (blk_cell BK199.out 5).trans rfl; have hcz10_6 : w9.cell? ⟨gb199, 6, none⟩ = some (.int .u16 t195) := (blk_cell BK199.out 6).trans rfl; have hcz10_7 : w9.cell? ⟨gb199, 7, none⟩ = some (.int .u16 t196) := (blk_cell BK199.out 7).trans rfl; have hcz10_8 : w9.cell? ⟨gb199, 8, none⟩ = some (.int .u16 t197) := (blk_cell BK199.out 8).trans rfl; have hfz10_0 := blk_frozen BK199.out 0; have hfz10_1 := blk_frozen BK199.out 1; have hfz10_2 := blk_frozen BK199.out 2; have hfz10_3 := blk_frozen BK199.out 3; have hfz10_4 := blk_frozen BK199.out 4; have hfz10_5 := blk_frozen BK199.out 5; have hfz10_6 := blk_frozen BK199.out 6; have hfz10_7 := blk_frozen BK199.out 7; have hfz10_8 := blk_frozen BK199.out 8) | (go_at_call 44; (with_reducible refine (filter_Match.calls t189 t190 t191 t192 t193 t194 t195 t196 t197 184549377 0 0 0 80 t201 _ A5.out).mono ?_); rintro e w11 ⟨rfl, hb⟩; have n0_ := Aside0.mk (blk_below (g := gb199) (o := .cells #[.int .u32 t189, .int .i64 t190, .int .u32 t191, .int .i64 t192, .int .i64 t193, .int .u16 t194, .int .u16 t195, .int .u16 t196, .int .u16 t197] 77 (0, 0)) (by (with_reducible repeat (first | refine blk_drewN ?_ _ | refine blk_drew ?_ | refine blk_alloc ?_ _)); exact BK199.out) hb); have n1_ := Aside0.mk (below_step (by repeat (first | (with_reducible first | exact HB.out | apply below_alloc | apply pw_below_drewN | apply below_drew1 | refine below_set ?_ GE199.out) | exact HB.out)) hb); clear BK199; clear HB; have BK199 := n0_; have HB := n1_; clear n0_ n1_; (try clear hb); (try clear hb2); (try clear hk); (try clear hi)))
   go_ret
   exact ⟨by first | rfl | (simp [errW_none, errW_some] <;> rfl) | (simp [*, errW_none, errW_some] <;> rfl), by repeat (first | (with_reducible first | exact HB.out | apply below_alloc | apply pw_below_drewN | apply below_drew1 | refine below_set ?_ GE199.out) | exact HB.out)⟩
  ·replace c4 := Bool.eq_false_iff.mpr c4
   subst c4
   have H1 : (some false) = some r := by rw [if_neg (show ¬ (false = true) by decide)] at H; exact H
   clear H
   have H := H1
   clear H1
   obtain rfl := Option.some.inj H
   go_enter Tryd.func46, Tryd.ntmps46
   go_wp2_with (first | ((with_reducible refine gate_callee (f := 64) rfl ?_); refine goesL_ (some 4) rfl rfl Tryd.func64 (by kernel_rfl) rfl #[.string (⟨#[49, 48, 46, 48, 46, 48, 46, 48, 47, 56, 32, 48, 46, 48, 46, 48, 46, 48, 47, 48, 32, 97, 110, 121, 32, 48, 45, 54, 53, 53, 51, 53, 32, 56, 48, 45, 56, 48]⟩ : ByteArray)] rfl (by (try simp only [List.map_toArray, List.map_cons, List.map_nil]); first | done | rfl | (simp only [List.length_drop, List.length_take]; rfl)) ?_; (with_reducible refine (filter_Parse.calls k (⟨#[49, 48, 46, 48, 46, 48, 46, 48, 47, 56, 32, 48, 46, 48, 46, 48, 46, 48, 47, 48, 32, 97, 110, 121, 32, 48, 45, 54, 53, 53, 51, 53, 32, 56, 48, 45, 56, 48]⟩ : ByteArray) t189 t190 t191 t192 t193 t194 t195 t196 t197 t198 _ (Hand.Good.below true false hGG.out (by repeat (first | (with_reducible first | exact HB.out | apply below_alloc | apply pw_below_drewN | apply below_drew1) | exact HB.out)) rfl rfl) A1.out).mono ?_); rintro e w12 ⟨rfl, hb⟩; refine ⟨_, rfl, ?_⟩; have n0_ := Aside0.mk (below_step (by repeat (first | (with_reducible first | exact HB.out | apply below_alloc | apply pw_below_drewN | apply below_drew1) | exact HB.out)) hb); clear HB; have HB := n0_; clear n0_; (try clear hb); (try clear hb2); (try clear hk); (try clear hi)) | ((with_reducible refine gate_dst (N := 1) rfl ?_); refine box_event ?hg (N := 1) ?hd (cs := #[.int .u32 0, .int .i64 0, .int .u32 0, .int .i64 0, .int .i64 0, .int .u16 0, .int .u16 0, .int .u16 0, .int .u16 0]) (t := 77) ?hr ?_; (case hd => rfl); (case hg => rfl); (case hr => first | (go_simp; done) | (go_simp; rfl)); intro gb199 hg w13 hbox hb; have n0_ := Aside0.mk (below_step (by repeat (first | (with_reducible first | exact HB.out | apply below_alloc | apply pw_below_drewN | apply below_drew1) | exact HB.out)) hb); have n1_ := Aside0.mk (hbox); have n2_ := Aside0.mk ((by rw [hg]; exact (below_size (by repeat (first | (with_reducible first | exact HB.out | apply below_alloc | apply pw_below_drewN | apply below_drew1) | exact HB.out))) : w.heap.size ≤ gb199)); have n3_ := Aside0.mk ((by rw [hg]; exact (below_size (by repeat (first | (with_reducible first | exact HB.out | apply below_alloc | apply pw_below_drewN | apply below_drew1) | exact HB.out))) : w.heap.size ≤ gb199)); clear HB; have HB := n0_; have BK199 := n1_; have GW199 := n2_; have GE199 := n3_; clear n0_ n1_ n2_ n3_; clear hb hbox hg; have hcz14_0 : w13.cell? ⟨gb199, 0, none⟩ = some (.int .u32 0) := (blk_cell BK199.out 0).trans rfl; have hcz14_1 : w13.cell? ⟨gb199, 1, none⟩ = some (.int .i64 0) := (blk_cell BK199.out 1).trans rfl; have hcz14_2 : w13.cell? ⟨gb199, 2, none⟩ = some (.int .u32 0) := (blk_cell BK199.out 2).trans rfl; have hcz14_3 : w13.cell? ⟨gb199, 3, none⟩ = some (.int .i64 0) := (blk_cell BK199.out 3).trans rfl; have hcz14_4 : w13.cell? ⟨gb199, 4, none⟩ = some (.int .i64 0) := (blk_cell BK199.out 4).trans rfl; have hcz14_5 : w13.cell? ⟨gb199, 5, none⟩ = some (.int .u16 0) := (blk_cell BK199.out 5).trans rfl; have hcz14_6 : w13.cell? ⟨gb199, 6, none⟩ = some (.int .u16 0) := (blk_cell BK199.out 6).trans rfl; have hcz14_7 : w13.cell? ⟨gb199, 7, none⟩ = some (.int .u16 0) := (blk_cell BK199.out 7).trans rfl; have hcz14_8 : w13.cell? ⟨gb199, 8, none⟩ = some (.int .u16 0) := (blk_cell BK199.out 8).trans rfl; have hfz14_0 := blk_frozen BK199.out 0; have hfz14_1 := blk_frozen BK199.out 1; have hfz14_2 := blk_frozen BK199.out 2; have hfz14_3 := blk_frozen BK199.out 3; have hfz14_4 := blk_frozen BK199.out 4; have hfz14_5 := blk_frozen BK199.out 5; have hfz14_6 := blk_frozen BK199.out 6; have hfz14_7 := blk_frozen BK199.out 7; have hfz14_8 := blk_frozen BK199.out 8) | (go_at_call 44; (with_reducible refine (filter_Match.calls t189 t190 t191 t192 t193 t194 t195 t196 t197 167772161 0 0 0 80 false _ A3.out).mono ?_); rintro e w15 ⟨rfl, hb⟩; have n0_ := Aside0.mk (blk_below (g := gb199) (o := .cells #[.int .u32 t189, .int .i64 t190, .int .u32 t191, .int .i64 t192, .int .i64 t193, .int .u16 t194, .int .u16 t195, .int .u16 t196, .int .u16 t197] 77 (0, 0)) (by (with_reducible repeat (first | refine blk_drewN ?_ _ | refine blk_drew ?_ | refine blk_alloc ?_ _)); refine blk_put (cs := #[.int .u32 t189, .int .i64 t190, .int .u32 t191, .int .i64 t192, .int .i64 t193, .int .u16 t194, .int .u16 t195, .int .u16 t196, .int .u16 0]) ?_ 8 _ rfl; (with_reducible repeat (first | refine blk_drewN ?_ _ | refine blk_drew ?_ | refine blk_alloc ?_ _)); refine blk_put (cs := #[.int .u32 t189, .int .i64 t190, .int .u32 t191, .int .i64 t192, .int .i64 t193, .int .u16 t194, .int .u16 t195, .int .u16 0, .int .u16 0]) ?_ 7 _ rfl; (with_reducible repeat (first | refine blk_drewN ?_ _ | refine blk_drew ?_ | refine blk_alloc ?_ _)); refine blk_put (cs := #[.int .u32 t189, .int .i64 t190, .int .u32 t191, .int .i64 t192, .int .i64 t193, .int .u16 t194, .int .u16 0, .int .u16 0, .int .u16 0]) ?_ 6 _ rfl; (with_reducible repeat (first | refine blk_drewN ?_ _ | refine blk_drew ?_ | refine blk_alloc ?_ _)); refine blk_put (cs := #[.int .u32 t189, .int .i64 t190, .int .u32 t191, .int .i64 t192, .int .i64 t193, .int .u16 0, .int .u16 0, .int .u16 0, .int .u16 0]) ?_ 5 _ rfl; (with_reducible repeat (first | refine blk_drewN ?_ _ | refine blk_drew ?_ | refine blk_alloc ?_ _)); refine blk_put (cs := #[.int .u32 t189, .int .i64 t190, .int .u32 t191, .int .i64 t192, .int .i64 0, .int .u16 0, .int .u16 0, .int .u16 0, .int .u16 0]) ?_ 4 _ rfl; (with_reducible repeat (first | refine blk_drewN ?_ _ | refine blk_drew ?_ | refine blk_alloc ?_ _)); refine blk_put (cs := #[.int .u32 t189, .int .i64 t190, .int .u32 t191, .int .i64 0, .int .i64 0, .int .u16 0, .int .u16 0, .int .u16 0, .int .u16 0]) ?_ 3 _ rfl; (with_reducible repeat (first | refine blk_drewN ?_ _ | refine blk_drew ?_ | refine blk_alloc ?_ _)); refine blk_put (cs := #[.int .u32 t189, .int .i64 t190, .int .u32 0, .int .i64 0, .int .i64 0, .int .u16 0, .int .u16 0, .int .u16 0, .int .u16 0]) ?_ 2 _ rfl; (with_reducible repeat (first | refine blk_drewN ?_ _ | refine blk_drew ?_ | refine blk_alloc ?_ _)); refine blk_put (cs := #[.int .u32 t189, .int .i64 0, .int .u32 0, .int .i64 0, .int .i64 0, .int .u16 0, .int .u16 0, .int .u16 0, .int .u16 0]) ?_ 1 _ rfl; (with_reducible repeat (first | refine blk_drewN ?_ _ | refine blk_drew ?_ | refine blk_alloc ?_ _)); refine blk_put (cs := #[.int .u32 0, .int .i64 0, .int .u32 0, .int .i64 0, .int .i64 0, .int .u16 0, .int .u16 0, .int .u16 0, .int .u16 0]) ?_ 0 _ rfl; (with_reducible repeat (first | refine blk_drewN ?_ _ | refine blk_drew ?_ | refine blk_alloc ?_ _)); exact BK199.out) hb); have n1_ := Aside0.mk (below_step (by repeat (first | (with_reducible first | exact HB.out | apply below_alloc | apply pw_below_drewN | apply below_drew1 | refine below_set ?_ GE199.out) | exact HB.out)) hb); clear BK199; clear HB; have BK199 := n0_; have HB := n1_; clear n0_ n1_; (try clear hb); (try clear hb2); (try clear hk); (try clear hi)))
   go_ret
   exact ⟨by first | rfl | (simp [errW_none, errW_some] <;> rfl) | (simp [*, errW_none, errW_some] <;> rfl), by repeat (first | (with_reducible first | exact HB.out | apply below_alloc | apply pw_below_drewN | apply below_drew1 | refine below_set ?_ GE199.out) | exact HB.out)⟩
 ·rw [if_neg c2] at H
  have c2b0 : (t198 == 0) = false := beq_eq_false_iff_ne.mpr c2
  have c2b1 : (t198 != 0) = true := bne_iff_ne.mpr c2
  obtain rfl := Option.some.inj H
  go_enter Tryd.func46, Tryd.ntmps46
  go_wp2_with (first | ((with_reducible refine gate_callee (f := 64) rfl ?_); refine goesL_ (some 4) rfl rfl Tryd.func64 (by kernel_rfl) rfl #[.string (⟨#[49, 48, 46, 48, 46, 48, 46, 48, 47, 56, 32, 48, 46, 48, 46, 48, 46, 48, 47, 48, 32, 97, 110, 121, 32, 48, 45, 54, 53, 53, 51, 53, 32, 56, 48, 45, 56, 48]⟩ : ByteArray)] rfl (by (try simp only [List.map_toArray, List.map_cons, List.map_nil]); first | done | rfl | (simp only [List.length_drop, List.length_take]; rfl)) ?_; (with_reducible refine (filter_Parse.calls k (⟨#[49, 48, 46, 48, 46, 48, 46, 48, 47, 56, 32, 48, 46, 48, 46, 48, 46, 48, 47, 48, 32, 97, 110, 121, 32, 48, 45, 54, 53, 53, 51, 53, 32, 56, 48, 45, 56, 48]⟩ : ByteArray) t189 t190 t191 t192 t193 t194 t195 t196 t197 t198 _ (Hand.Good.below true false hGG.out (by repeat (first | (with_reducible first | exact HB.out | apply below_alloc | apply pw_below_drewN | apply below_drew1) | exact HB.out)) rfl rfl) A1.out).mono ?_); rintro e w16 ⟨rfl, hb⟩; refine ⟨_, rfl, ?_⟩; have n0_ := Aside0.mk (below_step (by repeat (first | (with_reducible first | exact HB.out | apply below_alloc | apply pw_below_drewN | apply below_drew1) | exact HB.out)) hb); clear HB; have HB := n0_; clear n0_; (try clear hb); (try clear hb2); (try clear hk); (try clear hi)) | ((with_reducible refine gate_dst (N := 1) rfl ?_); refine box_event ?hg (N := 1) ?hd (cs := #[.int .u32 0, .int .i64 0, .int .u32 0, .int .i64 0, .int .i64 0, .int .u16 0, .int .u16 0, .int .u16 0, .int .u16 0]) (t := 77) ?hr ?_; (case hd => rfl); (case hg => rfl); (case hr => first | (go_simp; done) | (go_simp; rfl)); intro gb199 hg w17 hbox hb; have n0_ := Aside0.mk (below_step (by repeat (first | (with_reducible first | exact HB.out | apply below_alloc | apply pw_below_drewN | apply below_drew1) | exact HB.out)) hb); have n1_ := Aside0.mk (hbox); have n2_ := Aside0.mk ((by rw [hg]; exact (below_size (by repeat (first | (with_reducible first | exact HB.out | apply below_alloc | apply pw_below_drewN | apply below_drew1) | exact HB.out))) : w.heap.size ≤ gb199)); have n3_ := Aside0.mk ((by rw [hg]; exact (below_size (by repeat (first | (with_reducible first | exact HB.out | apply below_alloc | apply pw_below_drewN | apply below_drew1) | exact HB.out))) : w.heap.size ≤ gb199)); clear HB; have HB := n0_; have BK199 := n1_; have GW199 := n2_; have GE199 := n3_; clear n0_ n1_ n2_ n3_; clear hb hbox hg; have hcz18_0 : w17.cell? ⟨gb199, 0, none⟩ = some (.int .u32 0) := (blk_cell BK199.out 0).trans rfl; have hcz18_1 : w17.cell? ⟨gb199, 1, none⟩ = some (.int .i64 0) := (blk_cell BK199.out 1).trans rfl; have hcz18_2 : w17.cell? ⟨gb199, 2, none⟩ = some (.int .u32 0) := (blk_cell BK199.out 2).trans rfl; have hcz18_3 : w17.cell? ⟨gb199, 3, none⟩ = some (.int .i64 0) := (blk_cell BK199.out 3).trans rfl; have hcz18_4 : w17.cell? ⟨gb199, 4, none⟩ = some (.int .i64 0) := (blk_cell BK199.out 4).trans rfl; have hcz18_5 : w17.cell? ⟨gb199, 5, none⟩ = some (.int .u16 0) := (blk_cell BK199.out 5).trans rfl; have hcz18_6 : w17.cell? ⟨gb199, 6, none⟩ = some (.int .u16 0) := (blk_cell BK199.out 6).trans rfl; have hcz18_7 : w17.cell? ⟨gb199, 7, none⟩ = some (.int .u16 0) := (blk_cell BK199.out 7).trans rfl; have hcz18_8 : w17.cell? ⟨gb199, 8, none⟩ = some (.int .u16 0) := (blk_cell BK199.out 8).trans rfl; have hfz18_0 := blk_frozen BK199.out 0; have hfz18_1 := blk_frozen BK199.out 1; have hfz18_2 := blk_frozen BK199.out 2; have hfz18_3 := blk_frozen BK199.out 3; have hfz18_4 := blk_frozen BK199.out 4; have hfz18_5 := blk_frozen BK199.out 5; have hfz18_6 := blk_frozen BK199.out 6; have hfz18_7 := blk_frozen BK199.out 7; have hfz18_8 := blk_frozen BK199.out 8))
  go_ret
  exact ⟨by first | rfl | (simp [errW_none, errW_some] <;> rfl) | (simp [*, errW_none, errW_some] <;> rfl), by repeat (first | (with_reducible first | exact HB.out | apply below_alloc | apply pw_below_drewN | apply below_drew1 | refine below_set ?_ GE199.out) | exact HB.out)⟩

end Go.Proofs.YtloclimoffhbhaaDoor.PFy

namespace Go.Proofs.YtloclimoffhbhaaDoor.PFy
open Go.RowKit Go.Proofs.YtloclimoffhbhaaDoorW.PrintWords Go.Proofs.YtloclimoffhbhaaDoorW.PrintLast Go.Proofs.YtloclimoffhbhaaDoorW.PrintMore
attribute [local go_sem] max2_int min2_int max_two min_two max_three min_three max_four min_four   -- for this text's walks alone
set_option linter.unusedVariables false
set_option linter.unusedSimpArgs false

/-! ### crossbuckref03_Has: function 96 -/
def crossbuckref03_Has.f (k : Nat) (a0_0 : Int) (a0_1 : Int) (a1 : Int) : Option (Bool) := (crossbuckref03_size.f k a0_1).bind fun t203 => (if t203 = 0 then (none) else ((crossbuckref03_size.f k a0_1).bind fun t204 => (if t204 = 0 then (none) else (some ((IntKind.u64.wrap (Int.tdiv (IntKind.u64.wrap (a1)) t203)) == (IntKind.u64.wrap (Int.tdiv (IntKind.u64.wrap (a0_0)) t204)))))))
theorem crossbuckref03_Has.mono : ∀ a0 a1 a2 k, LeO (crossbuckref03_Has.f k a0 a1 a2) (crossbuckref03_Has.f (k + 1) a0 a1 a2) := by
 intro a0 a1 a2 k
 unfold crossbuckref03_Has.f
 repeat' first
   | (with_reducible exact crossbuckref03_size.mono _ _)
   | (with_reducible exact LeO.refl _)
   | (with_reducible exact LeO.none _)
   | (with_reducible refine LeO.ite ?_ ?_)
   | (with_reducible refine LeO.bind ?_ (fun _ => ?_))
   | exact crossbuckref03_size.mono _ _
   | exact LeO.none _
   | refine LeO.ite ?_ ?_
   | refine LeO.bind ?_ (fun _ => ?_)
set_option maxHeartbeats 8000000 in
set_option maxRecDepth 100000 in
theorem crossbuckref03_Has.calls (k : Nat) (a0_0 : Int) (a0_1 : Int) (a1 : Int) (r : Bool) (w : World) (h : crossbuckref03_Has.f k a0_0 a0_1 a1 = some r) :
  Calls Tryd.prog 96 #[.agg #[.int .u32 a0_0, .int .i64 a0_1], .int .u32 a1] w fun e w' => e = .returned (.bool r) ∧ Below w.heap.size w w' := by
 have hu42 := Tryd.underlying42
 have HB := Aside0.mk (Below.refl w.heap.size w)
 have H : ((crossbuckref03_size.f k a0_1).bind fun t203 => (if t203 = 0 then (none) else ((crossbuckref03_size.f k a0_1).bind fun t204 => (if t204 = 0 then (none) else (some ((IntKind.u64.wrap (Int.tdiv (IntKind.u64.wrap (a1)) t203)) == (IntKind.u64.wrap (Int.tdiv (IntKind.u64.wrap (a0_0)) t204)))))))) = some r := h
 clear h
 replace H := Option.bind_eq_some_iff.mp H
 obtain ⟨t203, A30, H⟩ := H
 replace H : (if t203 = 0 then (none) else ((crossbuckref03_size.f k a0_1).bind fun t204 => (if t204 = 0 then (none) else (some ((IntKind.u64.wrap (Int.tdiv (IntKind.u64.wrap (a1)) t203)) == (IntKind.u64.wrap (Int.tdiv (IntKind.u64.wrap (a0_0)) t204))))))) = some r := H
 have A3 := Aside0.mk A30
 clear A30
 by_cases c4 : t203 = 0
 ·rw [if_pos c4] at H
  exact absurd H (by simp)
 ·rw [if_neg c4] at H
  have c4b0 : (t203 == 0) = false := beq_eq_false_iff_ne.mpr c4
  have c4b1 : (t203 != 0) = true := bne_iff_ne.mpr c4
  replace H := Option.bind_eq_some_iff.mp H
  obtain ⟨t204, A50, H⟩ := H
  replace H : (if t204 = 0 then (none) else (some ((IntKind.u64.wrap (Int.tdiv (IntKind.u64.wrap (a1)) t203)) == (IntKind.u64.wrap (Int.tdiv (IntKind.u64.wrap (a0_0)) t204))))) = some r := H
  have A5 := Aside0.mk A50
  clear A50
  by_cases c6 : t204 = 0
  ·rw [if_pos c6] at H
   exact absurd H (by simp)
  ·rw [if_neg c6] at H
   have c6b0 : (t204 == 0) = false := beq_eq_false_iff_ne.mpr c6
   have c6b1 : (t204 != 0) = true := bne_iff_ne.mpr c6
   obtain rfl : t203 = t204 := Option.some.inj (A3.out.symm.trans A5.out)
   obtain rfl := Option.some.inj H
   go_enter Tryd.func96, Tryd.ntmps96
   go_wp2_with (first | ((with_reducible refine gate_dst (N := 2) rfl ?_); refine box_event ?hg (N := 2) ?hd (cs := #[.int .u32 a0_0, .int .i64 a0_1]) (t := 42) ?hr ?_; (case hd => rfl); (case hg => rfl); (case hr => first | (go_simp; done) | (go_simp; rfl)); intro gb202 hg w7 hbox hb; have n0_ := Aside0.mk (below_step (by repeat (first | (with_reducible first | exact HB.out | apply below_alloc | apply pw_below_drewN | apply below_drew1) | exact HB.out)) hb); have n1_ := Aside0.mk (hbox); have n2_ := Aside0.mk ((by rw [hg]; exact (below_size (by repeat (first | (with_reducible first | exact HB.out | apply below_alloc | apply pw_below_drewN | apply below_drew1) | exact HB.out))) : w.heap.size ≤ gb202)); have n3_ := Aside0.mk ((by rw [hg]; exact (below_size (by repeat (first | (with_reducible first | exact HB.out | apply below_alloc | apply pw_below_drewN | apply below_drew1) | exact HB.out))) : w.heap.size ≤ gb202)); clear HB; have HB := n0_; have BK202 := n1_; have GW202 := n2_; have GE202 := n3_; clear n0_ n1_ n2_ n3_; clear hb hbox hg; have hcz8_0 : w7.cell? ⟨gb202, 0, none⟩ = some (.int .u32 a0_0) := (blk_cell BK202.out 0).trans rfl; have hcz8_1 : w7.cell? ⟨gb202, 1, none⟩ = some (.int .i64 a0_1) := (blk_cell BK202.out 1).trans rfl; have hfz8_0 := blk_frozen BK202.out 0; have hfz8_1 := blk_frozen BK202.out 1) | (go_at_call 101; (with_reducible refine (crossbuckref03_size.calls k a0_1 t203 _ A3.out).mono ?_); rintro e w' ⟨rfl, ⟨nd, rfl⟩⟩; (try first | exact ⟨rfl, _, World.drewN_drewN _ _ _⟩ | exact ⟨rfl, _, Eq.trans (World.drewN_drewN _ _ _) (congrArg (World.drewN _) (Nat.add_assoc _ _ _))⟩)) | (go_at_call 101; (with_reducible refine (crossbuckref03_size.calls k a0_1 t204 _ A5.out).mono ?_); rintro e w' ⟨rfl, ⟨nd, rfl⟩⟩; (try first | exact ⟨rfl, _, World.drewN_drewN _ _ _⟩ | exact ⟨rfl, _, Eq.trans (World.drewN_drewN _ _ _) (congrArg (World.drewN _) (Nat.add_assoc _ _ _))⟩)))
   repeat (go_quiet (first | ((with_reducible refine gate_dst (N := 2) rfl ?_); refine box_event ?hg (N := 2) ?hd (cs := #[.int .u32 a0_0, .int .i64 a0_1]) (t := 42) ?hr ?_; (case hd => rfl); (case hg => rfl); (case hr => first | (go_simp; done) | (go_simp; rfl)); intro gb202 hg w7 hbox hb; have n0_ := Aside0.mk (below_step (by repeat (first | (with_reducible first | exact HB.out | apply below_alloc | apply pw_below_drewN | apply below_drew1) | exact HB.out)) hb); have n1_ := Aside0.mk (hbox); have n2_ := Aside0.mk ((by rw [hg]; exact (below_size (by repeat (first | (with_reducible first | exact HB.out | apply below_alloc | apply pw_below_drewN | apply below_drew1) | exact HB.out))) : w.heap.size ≤ gb202)); have n3_ := Aside0.mk ((by rw [hg]; exact (below_size (by repeat (first | (with_reducible first | exact HB.out | apply below_alloc | apply pw_below_drewN | apply below_drew1) | exact HB.out))) : w.heap.size ≤ gb202)); clear HB; have HB := n0_; have BK202 := n1_; have GW202 := n2_; have GE202 := n3_; clear n0_ n1_ n2_ n3_; clear hb hbox hg; have hcz8_0 : w7.cell? ⟨gb202, 0, none⟩ = some (.int .u32 a0_0) := (blk_cell BK202.out 0).trans rfl; have hcz8_1 : w7.cell? ⟨gb202, 1, none⟩ = some (.int .i64 a0_1) := (blk_cell BK202.out 1).trans rfl; have hfz8_0 := blk_frozen BK202.out 0; have hfz8_1 := blk_frozen BK202.out 1) | (go_at_call 101; (with_reducible refine (crossbuckref03_size.calls k a0_1 t203 _ A3.out).mono ?_); rintro e w' ⟨rfl, ⟨nd, rfl⟩⟩; (try first | exact ⟨rfl, _, World.drewN_drewN _ _ _⟩ | exact ⟨rfl, _, Eq.trans (World.drewN_drewN _ _ _) (congrArg (World.drewN _) (Nat.add_assoc _ _ _))⟩)) | (go_at_call 101; (with_reducible refine (crossbuckref03_size.calls k a0_1 t204 _ A5.out).mono ?_); rintro e w' ⟨rfl, ⟨nd, rfl⟩⟩; (try first | exact ⟨rfl, _, World.drewN_drewN _ _ _⟩ | exact ⟨rfl, _, Eq.trans (World.drewN_drewN _ _ _) (congrArg (World.drewN _) (Nat.add_assoc _ _ _))⟩))); try go_wp2_with (first | ((with_reducible refine gate_dst (N := 2) rfl ?_); refine box_event ?hg (N := 2) ?hd (cs := #[.int .u32 a0_0, .int .i64 a0_1]) (t := 42) ?hr ?_; (case hd => rfl); (case hg => rfl); (case hr => first | (go_simp; done) | (go_simp; rfl)); intro gb202 hg w7 hbox hb; have n0_ := Aside0.mk (below_step (by repeat (first | (with_reducible first | exact HB.out | apply below_alloc | apply pw_below_drewN | apply below_drew1) | exact HB.out)) hb); have n1_ := Aside0.mk (hbox); have n2_ := Aside0.mk ((by rw [hg]; exact (below_size (by repeat (first | (with_reducible first | exact HB.out | apply below_alloc | apply pw_below_drewN | apply below_drew1) | exact HB.out))) : w.heap.size ≤ gb202)); have n3_ := Aside0.mk ((by rw [hg]; exact (below_size (by repeat (first | (with_reducible first | exact HB.out | apply below_alloc | apply pw_below_drewN | apply below_drew1) | exact HB.out))) : w.heap.size ≤ gb202)); clear HB; have HB := n0_; have BK202 := n1_; have GW202 := n2_; have GE202 := n3_; clear n0_ n1_ n2_ n3_; clear hb hbox hg; have hcz8_0 : w7.cell? ⟨gb202, 0, none⟩ = some (.int .u32 a0_0) := (blk_cell BK202.out 0).trans rfl; have hcz8_1 : w7.cell? ⟨gb202, 1, none⟩ = some (.int .i64 a0_1) := (blk_cell BK202.out 1).trans rfl; have hfz8_0 := blk_frozen BK202.out 0; have hfz8_1 := blk_frozen BK202.out 1) | (go_at_call 101; (with_reducible refine (crossbuckref03_size.calls k a0_1 t203 _ A3.out).mono ?_); rintro e w' ⟨rfl, ⟨nd, rfl⟩⟩; (try first | exact ⟨rfl, _, World.drewN_drewN _ _ _⟩ | exact ⟨rfl, _, Eq.trans (World.drewN_drewN _ _ _) (congrArg (World.drewN _) (Nat.add_assoc _ _ _))⟩)) | (go_at_call 101; (with_reducible refine (crossbuckref03_size.calls k a0_1 t204 _ A5.out).mono ?_); rintro e w' ⟨rfl, ⟨nd, rfl⟩⟩; (try first | exact ⟨rfl, _, World.drewN_drewN _ _ _⟩ | exact ⟨rfl, _, Eq.trans (World.drewN_drewN _ _ _) (congrArg (World.drewN _) (Nat.add_assoc _ _ _))⟩))))
   go_ret
   exact ⟨by first | rfl | (simp [errW_none, errW_some] <;> rfl) | (simp [*, errW_none, errW_some] <;> rfl), by repeat (first | (with_reducible first | exact HB.out | apply below_alloc | apply pw_below_drewN | apply below_drew1 | refine below_set ?_ GE202.out) | exact HB.out)⟩

end Go.Proofs.YtloclimoffhbhaaDoor.PFy

namespace Go.Proofs.YtloclimoffhbhaaDoor.PFy
open Go.RowKit Go.Proofs.YtloclimoffhbhaaDoorW.PrintWords Go.Proofs.YtloclimoffhbhaaDoorW.PrintLast Go.Proofs.YtloclimoffhbhaaDoorW.PrintMore
attribute [local go_sem] max2_int min2_int max_two min_two max_three min_three max_four min_four   -- for this text's walks alone
set_option linter.unusedVariables false
set_option linter.unusedSimpArgs false

/-! ### crossbuckref04_Match: function 47 -/
mutual
def crossbuckref04_Match.j0 : Nat → Bool → Int → Int → Int → Int → Int → Int → Int → Int → Int → Int → Int → Int → Int → Int → Option (Bool)
 | 0, _, _, _, _, _, _, _, _, _, _, _, _, _, _, _ => none
 | k + 1, x15, x206000, x206001, x206002, x206003, x206004, x206005, x206006, x206007, x206008, x207000, x207001, x207002, x207003, x207004 => if x15 = true then (some false) else (if x207003 < x206005 then (crossbuckref04_Match.j1 k true x206000 x206001 x206002 x206003 x206004 x206005 x206006 x206007 x206008 x207000 x207001 x207002 x207003 x207004) else (if x207003 > x206006 then (crossbuckref04_Match.j1 k true x206000 x206001 x206002 x206003 x206004 x206005 x206006 x206007 x206008 x207000 x207001 x207002 x207003 x207004) else (if x207004 < x206007 then (crossbuckref04_Match.j1 k true x206000 x206001 x206002 x206003 x206004 x206005 x206006 x206007 x206008 x207000 x207001 x207002 x207003 x207004) else (crossbuckref04_Match.j1 k (decide (x207004 > x206008)) x206000 x206001 x206002 x206003 x206004 x206005 x206006 x206007 x206008 x207000 x207001 x207002 x207003 x207004))))
def crossbuckref04_Match.j1 : Nat → Bool → Int → Int → Int → Int → Int → Int → Int → Int → Int → Int → Int → Int → Int → Int → Option (Bool)
 | 0, _, _, _, _, _, _, _, _, _, _, _, _, _, _, _ => none
 | k + 1, x45, x206000, x206001, x206002, x206003, x206004, x206005, x206006, x206007, x206008, x207000, x207001, x207002, x207003, x207004 => if x45 = true then (some false) else ((crossbuckref03_Has.f k x206000 x206001 x207000).bind fun t207 => (if t207 = true then ((crossbuckref03_Has.f k x206002 x206003 x207001).bind fun t208 => (some t208)) else (some false)))
end
def crossbuckref04_Match.f (k : Nat) (a0_0 : Int) (a0_1 : Int) (a0_2 : Int) (a0_3 : Int) (a0_4 : Int) (a0_5 : Int) (a0_6 : Int) (a0_7 : Int) (a0_8 : Int) (a1_0 : Int) (a1_1 : Int) (a1_2 : Int) (a1_3 : Int) (a1_4 : Int) : Option (Bool) := if a0_4 = (-1) then (crossbuckref04_Match.j0 k false a0_0 a0_1 a0_2 a0_3 a0_4 a0_5 a0_6 a0_7 a0_8 a1_0 a1_1 a1_2 a1_3 a1_4) else (crossbuckref04_Match.j0 k (a0_4 != (wrap64 (a1_2))) a0_0 a0_1 a0_2 a0_3 a0_4 a0_5 a0_6 a0_7 a0_8 a1_0 a1_1 a1_2 a1_3 a1_4)
theorem crossbuckref04_Match.mono_l : ∀ k, (∀ y0 y1 y2 y3 y4 y5 y6 y7 y8 y9 y10 y11 y12 y13 y14, LeO (crossbuckref04_Match.j0 k y0 y1 y2 y3 y4 y5 y6 y7 y8 y9 y10 y11 y12 y13 y14) (crossbuckref04_Match.j0 (k + 1) y0 y1 y2 y3 y4 y5 y6 y7 y8 y9 y10 y11 y12 y13 y14)) ∧ (∀ y0 y1 y2 y3 y4 y5 y6 y7 y8 y9 y10 y11 y12 y13 y14, LeO (crossbuckref04_Match.j1 k y0 y1 y2 y3 y4 y5 y6 y7 y8 y9 y10 y11 y12 y13 y14) (crossbuckref04_Match.j1 (k + 1) y0 y1 y2 y3 y4 y5 y6 y7 y8 y9 y10 y11 y12 y13 y14))
 | 0 => ⟨fun _ _ _ _ _ _ _ _ _ _ _ _ _ _ _ r h => by simp [crossbuckref04_Match.j0] at h, fun _ _ _ _ _ _ _ _ _ _ _ _ _ _ _ r h => by simp [crossbuckref04_Match.j1] at h⟩
 | k + 1 => by
  obtain ⟨ih0, ih1⟩ := crossbuckref04_Match.mono_l k
  refine ⟨?_, ?_⟩
  ·intro y0 y1 y2 y3 y4 y5 y6 y7 y8 y9 y10 y11 y12 y13 y14
   unfold crossbuckref04_Match.j0
   repeat' first
   | (with_reducible exact ih0 _ _ _ _ _ _ _ _ _ _ _ _ _ _ _)
   | (with_reducible exact ih1 _ _ _ _ _ _ _ _ _ _ _ _ _ _ _)
   | (with_reducible exact crossbuckref03_Has.mono _ _ _ _)
   | (with_reducible exact LeO.refl _)
   | (with_reducible exact LeO.none _)
   | (with_reducible refine LeO.ite ?_ ?_)
   | (with_reducible refine LeO.bind ?_ (fun _ => ?_))
   | exact ih0 _ _ _ _ _ _ _ _ _ _ _ _ _ _ _
   | exact ih1 _ _ _ _ _ _ _ _ _ _ _ _ _ _ _
   | exact crossbuckref03_Has.mono _ _ _ _
   | exact LeO.none _
   | refine LeO.ite ?_ ?_
   | refine LeO.bind ?_ (fun _ => ?_)
  ·intro y0 y1 y2 y3 y4 y5 y6 y7 y8 y9 y10 y11 y12 y13 y14
   unfold crossbuckref04_Match.j1
   repeat' first
   | (with_reducible exact ih0 _ _ _ _ _ _ _ _ _ _ _ _ _ _ _)
   | (with_reducible exact ih1 _ _ _ _ _ _ _ _ _ _ _ _ _ _ _)
   | (with_reducible exact crossbuckref03_Has.mono _ _ _ _)
   | (with_reducible exact LeO.refl _)
   | (with_reducible exact LeO.none _)
   | (with_reducible refine LeO.ite ?_ ?_)
   | (with_reducible refine LeO.bind ?_ (fun _ => ?_))
   | exact ih0 _ _ _ _ _ _ _ _ _ _ _ _ _ _ _
   | exact ih1 _ _ _ _ _ _ _ _ _ _ _ _ _ _ _
   | exact crossbuckref03_Has.mono _ _ _ _
   | exact LeO.none _
   | refine LeO.ite ?_ ?_
   | refine LeO.bind ?_ (fun _ => ?_)
theorem crossbuckref04_Match.mono : ∀ a0 a1 a2 a3 a4 a5 a6 a7 a8 a9 a10 a11 a12 a13 k, LeO (crossbuckref04_Match.f k a0 a1 a2 a3 a4 a5 a6 a7 a8 a9 a10 a11 a12 a13) (crossbuckref04_Match.f (k + 1) a0 a1 a2 a3 a4 a5 a6 a7 a8 a9 a10 a11 a12 a13) := by
 intro a0 a1 a2 a3 a4 a5 a6 a7 a8 a9 a10 a11 a12 a13 k
 obtain ⟨ih0, ih1⟩ := crossbuckref04_Match.mono_l k
 unfold crossbuckref04_Match.f
 repeat' first
   | (with_reducible exact ih0 _ _ _ _ _ _ _ _ _ _ _ _ _ _ _)
   | (with_reducible exact ih1 _ _ _ _ _ _ _ _ _ _ _ _ _ _ _)
   | (with_reducible exact crossbuckref03_Has.mono _ _ _ _)
   | (with_reducible exact LeO.refl _)
   | (with_reducible exact LeO.none _)
   | (with_reducible refine LeO.ite ?_ ?_)
   | (with_reducible refine LeO.bind ?_ (fun _ => ?_))
   | exact ih0 _ _ _ _ _ _ _ _ _ _ _ _ _ _ _
   | exact ih1 _ _ _ _ _ _ _ _ _ _ _ _ _ _ _
   | exact crossbuckref03_Has.mono _ _ _ _
   | exact LeO.none _
   | refine LeO.ite ?_ ?_
   | refine LeO.bind ?_ (fun _ => ?_)
set_option maxHeartbeats 8000000 in
set_option maxRecDepth 100000 in
theorem crossbuckref04_Match.calls (k : Nat) (a0_0 : Int) (a0_1 : Int) (a0_2 : Int) (a0_3 : Int) (a0_4 : Int) (a0_5 : Int) (a0_6 : Int) (a0_7 : Int) (a0_8 : Int) (a1_0 : Int) (a1_1 : Int) (a1_2 : Int) (a1_3 : Int) (a1_4 : Int) (r : Bool) (w : World) (h : crossbuckref04_Match.f k a0_0 a0_1 a0_2 a0_3 a0_4 a0_5 a0_6 a0_7 a0_8 a1_0 a1_1 a1_2 a1_3 a1_4 = some r) :
  Calls Tryd.prog 47 #[.agg #[.int .u32 a0_0, .int .i64 a0_1, .int .u32 a0_2, .int .i64 a0_3, .int .i64 a0_4, .int .u16 a0_5, .int .u16 a0_6, .int .u16 a0_7, .int .u16 a0_8], .agg #[.int .u32 a1_0, .int .u32 a1_1, .int .u8 a1_2, .int .u16 a1_3, .int .u16 a1_4]] w fun e w' => e = .returned (.bool r) ∧ Below w.heap.size w w' := by
 have hu77 := Tryd.underlying77
 have hu67 := Tryd.underlying67
 have hu42 := Tryd.underlying42
 have HB := Aside0.mk (Below.refl w.heap.size w)
 have H : (if a0_4 = (-1) then (crossbuckref04_Match.j0 k false a0_0 a0_1 a0_2 a0_3 a0_4 a0_5 a0_6 a0_7 a0_8 a1_0 a1_1 a1_2 a1_3 a1_4) else (crossbuckref04_Match.j0 k (a0_4 != (wrap64 (a1_2))) a0_0 a0_1 a0_2 a0_3 a0_4 a0_5 a0_6 a0_7 a0_8 a1_0 a1_1 a1_2 a1_3 a1_4)) = some r := h
 clear h
 have HC3 := Aside0.mk H
 clear H
 go_enter Tryd.func47, Tryd.ntmps47
 go_upto_region 1 with (first | ((with_reducible refine gate_dst (N := 2) rfl ?_); refine box_event ?hg (N := 2) ?hd (cs := #[.int .u32 a0_0, .int .i64 a0_1, .int .u32 a0_2, .int .i64 a0_3, .int .i64 a0_4, .int .u16 a0_5, .int .u16 a0_6, .int .u16 a0_7, .int .u16 a0_8]) (t := 77) ?hr ?_; (case hd => rfl); (case hg => rfl); (case hr => first | (go_simp; done) | (go_simp; rfl)); intro gb205 hg w4 hbox hb; have n0_ := Aside0.mk (below_step (by repeat (first | (with_reducible first | exact HB.out | apply below_alloc | apply pw_below_drewN | apply below_drew1) | exact HB.out)) hb); have n1_ := Aside0.mk (hbox); have n2_ := Aside0.mk ((by rw [hg]; exact (below_size (by repeat (first | (with_reducible first | exact HB.out | apply below_alloc | apply pw_below_drewN | apply below_drew1) | exact HB.out))) : w.heap.size ≤ gb205)); have n3_ := Aside0.mk ((by rw [hg]; exact (below_size (by repeat (first | (with_reducible first | exact HB.out | apply below_alloc | apply pw_below_drewN | apply below_drew1) | exact HB.out))) : w.heap.size ≤ gb205)); clear HB; have HB := n0_; have BK205 := n1_; have GW205 := n2_; have GE205 := n3_; clear n0_ n1_ n2_ n3_; clear hb hbox hg) | ((with_reducible refine gate_dst (N := 3) rfl ?_); refine box_event ?hg (N := 3) ?hd (cs := #[.int .u32 a1_0, .int .u32 a1_1, .int .u8 a1_2, .int .u16 a1_3, .int .u16 a1_4]) (t := 67) ?hr ?_; (case hd => rfl); (case hg => rfl); (case hr => first | (go_simp; done) | (go_simp; rfl)); intro gb206 hg w5 hbox hb; have n0_ := Aside0.mk (blk_below (g := gb205) (o := .cells #[.int .u32 a0_0, .int .i64 a0_1, .int .u32 a0_2, .int .i64 a0_3, .int .i64 a0_4, .int .u16 a0_5, .int .u16 a0_6, .int .u16 a0_7, .int .u16 a0_8] 77 (0, 0)) (by (with_reducible repeat (first | refine blk_drewN ?_ _ | refine blk_drew ?_ | refine blk_alloc ?_ _)); exact BK205.out) hb); have n1_ := Aside0.mk (below_step (by repeat (first | (with_reducible first | exact HB.out | apply below_alloc | apply pw_below_drewN | apply below_drew1 | refine below_set ?_ GE205.out) | exact HB.out)) hb); have n2_ := Aside0.mk (hbox); have n3_ := Aside0.mk ((by rw [hg]; exact (below_size (by repeat (first | (with_reducible first | exact HB.out | apply below_alloc | apply pw_below_drewN | apply below_drew1 | refine below_set ?_ GE205.out) | exact HB.out))) : w.heap.size ≤ gb206)); have n4_ := Aside0.mk ((by rw [hg]; exact (below_size (by repeat (first | (with_reducible first | exact HB.out | apply below_alloc | apply pw_below_drewN | apply below_drew1 | refine below_set ?_ GE205.out) | exact HB.out))) : w.heap.size ≤ gb206)); have n5_ := Aside0.mk ((by rw [hg]; exact Nat.ne_of_lt (blk_lt (g := gb205) (o := .cells #[.int .u32 a0_0, .int .i64 a0_1, .int .u32 a0_2, .int .i64 a0_3, .int .i64 a0_4, .int .u16 a0_5, .int .u16 a0_6, .int .u16 a0_7, .int .u16 a0_8] 77 (0, 0)) (by (with_reducible repeat (first | refine blk_drewN ?_ _ | refine blk_drew ?_ | refine blk_alloc ?_ _)); exact BK205.out)) : gb205 ≠ gb206)); have n6_ := Aside0.mk ((by rw [hg]; exact Nat.ne_of_gt (blk_lt (g := gb205) (o := .cells #[.int .u32 a0_0, .int .i64 a0_1, .int .u32 a0_2, .int .i64 a0_3, .int .i64 a0_4, .int .u16 a0_5, .int .u16 a0_6, .int .u16 a0_7, .int .u16 a0_8] 77 (0, 0)) (by (with_reducible repeat (first | refine blk_drewN ?_ _ | refine blk_drew ?_ | refine blk_alloc ?_ _)); exact BK205.out)) : gb206 ≠ gb205)); clear BK205; clear HB; have BK205 := n0_; have HB := n1_; have BK206 := n2_; have GW206 := n3_; have GE206 := n4_; have NB205_206 := n5_; have NB206_205 := n6_; clear n0_ n1_ n2_ n3_ n4_ n5_ n6_; clear hb hbox hg))
 (try simp only [Act.put, List.setIfInBounds_toArray, List.set_cons_zero, List.set_cons_succ])
 go_cut [15] (fun v15 wc => ∃ (kq : Nat) (x15_2 : Bool), v15 = .bool x15_2 ∧ Aside0 (crossbuckref04_Match.j0 kq x15_2 a0_0 a0_1 a0_2 a0_3 a0_4 a0_5 a0_6 a0_7 a0_8 a1_0 a1_1 a1_2 a1_3 a1_4 = some r) ∧ Aside0 (kq ≤ k) ∧ Aside0 (wc.heap[gb205]? = some (.cells #[.int .u32 a0_0, .int .i64 a0_1, .int .u32 a0_2, .int .i64 a0_3, .int .i64 a0_4, .int .u16 a0_5, .int .u16 a0_6, .int .u16 a0_7, .int .u16 a0_8] 77 (0, 0))) ∧ Aside0 (wc.heap[gb206]? = some (.cells #[.int .u32 a1_0, .int .u32 a1_1, .int .u8 a1_2, .int .u16 a1_3, .int .u16 a1_4] 67 (0, 0))) ∧ Aside0 (Below w.heap.size w wc))
 case first =>
  have H := HC3.out
  clear HC3
  by_cases c6 : a0_4 = (-1)
  ·rw [if_pos c6] at H
   have c6b0 : (a0_4 == (-1)) = true := beq_iff_eq.mpr c6
   have c6b1 : (a0_4 != (-1)) = false := bne_eq_false_iff_eq.mpr c6
   clear c6
   (first | rw [c6b0] | (simp only [i64_w, i32_w]; rw [c6b0]) | skip)
   have H' := Aside0.mk H
   clear H
   have hnb7 := NB205_206.out
   have hnc7 := NB206_205.out
   have hcz8_0 : w5.cell? ⟨gb205, 0, none⟩ = some (.int .u32 a0_0) := (blk_cell BK205.out 0).trans rfl
   have hcz8_1 : w5.cell? ⟨gb205, 1, none⟩ = some (.int .i64 a0_1) := (blk_cell BK205.out 1).trans rfl
   have hcz8_2 : w5.cell? ⟨gb205, 2, none⟩ = some (.int .u32 a0_2) := (blk_cell BK205.out 2).trans rfl
   have hcz8_3 : w5.cell? ⟨gb205, 3, none⟩ = some (.int .i64 a0_3) := (blk_cell BK205.out 3).trans rfl
   have hcz8_4 : w5.cell? ⟨gb205, 4, none⟩ = some (.int .i64 a0_4) := (blk_cell BK205.out 4).trans rfl
   have hcz8_5 : w5.cell? ⟨gb205, 5, none⟩ = some (.int .u16 a0_5) := (blk_cell BK205.out 5).trans rfl
   have hcz8_6 : w5.cell? ⟨gb205, 6, none⟩ = some (.int .u16 a0_6) := (blk_cell BK205.out 6).trans rfl
   have hcz8_7 : w5.cell? ⟨gb205, 7, none⟩ = some (.int .u16 a0_7) := (blk_cell BK205.out 7).trans rfl
   have hcz8_8 : w5.cell? ⟨gb205, 8, none⟩ = some (.int .u16 a0_8) := (blk_cell BK205.out 8).trans rfl
   have hfz8_0 := blk_frozen BK205.out 0
   have hfz8_1 := blk_frozen BK205.out 1
   have hfz8_2 := blk_frozen BK205.out 2
   have hfz8_3 := blk_frozen BK205.out 3
   have hfz8_4 := blk_frozen BK205.out 4
   have hfz8_5 := blk_frozen BK205.out 5
   have hfz8_6 := blk_frozen BK205.out 6
   have hfz8_7 := blk_frozen BK205.out 7
   have hfz8_8 := blk_frozen BK205.out 8
   go_wp2
   go_meet
   case rel => exact ⟨_, (false), (by first | rfl | (simp; done) | (simp [*]; done)), H', ⟨by first | omega | exact Nat.le_refl _⟩, ⟨by (with_reducible repeat (first | refine blk_drewN ?_ _ | refine blk_drew ?_ | refine blk_alloc ?_ _)); exact BK205.out⟩, ⟨by (with_reducible repeat (first | refine blk_drewN ?_ _ | refine blk_drew ?_ | refine blk_alloc ?_ _)); exact BK206.out⟩, ⟨by repeat (first | (with_reducible first | exact HB.out | apply below_alloc | apply pw_below_drewN | apply below_drew1 | refine below_set ?_ GE205.out | refine below_set ?_ GE206.out) | exact HB.out)⟩⟩
  ·rw [if_neg c6] at H
   have c6b0 : (a0_4 == (-1)) = false := beq_eq_false_iff_ne.mpr c6
   have c6b1 : (a0_4 != (-1)) = true := bne_iff_ne.mpr c6
   (first | rw [c6b0] | (simp only [i64_w, i32_w]; rw [c6b0]) | skip)
   have H' := Aside0.mk H
   clear H
   have hnb9 := NB205_206.out
   have hnc9 := NB206_205.out
   have hcz10_0 : w5.cell? ⟨gb205, 0, none⟩ = some (.int .u32 a0_0) := (blk_cell BK205.out 0).trans rfl
   have hcz10_1 : w5.cell? ⟨gb205, 1, none⟩ = some (.int .i64 a0_1) := (blk_cell BK205.out 1).trans rfl
   have hcz10_2 : w5.cell? ⟨gb205, 2, none⟩ = some (.int .u32 a0_2) := (blk_cell BK205.out 2).trans rfl
   have hcz10_3 : w5.cell? ⟨gb205, 3, none⟩ = some (.int .i64 a0_3) := (blk_cell BK205.out 3).trans rfl
   have hcz10_4 : w5.cell? ⟨gb205, 4, none⟩ = some (.int .i64 a0_4) := (blk_cell BK205.out 4).trans rfl
   have hcz10_5 : w5.cell? ⟨gb205, 5, none⟩ = some (.int .u16 a0_5) := (blk_cell BK205.out 5).trans rfl
   have hcz10_6 : w5.cell? ⟨gb205, 6, none⟩ = some (.int .u16 a0_6) := (blk_cell BK205.out 6).trans rfl
   have hcz10_7 : w5.cell? ⟨gb205, 7, none⟩ = some (.int .u16 a0_7) := (blk_cell BK205.out 7).trans rfl
   have hcz10_8 : w5.cell? ⟨gb205, 8, none⟩ = some (.int .u16 a0_8) := (blk_cell BK205.out 8).trans rfl
   have hfz10_0 := blk_frozen BK205.out 0
   have hfz10_1 := blk_frozen BK205.out 1
   have hfz10_2 := blk_frozen BK205.out 2
   have hfz10_3 := blk_frozen BK205.out 3
   have hfz10_4 := blk_frozen BK205.out 4
   have hfz10_5 := blk_frozen BK205.out 5
   have hfz10_6 := blk_frozen BK205.out 6
   have hfz10_7 := blk_frozen BK205.out 7
   have hfz10_8 := blk_frozen BK205.out 8
   have hcz11_0 : w5.cell? ⟨gb206, 0, none⟩ = some (.int .u32 a1_0) := (blk_cell BK206.out 0).trans rfl
   have hcz11_1 : w5.cell? ⟨gb206, 1, none⟩ = some (.int .u32 a1_1) := (blk_cell BK206.out 1).trans rfl
   have hcz11_2 : w5.cell? ⟨gb206, 2, none⟩ = some (.int .u8 a1_2) := (blk_cell BK206.out 2).trans rfl
   have hcz11_3 : w5.cell? ⟨gb206, 3, none⟩ = some (.int .u16 a1_3) := (blk_cell BK206.out 3).trans rfl
   have hcz11_4 : w5.cell? ⟨gb206, 4, none⟩ = some (.int .u16 a1_4) := (blk_cell BK206.out 4).trans rfl
   have hfz11_0 := blk_frozen BK206.out 0
   have hfz11_1 := blk_frozen BK206.out 1
   have hfz11_2 := blk_frozen BK206.out 2
   have hfz11_3 := blk_frozen BK206.out 3
   have hfz11_4 := blk_frozen BK206.out 4
   go_wp2
   go_meet
   case rel => exact ⟨_, ((a0_4 != (wrap64 (a1_2)))), (by first | rfl | (simp; done) | (simp [*]; done)), H', ⟨by first | omega | exact Nat.le_refl _⟩, ⟨by (with_reducible repeat (first | refine blk_drewN ?_ _ | refine blk_drew ?_ | refine blk_alloc ?_ _)); exact BK205.out⟩, ⟨by (with_reducible repeat (first | refine blk_drewN ?_ _ | refine blk_drew ?_ | refine blk_alloc ?_ _)); exact BK206.out⟩, ⟨by repeat (first | (with_reducible first | exact HB.out | apply below_alloc | apply pw_below_drewN | apply below_drew1 | refine below_set ?_ GE205.out | refine below_set ?_ GE206.out) | exact HB.out)⟩⟩
 case rest =>
  clear HC3
  try clear p2
  try clear c4
  try clear c6
  try clear c6b0
  try clear c6b1
  try clear p6
  try clear c7
  try clear c9
  try clear hcz10_0
  try clear hcz10_1
  try clear hcz10_2
  try clear hcz10_3
  try clear hcz10_4
  try clear hcz10_5
  try clear hcz10_6
  try clear hcz10_7
  try clear hcz10_8
  try clear hcz11_0
  try clear hcz11_1
  try clear hcz11_2
  try clear hcz11_3
  try clear hcz11_4
  try clear hcz8_0
  try clear hcz8_1
  try clear hcz8_2
  try clear hcz8_3
  try clear hcz8_4
  try clear hcz8_5
  try clear hcz8_6
  try clear hcz8_7
  try clear hcz8_8
  try clear hfz10_0
  try clear hfz10_1
  try clear hfz10_2
  try clear hfz10_3
  try clear hfz10_4
  try clear hfz10_5
  try clear hfz10_6
  try clear hfz10_7
  try clear hfz10_8
  try clear hfz11_0
  try clear hfz11_1
  try clear hfz11_2
  try clear hfz11_3
  try clear hfz11_4
  try clear hfz8_0
  try clear hfz8_1
  try clear hfz8_2
  try clear hfz8_3
  try clear hfz8_4
  try clear hfz8_5
  try clear hfz8_6
  try clear hfz8_7
  try clear hfz8_8
  obtain ⟨kq, x15_2, rfl, HA, HJ2, BK205, BK206, HB⟩ := hcut
  cases kq with
  | zero => exact absurd HA.out (by simp [crossbuckref04_Match.j0])
  | succ kj2 =>
   have H := HA.out
   clear HA
   simp only [crossbuckref04_Match.j0] at H
   by_cases c12 : x15_2 = true
   ·subst c12
    have H1 : (some false) = some r := by rw [if_pos rfl] at H; exact H
    clear H
    have H := H1
    clear H1
    obtain rfl := Option.some.inj H
    go_wp2
    go_ret
    exact ⟨by first | rfl | (simp [errW_none, errW_some] <;> rfl) | (simp [*, errW_none, errW_some] <;> rfl), by repeat (first | (with_reducible first | exact HB.out | apply below_alloc | apply pw_below_drewN | apply below_drew1 | refine below_set ?_ GE205.out | refine below_set ?_ GE206.out) | exact HB.out)⟩
   ·replace c12 := Bool.eq_false_iff.mpr c12
    subst c12
    have H1 : (if a1_3 < a0_5 then (crossbuckref04_Match.j1 kj2 true a0_0 a0_1 a0_2 a0_3 a0_4 a0_5 a0_6 a0_7 a0_8 a1_0 a1_1 a1_2 a1_3 a1_4) else (if a1_3 > a0_6 then (crossbuckref04_Match.j1 kj2 true a0_0 a0_1 a0_2 a0_3 a0_4 a0_5 a0_6 a0_7 a0_8 a1_0 a1_1 a1_2 a1_3 a1_4) else (if a1_4 < a0_7 then (crossbuckref04_Match.j1 kj2 true a0_0 a0_1 a0_2 a0_3 a0_4 a0_5 a0_6 a0_7 a0_8 a1_0 a1_1 a1_2 a1_3 a1_4) else (crossbuckref04_Match.j1 kj2 (decide (a1_4 > a0_8)) a0_0 a0_1 a0_2 a0_3 a0_4 a0_5 a0_6 a0_7 a0_8 a1_0 a1_1 a1_2 a1_3 a1_4)))) = some r := by rw [if_neg (show ¬ (false = true) by decide)] at H; exact H
    clear H
    have H := H1
    clear H1
    have HC13 := Aside0.mk H
    clear H
    go_upto_region 3 with (fail)
    go_cut [45] (fun v45 wc => ∃ (kq : Nat) (x45_12 : Bool), v45 = .bool x45_12 ∧ Aside0 (crossbuckref04_Match.j1 kq x45_12 a0_0 a0_1 a0_2 a0_3 a0_4 a0_5 a0_6 a0_7 a0_8 a1_0 a1_1 a1_2 a1_3 a1_4 = some r) ∧ Aside0 (kq ≤ kj2) ∧ Aside0 (wc.heap[gb205]? = some (.cells #[.int .u32 a0_0, .int .i64 a0_1, .int .u32 a0_2, .int .i64 a0_3, .int .i64 a0_4, .int .u16 a0_5, .int .u16 a0_6, .int .u16 a0_7, .int .u16 a0_8] 77 (0, 0))) ∧ Aside0 (wc.heap[gb206]? = some (.cells #[.int .u32 a1_0, .int .u32 a1_1, .int .u8 a1_2, .int .u16 a1_3, .int .u16 a1_4] 67 (0, 0))) ∧ Aside0 (Below w.heap.size w wc))
    case first =>
     have H := HC13.out
     clear HC13
     by_cases c14 : a1_3 < a0_5
     ·rw [if_pos c14] at H
      have c14b0 : decide (a1_3 < a0_5) = true := decide_eq_true c14
      clear c14
      (first | rw [c14b0] | (simp only [i64_w, i32_w]; rw [c14b0]) | skip)
      have H' := Aside0.mk H
      clear H
      have hnb15 := NB206_205.out
      have hnc15 := NB205_206.out
      have hcz16_0 : wc.cell? ⟨gb206, 0, none⟩ = some (.int .u32 a1_0) := (blk_cell BK206.out 0).trans rfl
      have hcz16_1 : wc.cell? ⟨gb206, 1, none⟩ = some (.int .u32 a1_1) := (blk_cell BK206.out 1).trans rfl
      have hcz16_2 : wc.cell? ⟨gb206, 2, none⟩ = some (.int .u8 a1_2) := (blk_cell BK206.out 2).trans rfl
      have hcz16_3 : wc.cell? ⟨gb206, 3, none⟩ = some (.int .u16 a1_3) := (blk_cell BK206.out 3).trans rfl
      have hcz16_4 : wc.cell? ⟨gb206, 4, none⟩ = some (.int .u16 a1_4) := (blk_cell BK206.out 4).trans rfl
      have hfz16_0 := blk_frozen BK206.out 0
      have hfz16_1 := blk_frozen BK206.out 1
      have hfz16_2 := blk_frozen BK206.out 2
      have hfz16_3 := blk_frozen BK206.out 3
      have hfz16_4 := blk_frozen BK206.out 4
      have hcz17_0 : wc.cell? ⟨gb205, 0, none⟩ = some (.int .u32 a0_0) := (blk_cell BK205.out 0).trans rfl
      have hcz17_1 : wc.cell? ⟨gb205, 1, none⟩ = some (.int .i64 a0_1) := (blk_cell BK205.out 1).trans rfl
      have hcz17_2 : wc.cell? ⟨gb205, 2, none⟩ = some (.int .u32 a0_2) := (blk_cell BK205.out 2).trans rfl
      have hcz17_3 : wc.cell? ⟨gb205, 3, none⟩ = some (.int .i64 a0_3) := (blk_cell BK205.out 3).trans rfl
      have hcz17_4 : wc.cell? ⟨gb205, 4, none⟩ = some (.int .i64 a0_4) := (blk_cell BK205.out 4).trans rfl
      have hcz17_5 : wc.cell? ⟨gb205, 5, none⟩ = some (.int .u16 a0_5) := (blk_cell BK205.out 5).trans rfl
      have hcz17_6 : wc.cell? ⟨gb205, 6, none⟩ = some (.int .u16 a0_6) := (blk_cell BK205.out 6).trans rfl
      have hcz17_7 : wc.cell? ⟨gb205, 7, none⟩ = some (.int .u16 a0_7) := (blk_cell BK205.out 7).trans rfl
      have hcz17_8 : wc.cell? ⟨gb205, 8, none⟩ = some (.int .u16 a0_8) := (blk_cell BK205.out 8).trans rfl
      have hfz17_0 := blk_frozen BK205.out 0
      have hfz17_1 := blk_frozen BK205.out 1
      have hfz17_2 := blk_frozen BK205.out 2
      have hfz17_3 := blk_frozen BK205.out 3
      have hfz17_4 := blk_frozen BK205.out 4
      have hfz17_5 := blk_frozen BK205.out 5
      have hfz17_6 := blk_frozen BK205.out 6
      have hfz17_7 := blk_frozen BK205.out 7
      have hfz17_8 := blk_frozen BK205.out 8
      go_wp2
      go_meet
      case rel => exact ⟨_, (true), (by first | rfl | (simp; done) | (simp [*]; done)), H', ⟨by have := HJ2.out; first | omega | exact Nat.le_refl _⟩, ⟨by (with_reducible repeat (first | refine blk_drewN ?_ _ | refine blk_drew ?_ | refine blk_alloc ?_ _)); exact BK205.out⟩, ⟨by (with_reducible repeat (first | refine blk_drewN ?_ _ | refine blk_drew ?_ | refine blk_alloc ?_ _)); exact BK206.out⟩, ⟨by repeat (first | (with_reducible first | exact HB.out | apply below_alloc | apply pw_below_drewN | apply below_drew1 | refine below_set ?_ GE205.out | refine below_set ?_ GE206.out) | exact HB.out)⟩⟩
     ·rw [if_neg c14] at H
      have c14b0 : decide (a1_3 < a0_5) = false := decide_eq_false c14
      clear c14
      (first | rw [c14b0] | (simp only [i64_w, i32_w]; rw [c14b0]) | skip)
      by_cases c18 : a1_3 > a0_6
      ·rw [if_pos c18] at H
       have c18b0 : decide (a0_6 < a1_3) = true := decide_eq_true c18
       clear c18
       have H' := Aside0.mk H
       clear H
       have hnb19 := NB206_205.out
       have hnc19 := NB205_206.out
       have hcz20_0 : wc.cell? ⟨gb206, 0, none⟩ = some (.int .u32 a1_0) := (blk_cell BK206.out 0).trans rfl
       have hcz20_1 : wc.cell? ⟨gb206, 1, none⟩ = some (.int .u32 a1_1) := (blk_cell BK206.out 1).trans rfl
       have hcz20_2 : wc.cell? ⟨gb206, 2, none⟩ = some (.int .u8 a1_2) := (blk_cell BK206.out 2).trans rfl
       have hcz20_3 : wc.cell? ⟨gb206, 3, none⟩ = some (.int .u16 a1_3) := (blk_cell BK206.out 3).trans rfl
       have hcz20_4 : wc.cell? ⟨gb206, 4, none⟩ = some (.int .u16 a1_4) := (blk_cell BK206.out 4).trans rfl
       have hfz20_0 := blk_frozen BK206.out 0
       have hfz20_1 := blk_frozen BK206.out 1
       have hfz20_2 := blk_frozen BK206.out 2
       have hfz20_3 := blk_frozen BK206.out 3
       have hfz20_4 := blk_frozen BK206.out 4
       have hcz21_0 : wc.cell? ⟨gb205, 0, none⟩ = some (.int .u32 a0_0) := (blk_cell BK205.out 0).trans rfl
       have hcz21_1 : wc.cell? ⟨gb205, 1, none⟩ = some (.int .i64 a0_1) := (blk_cell BK205.out 1).trans rfl
       have hcz21_2 : wc.cell? ⟨gb205, 2, none⟩ = some (.int .u32 a0_2) := (blk_cell BK205.out 2).trans rfl
       have hcz21_3 : wc.cell? ⟨gb205, 3, none⟩ = some (.int .i64 a0_3) := (blk_cell BK205.out 3).trans rfl
       have hcz21_4 : wc.cell? ⟨gb205, 4, none⟩ = some (.int .i64 a0_4) := (blk_cell BK205.out 4).trans rfl
       have hcz21_5 : wc.cell? ⟨gb205, 5, none⟩ = some (.int .u16 a0_5) := (blk_cell BK205.out 5).trans rfl
       have hcz21_6 : wc.cell? ⟨gb205, 6, none⟩ = some (.int .u16 a0_6) := (blk_cell BK205.out 6).trans rfl
       have hcz21_7 : wc.cell? ⟨gb205, 7, none⟩ = some (.int .u16 a0_7) := (blk_cell BK205.out 7).trans rfl
       have hcz21_8 : wc.cell? ⟨gb205, 8, none⟩ = some (.int .u16 a0_8) := (blk_cell BK205.out 8).trans rfl
       have hfz21_0 := blk_frozen BK205.out 0
       have hfz21_1 := blk_frozen BK205.out 1
       have hfz21_2 := blk_frozen BK205.out 2
       have hfz21_3 := blk_frozen BK205.out 3
       have hfz21_4 := blk_frozen BK205.out 4
       have hfz21_5 := blk_frozen BK205.out 5
       have hfz21_6 := blk_frozen BK205.out 6
       have hfz21_7 := blk_frozen BK205.out 7
       have hfz21_8 := blk_frozen BK205.out 8
       go_wp2
       go_meet
       case rel => exact ⟨_, (true), (by first | rfl | (simp; done) | (simp [*]; done)), H', ⟨by have := HJ2.out; first | omega | exact Nat.le_refl _⟩, ⟨by (with_reducible repeat (first | refine blk_drewN ?_ _ | refine blk_drew ?_ | refine blk_alloc ?_ _)); exact BK205.out⟩, ⟨by (with_reducible repeat (first | refine blk_drewN ?_ _ | refine blk_drew ?_ | refine blk_alloc ?_ _)); exact BK206.out⟩, ⟨by repeat (first | (with_reducible first | exact HB.out | apply below_alloc | apply pw_below_drewN | apply below_drew1 | refine below_set ?_ GE205.out | refine below_set ?_ GE206.out) | exact HB.out)⟩⟩
      ·rw [if_neg c18] at H
       have c18b0 : decide (a0_6 < a1_3) = false := decide_eq_false c18
       clear c18
       by_cases c22 : a1_4 < a0_7
       ·rw [if_pos c22] at H
        have c22b0 : decide (a1_4 < a0_7) = true := decide_eq_true c22
        clear c22
        have H' := Aside0.mk H
        clear H
        have hnb23 := NB206_205.out
        have hnc23 := NB205_206.out
        have hcz24_0 : wc.cell? ⟨gb206, 0, none⟩ = some (.int .u32 a1_0) := (blk_cell BK206.out 0).trans rfl
        have hcz24_1 : wc.cell? ⟨gb206, 1, none⟩ = some (.int .u32 a1_1) := (blk_cell BK206.out 1).trans rfl
        have hcz24_2 : wc.cell? ⟨gb206, 2, none⟩ = some (.int .u8 a1_2) := (blk_cell BK206.out 2).trans rfl
        have hcz24_3 : wc.cell? ⟨gb206, 3, none⟩ = some (.int .u16 a1_3) := (blk_cell BK206.out 3).trans rfl
        have hcz24_4 : wc.cell? ⟨gb206, 4, none⟩ = some (.int .u16 a1_4) := (blk_cell BK206.out 4).trans rfl
        have hfz24_0 := blk_frozen BK206.out 0
        have hfz24_1 := blk_frozen BK206.out 1
        have hfz24_2 := blk_frozen BK206.out 2
        have hfz24_3 := blk_frozen BK206.out 3
        have hfz24_4 := blk_frozen BK206.out 4
        have hcz25_0 : wc.cell? ⟨gb205, 0, none⟩ = some (.int .u32 a0_0) := (blk_cell BK205.out 0).trans rfl
        have hcz25_1 : wc.cell? ⟨gb205, 1, none⟩ = some (.int .i64 a0_1) := (blk_cell BK205.out 1).trans rfl
        have hcz25_2 : wc.cell? ⟨gb205, 2, none⟩ = some (.int .u32 a0_2) := (blk_cell BK205.out 2).trans rfl
        have hcz25_3 : wc.cell? ⟨gb205, 3, none⟩ = some (.int .i64 a0_3) := (blk_cell BK205.out 3).trans rfl
        have hcz25_4 : wc.cell? ⟨gb205, 4, none⟩ = some (.int .i64 a0_4) := (blk_cell BK205.out 4).trans rfl
        have hcz25_5 : wc.cell? ⟨gb205, 5, none⟩ = some (.int .u16 a0_5) := (blk_cell BK205.out 5).trans rfl
        have hcz25_6 : wc.cell? ⟨gb205, 6, none⟩ = some (.int .u16 a0_6) := (blk_cell BK205.out 6).trans rfl
        have hcz25_7 : wc.cell? ⟨gb205, 7, none⟩ = some (.int .u16 a0_7) := (blk_cell BK205.out 7).trans rfl
        have hcz25_8 : wc.cell? ⟨gb205, 8, none⟩ = some (.int .u16 a0_8) := (blk_cell BK205.out 8).trans rfl
        have hfz25_0 := blk_frozen BK205.out 0
        have hfz25_1 := blk_frozen BK205.out 1
        have hfz25_2 := blk_frozen BK205.out 2
        have hfz25_3 := blk_frozen BK205.out 3
        have hfz25_4 := blk_frozen BK205.out 4
        have hfz25_5 := blk_frozen BK205.out 5
        have hfz25_6 := blk_frozen BK205.out 6
        have hfz25_7 := blk_frozen BK205.out 7
        have hfz25_8 := blk_frozen BK205.out 8
        go_wp2
        go_meet
        case rel => exact ⟨_, (true), (by first | rfl | (simp; done) | (simp [*]; done)), H', ⟨by have := HJ2.out; first | omega | exact Nat.le_refl _⟩, ⟨by (with_reducible repeat (first | refine blk_drewN ?_ _ | refine blk_drew ?_ | refine blk_alloc ?_ _)); exact BK205.out⟩, ⟨by (with_reducible repeat (first | refine blk_drewN ?_ _ | refine blk_drew ?_ | refine blk_alloc ?_ _)); exact BK206.out⟩, ⟨by repeat (first | (with_reducible first | exact HB.out | apply below_alloc | apply pw_below_drewN | apply below_drew1 | refine below_set ?_ GE205.out | refine below_set ?_ GE206.out) | exact HB.out)⟩⟩
       ·rw [if_neg c22] at H
        have c22b0 : decide (a1_4 < a0_7) = false := decide_eq_false c22
        clear c22
        have H' := Aside0.mk H
        clear H
        have hnb26 := NB206_205.out
        have hnc26 := NB205_206.out
        have hcz27_0 : wc.cell? ⟨gb206, 0, none⟩ = some (.int .u32 a1_0) := (blk_cell BK206.out 0).trans rfl
        have hcz27_1 : wc.cell? ⟨gb206, 1, none⟩ = some (.int .u32 a1_1) := (blk_cell BK206.out 1).trans rfl
        have hcz27_2 : wc.cell? ⟨gb206, 2, none⟩ = some (.int .u8 a1_2) := (blk_cell BK206.out 2).trans rfl
        have hcz27_3 : wc.cell? ⟨gb206, 3, none⟩ = some (.int .u16 a1_3) := (blk_cell BK206.out 3).trans rfl
        have hcz27_4 : wc.cell? ⟨gb206, 4, none⟩ = some (.int .u16 a1_4) := (blk_cell BK206.out 4).trans rfl
        have hfz27_0 := blk_frozen BK206.out 0
        have hfz27_1 := blk_frozen BK206.out 1
        have hfz27_2 := blk_frozen BK206.out 2
        have hfz27_3 := blk_frozen BK206.out 3
        have hfz27_4 := blk_frozen BK206.out 4
        have hcz28_0 : wc.cell? ⟨gb205, 0, none⟩ = some (.int .u32 a0_0) := (blk_cell BK205.out 0).trans rfl
        have hcz28_1 : wc.cell? ⟨gb205, 1, none⟩ = some (.int .i64 a0_1) := (blk_cell BK205.out 1).trans rfl
        have hcz28_2 : wc.cell? ⟨gb205, 2, none⟩ = some (.int .u32 a0_2) := (blk_cell BK205.out 2).trans rfl
        have hcz28_3 : wc.cell? ⟨gb205, 3, none⟩ = some (.int .i64 a0_3) := (blk_cell BK205.out 3).trans rfl
        have hcz28_4 : wc.cell? ⟨gb205, 4, none⟩ = some (.int .i64 a0_4) := (blk_cell BK205.out 4).trans rfl
        have hcz28_5 : wc.cell? ⟨gb205, 5, none⟩ = some (.int .u16 a0_5) := (blk_cell BK205.out 5).trans rfl
        have hcz28_6 : wc.cell? ⟨gb205, 6, none⟩ = some (.int .u16 a0_6) := (blk_cell BK205.out 6).trans rfl
        have hcz28_7 : wc.cell? ⟨gb205, 7, none⟩ = some (.int .u16 a0_7) := (blk_cell BK205.out 7).trans rfl
        have hcz28_8 : wc.cell? ⟨gb205, 8, none⟩ = some (.int .u16 a0_8) := (blk_cell BK205.out 8).trans rfl
        have hfz28_0 := blk_frozen BK205.out 0
        have hfz28_1 := blk_frozen BK205.out 1
        have hfz28_2 := blk_frozen BK205.out 2
        have hfz28_3 := blk_frozen BK205.out 3
        have hfz28_4 := blk_frozen BK205.out 4
        have hfz28_5 := blk_frozen BK205.out 5
        have hfz28_6 := blk_frozen BK205.out 6
        have hfz28_7 := blk_frozen BK205.out 7
        have hfz28_8 := blk_frozen BK205.out 8
        go_wp2
        go_meet
        case rel => exact ⟨_, (decide (a1_4 > a0_8)), (by first | rfl | (simp; done) | (simp [*]; done)), H', ⟨by have := HJ2.out; first | omega | exact Nat.le_refl _⟩, ⟨by (with_reducible repeat (first | refine blk_drewN ?_ _ | refine blk_drew ?_ | refine blk_alloc ?_ _)); exact BK205.out⟩, ⟨by (with_reducible repeat (first | refine blk_drewN ?_ _ | refine blk_drew ?_ | refine blk_alloc ?_ _)); exact BK206.out⟩, ⟨by repeat (first | (with_reducible first | exact HB.out | apply below_alloc | apply pw_below_drewN | apply below_drew1 | refine below_set ?_ GE205.out | refine below_set ?_ GE206.out) | exact HB.out)⟩⟩
    case rest =>
     clear HC13
     try clear c1
     try clear c2
     try clear p2
     try clear c4
     try clear c6
     try clear c6b0
     try clear c6b1
     try clear p6
     try clear c7
     try clear c9
     try clear c12
     try clear c14
     try clear c14b0
     try clear c15
     try clear c18
     try clear c18b0
     try clear c19
     try clear c22
     try clear c22b0
     try clear c23
     try clear c26
     try clear hcz10_0
     try clear hcz10_1
     try clear hcz10_2
     try clear hcz10_3
     try clear hcz10_4
     try clear hcz10_5
     try clear hcz10_6
     try clear hcz10_7
     try clear hcz10_8
     try clear hcz11_0
     try clear hcz11_1
     try clear hcz11_2
     try clear hcz11_3
     try clear hcz11_4
     try clear hcz16_0
     try clear hcz16_1
     try clear hcz16_2
     try clear hcz16_3
     try clear hcz16_4
     try clear hcz17_0
     try clear hcz17_1
     try clear hcz17_2
     try clear hcz17_3
     try clear hcz17_4
     try clear hcz17_5
     try clear hcz17_6
     try clear hcz17_7
     try clear hcz17_8
     try clear hcz20_0
     try clear hcz20_1
     try clear hcz20_2
     try clear hcz20_3
     try clear hcz20_4
     try clear hcz21_0
     try clear hcz21_1
     try clear hcz21_2
     try clear hcz21_3
     try clear hcz21_4
     try clear hcz21_5
     try clear hcz21_6
     try clear hcz21_7
     try clear hcz21_8
     try clear hcz24_0
     try clear hcz24_1
     try clear hcz24_2
     try clear hcz24_3
     try clear hcz24_4
     try clear hcz25_0
     try clear hcz25_1
     try clear hcz25_2
     try clear hcz25_3
     try clear hcz25_4
     try clear hcz25_5
     try clear hcz25_6
     try clear hcz25_7
     try clear hcz25_8
     try clear hcz27_0
     try clear hcz27_1
     try clear hcz27_2
     try clear hcz27_3
     try clear hcz27_4
     try clear hcz28_0
     try clear hcz28_1
     try clear hcz28_2
     try clear hcz28_3
     try clear hcz28_4
     try clear hcz28_5
     try clear hcz28_6
     try clear hcz28_7
     try clear hcz28_8
     try clear hcz8_0
     try clear hcz8_1
     try clear hcz8_2
     try clear hcz8_3
     try clear hcz8_4
     try clear hcz8_5
     try clear hcz8_6
     try clear hcz8_7
     try clear hcz8_8
     try clear hfz10_0
     try clear hfz10_1
     try clear hfz10_2
     try clear hfz10_3
     try clear hfz10_4
     try clear hfz10_5
     try clear hfz10_6
     try clear hfz10_7
     try clear hfz10_8
     try clear hfz11_0
     try clear hfz11_1
     try clear hfz11_2
     try clear hfz11_3
     try clear hfz11_4
     try clear hfz16_0
     try clear hfz16_1
     try clear hfz16_2
     try clear hfz16_3
     try clear hfz16_4
     try clear hfz17_0
     try clear hfz17_1
     try clear hfz17_2
     try clear hfz17_3
     try clear hfz17_4
     try clear hfz17_5
     try clear hfz17_6
     try clear hfz17_7
     try clear hfz17_8
     try clear hfz20_0
     try clear hfz20_1
     try clear hfz20_2
     try clear hfz20_3
     try clear hfz20_4
     try clear hfz21_0
     try clear hfz21_1
     try clear hfz21_2
     try clear hfz21_3
     try clear hfz21_4
     try clear hfz21_5
     try clear hfz21_6
     try clear hfz21_7
     try clear hfz21_8
     try clear hfz24_0
     try clear hfz24_1
     try clear hfz24_2
     try clear hfz24_3
     try clear hfz24_4
     try clear hfz25_0
     try clear hfz25_1
     try clear hfz25_2
     try clear hfz25_3
     try clear hfz25_4
     try clear hfz25_5
     try clear hfz25_6
     try clear hfz25_7
     try clear hfz25_8
     try clear hfz27_0
     try clear hfz27_1
     try clear hfz27_2
     try clear hfz27_3
     try clear hfz27_4
     try clear hfz28_0
     try clear hfz28_1
     try clear hfz28_2
     try clear hfz28_3
     try clear hfz28_4
     try clear hfz28_5
     try clear hfz28_6
     try clear hfz28_7
     try clear hfz28_8
     try clear hfz8_0
     try clear hfz8_1
     try clear hfz8_2
     try clear hfz8_3
     try clear hfz8_4
     try clear hfz8_5
     try clear hfz8_6
     try clear hfz8_7
     try clear hfz8_8
     try clear p2
     try clear p6
     obtain ⟨kq, x45_12, rfl, HA, HJ12, BK205, BK206, HB⟩ := hcut
     cases kq with
     | zero => exact absurd HA.out (by simp [crossbuckref04_Match.j1])
     | succ kj12 =>
      have H := HA.out
      clear HA
      simp only [crossbuckref04_Match.j1] at H
      by_cases c29 : x45_12 = true
      ·subst c29
       have H1 : (some false) = some r := by rw [if_pos rfl] at H; exact H
       clear H
       have H := H1
       clear H1
       obtain rfl := Option.some.inj H
       go_wp2
       go_ret
       exact ⟨by first | rfl | (simp [errW_none, errW_some] <;> rfl) | (simp [*, errW_none, errW_some] <;> rfl), by repeat (first | (with_reducible first | exact HB.out | apply below_alloc | apply pw_below_drewN | apply below_drew1 | refine below_set ?_ GE205.out | refine below_set ?_ GE206.out) | exact HB.out)⟩
      ·replace c29 := Bool.eq_false_iff.mpr c29
       subst c29
       have H1 : ((crossbuckref03_Has.f kj12 a0_0 a0_1 a1_0).bind fun t207 => (if t207 = true then ((crossbuckref03_Has.f kj12 a0_2 a0_3 a1_1).bind fun t208 => (some t208)) else (some false))) = some r := by rw [if_neg (show ¬ (false = true) by decide)] at H; exact H
       clear H
       have H := H1
       clear H1
       replace H := Option.bind_eq_some_iff.mp H
       obtain ⟨t207, A300, H⟩ := H
       replace H : (if t207 = true then ((crossbuckref03_Has.f kj12 a0_2 a0_3 a1_1).bind fun t208 => (some t208)) else (some false)) = some r := H
       have A30 := Aside0.mk A300
       clear A300
       by_cases c31 : t207 = true
       ·subst c31
        have H1 : ((crossbuckref03_Has.f kj12 a0_2 a0_3 a1_1).bind fun t208 => (some t208)) = some r := by rw [if_pos rfl] at H; exact H
        clear H
        have H := H1
        clear H1
        replace H := Option.bind_eq_some_iff.mp H
        obtain ⟨t208, A320, H⟩ := H
        replace H : (some t208) = some r := H
        have A32 := Aside0.mk A320
        clear A320
        obtain rfl := Option.some.inj H
        have hnb33 := NB205_206.out
        have hnc33 := NB206_205.out
        have hcz34_0 : wc.cell? ⟨gb205, 0, none⟩ = some (.int .u32 a0_0) := (blk_cell BK205.out 0).trans rfl
        have hcz34_1 : wc.cell? ⟨gb205, 1, none⟩ = some (.int .i64 a0_1) := (blk_cell BK205.out 1).trans rfl
        have hcz34_2 : wc.cell? ⟨gb205, 2, none⟩ = some (.int .u32 a0_2) := (blk_cell BK205.out 2).trans rfl
        have hcz34_3 : wc.cell? ⟨gb205, 3, none⟩ = some (.int .i64 a0_3) := (blk_cell BK205.out 3).trans rfl
        have hcz34_4 : wc.cell? ⟨gb205, 4, none⟩ = some (.int .i64 a0_4) := (blk_cell BK205.out 4).trans rfl
        have hcz34_5 : wc.cell? ⟨gb205, 5, none⟩ = some (.int .u16 a0_5) := (blk_cell BK205.out 5).trans rfl
        have hcz34_6 : wc.cell? ⟨gb205, 6, none⟩ = some (.int .u16 a0_6) := (blk_cell BK205.out 6).trans rfl
        have hcz34_7 : wc.cell? ⟨gb205, 7, none⟩ = some (.int .u16 a0_7) := (blk_cell BK205.out 7).trans rfl
        have hcz34_8 : wc.cell? ⟨gb205, 8, none⟩ = some (.int .u16 a0_8) := (blk_cell BK205.out 8).trans rfl
        have hfz34_0 := blk_frozen BK205.out 0
        have hfz34_1 := blk_frozen BK205.out 1
        have hfz34_2 := blk_frozen BK205.out 2
        have hfz34_3 := blk_frozen BK205.out 3
        have hfz34_4 := blk_frozen BK205.out 4
        have hfz34_5 := blk_frozen BK205.out 5
        have hfz34_6 := blk_frozen BK205.out 6
        have hfz34_7 := blk_frozen BK205.out 7
        have hfz34_8 := blk_frozen BK205.out 8
        have hcz35_0 : wc.cell? ⟨gb206, 0, none⟩ = some (.int .u32 a1_0) := (blk_cell BK206.out 0).trans rfl
        have hcz35_1 : wc.cell? ⟨gb206, 1, none⟩ = some (.int .u32 a1_1) := (blk_cell BK206.out 1).trans rfl
        have hcz35_2 : wc.cell? ⟨gb206, 2, none⟩ = some (.int .u8 a1_2) := (blk_cell BK206.out 2).trans rfl
        have hcz35_3 : wc.cell? ⟨gb206, 3, none⟩ = some (.int .u16 a1_3) := (blk_cell BK206.out 3).trans rfl
        have hcz35_4 : wc.cell? ⟨gb206, 4, none⟩ = some (.int .u16 a1_4) := (blk_cell BK206.out 4).trans rfl
        have hfz35_0 := blk_frozen BK206.out 0
        have hfz35_1 := blk_frozen BK206.out 1
        have hfz35_2 := blk_frozen BK206.out 2
        have hfz35_3 := blk_frozen BK206.out 3
        have hfz35_4 := blk_frozen BK206.out 4
        go_wp2_with (first | ((with_reducible refine gate_callee (f := 96) rfl ?_); refine goesL_ (some 50) rfl rfl Tryd.func96 (by kernel_rfl) rfl #[.agg #[.int .u32 a0_0, .int .i64 a0_1], .int .u32 a1_0] rfl (by (try simp only [List.map_toArray, List.map_cons, List.map_nil]); first | done | rfl | (simp only [List.length_drop, List.length_take]; rfl)) ?_; (with_reducible refine (crossbuckref03_Has.calls kj12 a0_0 a0_1 a1_0 true _ A30.out).mono ?_); rintro e w36 ⟨rfl, hb⟩; refine ⟨_, rfl, ?_⟩; have n0_ := Aside0.mk (blk_below (g := gb205) (o := .cells #[.int .u32 a0_0, .int .i64 a0_1, .int .u32 a0_2, .int .i64 a0_3, .int .i64 a0_4, .int .u16 a0_5, .int .u16 a0_6, .int .u16 a0_7, .int .u16 a0_8] 77 (0, 0)) (by (with_reducible repeat (first | refine blk_drewN ?_ _ | refine blk_drew ?_ | refine blk_alloc ?_ _)); exact BK205.out) hb); have n1_ := Aside0.mk (blk_below (g := gb206) (o := .cells #[.int .u32 a1_0, .int .u32 a1_1, .int .u8 a1_2, .int .u16 a1_3, .int .u16 a1_4] 67 (0, 0)) (by (with_reducible repeat (first | refine blk_drewN ?_ _ | refine blk_drew ?_ | refine blk_alloc ?_ _)); exact BK206.out) hb); have n2_ := Aside0.mk (below_step (by repeat (first | (with_reducible first | exact HB.out | apply below_alloc | apply pw_below_drewN | apply below_drew1 | refine below_set ?_ GE205.out | refine below_set ?_ GE206.out) | exact HB.out)) hb); clear BK205; clear BK206; clear HB; have BK205 := n0_; have BK206 := n1_; have HB := n2_; clear n0_ n1_ n2_; (try clear hb); (try clear hb2); (try clear hk); (try clear hi); have hcz37_0 : w36.cell? ⟨gb205, 0, none⟩ = some (.int .u32 a0_0) := (blk_cell BK205.out 0).trans rfl; have hcz37_1 : w36.cell? ⟨gb205, 1, none⟩ = some (.int .i64 a0_1) := (blk_cell BK205.out 1).trans rfl; have hcz37_2 : w36.cell? ⟨gb205, 2, none⟩ = some (.int .u32 a0_2) := (blk_cell BK205.out 2).trans rfl; have hcz37_3 : w36.cell? ⟨gb205, 3, none⟩ = some (.int .i64 a0_3) := (blk_cell BK205.out 3).trans rfl; have hcz37_4 : w36.cell? ⟨gb205, 4, none⟩ = some (.int .i64 a0_4) := (blk_cell BK205.out 4).trans rfl; have hcz37_5 : w36.cell? ⟨gb205, 5, none⟩ = some (.int .u16 a0_5) := (blk_cell BK205.out 5).trans rfl; have hcz37_6 : w36.cell? ⟨gb205, 6, none⟩ = some (.int .u16 a0_6) := (blk_cell BK205.out 6).trans rfl; have hcz37_7 : w36.cell? ⟨gb205, 7, none⟩ = some (.int .u16 a0_7) := (blk_cell BK205.out 7).trans rfl; have hcz37_8 : w36.cell? ⟨gb205, 8, none⟩ = some (.int .u16 a0_8) := (blk_cell BK205.out 8).trans rfl; have hfz37_0 := blk_frozen BK205.out 0; have hfz37_1 := blk_frozen BK205.out 1; have hfz37_2 := blk_frozen BK205.out 2; have hfz37_3 := blk_frozen BK205.out 3; have hfz37_4 := blk_frozen BK205.out 4; have hfz37_5 := blk_frozen BK205.out 5; have hfz37_6 := blk_frozen BK205.out 6; have hfz37_7 := blk_frozen BK205.out 7; have hfz37_8 := blk_frozen BK205.out 8; have hcz38_0 : w36.cell? ⟨gb206, 0, none⟩ = some (.int .u32 a1_0) := (blk_cell BK206.out 0).trans rfl; have hcz38_1 : w36.cell? ⟨gb206, 1, none⟩ = some (.int .u32 a1_1) := (blk_cell BK206.out 1).trans rfl; have hcz38_2 : w36.cell? ⟨gb206, 2, none⟩ = some (.int .u8 a1_2) := (blk_cell BK206.out 2).trans rfl; have hcz38_3 : w36.cell? ⟨gb206, 3, none⟩ = some (.int .u16 a1_3) := (blk_cell BK206.out 3).trans rfl; have hcz38_4 : w36.cell? ⟨gb206, 4, none⟩ = some (.int .u16 a1_4) := (blk_cell BK206.out 4).trans rfl; have hfz38_0 := blk_frozen BK206.out 0; have hfz38_1 := blk_frozen BK206.out 1; have hfz38_2 := blk_frozen BK206.out 2; have hfz38_3 := blk_frozen BK206.out 3; have hfz38_4 := blk_frozen BK206.out 4) | (go_at_call 96; (with_reducible refine (crossbuckref03_Has.calls kj12 a0_2 a0_3 a1_1 t208 _ A32.out).mono ?_); rintro e w39 ⟨rfl, hb⟩; have n0_ := Aside0.mk (blk_below (g := gb205) (o := .cells #[.int .u32 a0_0, .int .i64 a0_1, .int .u32 a0_2, .int .i64 a0_3, .int .i64 a0_4, .int .u16 a0_5, .int .u16 a0_6, .int .u16 a0_7, .int .u16 a0_8] 77 (0, 0)) (by (with_reducible repeat (first | refine blk_drewN ?_ _ | refine blk_drew ?_ | refine blk_alloc ?_ _)); exact BK205.out) hb); have n1_ := Aside0.mk (blk_below (g := gb206) (o := .cells #[.int .u32 a1_0, .int .u32 a1_1, .int .u8 a1_2, .int .u16 a1_3, .int .u16 a1_4] 67 (0, 0)) (by (with_reducible repeat (first | refine blk_drewN ?_ _ | refine blk_drew ?_ | refine blk_alloc ?_ _)); exact BK206.out) hb); have n2_ := Aside0.mk (below_step (by repeat (first | (with_reducible first | exact HB.out | apply below_alloc | apply pw_below_drewN | apply below_drew1 | refine below_set ?_ GE205.out | refine below_set ?_ GE206.out) | exact HB.out)) hb); clear BK205; clear BK206; clear HB; have BK205 := n0_; have BK206 := n1_; have HB := n2_; clear n0_ n1_ n2_; (try clear hb); (try clear hb2); (try clear hk); (try clear hi)))
        go_ret
        exact ⟨by first | rfl | (simp [errW_none, errW_some] <;> rfl) | (simp [*, errW_none, errW_some] <;> rfl), by repeat (first | (with_reducible first | exact HB.out | apply below_alloc | apply pw_below_drewN | apply below_drew1 | refine below_set ?_ GE205.out | refine below_set ?_ GE206.out) | exact HB.out)⟩
       ·replace c31 := Bool.eq_false_iff.mpr c31
        subst c31
        have H1 : (some false) = some r := by rw [if_neg (show ¬ (false = true) by decide)] at H; exact H
        clear H
        have H := H1
        clear H1
        obtain rfl := Option.some.inj H
        have hnb40 := NB205_206.out
        have hnc40 := NB206_205.out
        have hcz41_0 : wc.cell? ⟨gb205, 0, none⟩ = some (.int .u32 a0_0) := (blk_cell BK205.out 0).trans rfl
        have hcz41_1 : wc.cell? ⟨gb205, 1, none⟩ = some (.int .i64 a0_1) := (blk_cell BK205.out 1).trans rfl
        have hcz41_2 : wc.cell? ⟨gb205, 2, none⟩ = some (.int .u32 a0_2) := (blk_cell BK205.out 2).trans rfl
        have hcz41_3 : wc.cell? ⟨gb205, 3, none⟩ = some (.int .i64 a0_3) := (blk_cell BK205.out 3).trans rfl
        have hcz41_4 : wc.cell? ⟨gb205, 4, none⟩ = some (.int .i64 a0_4) := (blk_cell BK205.out 4).trans rfl
        have hcz41_5 : wc.cell? ⟨gb205, 5, none⟩ = some (.int .u16 a0_5) := (blk_cell BK205.out 5).trans rfl
        have hcz41_6 : wc.cell? ⟨gb205, 6, none⟩ = some (.int .u16 a0_6) := (blk_cell BK205.out 6).trans rfl
        have hcz41_7 : wc.cell? ⟨gb205, 7, none⟩ = some (.int .u16 a0_7) := (blk_cell BK205.out 7).trans rfl
        have hcz41_8 : wc.cell? ⟨gb205, 8, none⟩ = some (.int .u16 a0_8) := (blk_cell BK205.out 8).trans rfl
        have hfz41_0 := blk_frozen BK205.out 0
        have hfz41_1 := blk_frozen BK205.out 1
        have hfz41_2 := blk_frozen BK205.out 2
        have hfz41_3 := blk_frozen BK205.out 3
        have hfz41_4 := blk_frozen BK205.out 4
        have hfz41_5 := blk_frozen BK205.out 5
        have hfz41_6 := blk_frozen BK205.out 6
        have hfz41_7 := blk_frozen BK205.out 7
        have hfz41_8 := blk_frozen BK205.out 8
        have hcz42_0 : wc.cell? ⟨gb206, 0, none⟩ = some (.int .u32 a1_0) := (blk_cell BK206.out 0).trans rfl
        have hcz42_1 : wc.cell? ⟨gb206, 1, none⟩ = some (.int .u32 a1_1) := (blk_cell BK206.out 1).trans rfl
        have hcz42_2 : wc.cell? ⟨gb206, 2, none⟩ = some (.int .u8 a1_2) := (blk_cell BK206.out 2).trans rfl
        have hcz42_3 : wc.cell? ⟨gb206, 3, none⟩ = some (.int .u16 a1_3) := (blk_cell BK206.out 3).trans rfl
        have hcz42_4 : wc.cell? ⟨gb206, 4, none⟩ = some (.int .u16 a1_4) := (blk_cell BK206.out 4).trans rfl
        have hfz42_0 := blk_frozen BK206.out 0
        have hfz42_1 := blk_frozen BK206.out 1
        have hfz42_2 := blk_frozen BK206.out 2
        have hfz42_3 := blk_frozen BK206.out 3
        have hfz42_4 := blk_frozen BK206.out 4
        go_wp2_with (first | ((with_reducible refine gate_callee (f := 96) rfl ?_); refine goesL_ (some 50) rfl rfl Tryd.func96 (by kernel_rfl) rfl #[.agg #[.int .u32 a0_0, .int .i64 a0_1], .int .u32 a1_0] rfl (by (try simp only [List.map_toArray, List.map_cons, List.map_nil]); first | done | rfl | (simp only [List.length_drop, List.length_take]; rfl)) ?_; (with_reducible refine (crossbuckref03_Has.calls kj12 a0_0 a0_1 a1_0 false _ A30.out).mono ?_); rintro e w43 ⟨rfl, hb⟩; refine ⟨_, rfl, ?_⟩; have n0_ := Aside0.mk (blk_below (g := gb205) (o := .cells #[.int .u32 a0_0, .int .i64 a0_1, .int .u32 a0_2, .int .i64 a0_3, .int .i64 a0_4, .int .u16 a0_5, .int .u16 a0_6, .int .u16 a0_7, .int .u16 a0_8] 77 (0, 0)) (by (with_reducible repeat (first | refine blk_drewN ?_ _ | refine blk_drew ?_ | refine blk_alloc ?_ _)); exact BK205.out) hb); have n1_ := Aside0.mk (blk_below (g := gb206) (o := .cells #[.int .u32 a1_0, .int .u32 a1_1, .int .u8 a1_2, .int .u16 a1_3, .int .u16 a1_4] 67 (0, 0)) (by (with_reducible repeat (first | refine blk_drewN ?_ _ | refine blk_drew ?_ | refine blk_alloc ?_ _)); exact BK206.out) hb); have n2_ := Aside0.mk (below_step (by repeat (first | (with_reducible first | exact HB.out | apply below_alloc | apply pw_below_drewN | apply below_drew1 | refine below_set ?_ GE205.out | refine below_set ?_ GE206.out) | exact HB.out)) hb); clear BK205; clear BK206; clear HB; have BK205 := n0_; have BK206 := n1_; have HB := n2_; clear n0_ n1_ n2_; (try clear hb); (try clear hb2); (try clear hk); (try clear hi)))
        go_ret
        exact ⟨by first | rfl | (simp [errW_none, errW_some] <;> rfl) | (simp [*, errW_none, errW_some] <;> rfl), by repeat (first | (with_reducible first | exact HB.out | apply below_alloc | apply pw_below_drewN | apply below_drew1 | refine below_set ?_ GE205.out | refine below_set ?_ GE206.out) | exact HB.out)⟩

end Go.Proofs.YtloclimoffhbhaaDoor.PFy

namespace Go.Proofs.YtloclimoffhbhaaDoor.PFy
open Go.RowKit Go.Proofs.YtloclimoffhbhaaDoorW.PrintWords Go.Proofs.YtloclimoffhbhaaDoorW.PrintLast Go.Proofs.YtloclimoffhbhaaDoorW.PrintMore
attribute [local go_sem] max2_int min2_int max_two min_two max_three min_three max_four min_four   -- for this text's walks alone
set_option linter.unusedVariables false
set_option linter.unusedSimpArgs false

/-! ### cidr_Within: function 116 -/
def cidr_Within.f (a0_0 : Int) (a0_1 : Int) (a1_0 : Int) (a1_1 : Int) : Option (Bool) := if a0_1 ≥ a1_1 then ((cidr_Has.f a1_0 a1_1 a0_0).bind fun t211 => (some t211)) else (some false)
set_option maxHeartbeats 8000000 in
set_option maxRecDepth 100000 in
theorem cidr_Within.calls (a0_0 : Int) (a0_1 : Int) (a1_0 : Int) (a1_1 : Int) (r : Bool) (w : World) (h : cidr_Within.f a0_0 a0_1 a1_0 a1_1 = some r) :
  Calls Tryd.prog 116 #[.agg #[.int .u32 a0_0, .int .i64 a0_1], .agg #[.int .u32 a1_0, .int .i64 a1_1]] w fun e w' => e = .returned (.bool r) ∧ Below w.heap.size w w' := by
 have hu42 := Tryd.underlying42
 have HB := Aside0.mk (Below.refl w.heap.size w)
 have H : (if a0_1 ≥ a1_1 then ((cidr_Has.f a1_0 a1_1 a0_0).bind fun t211 => (some t211)) else (some false)) = some r := h
 clear h
 by_cases c3 : a0_1 ≥ a1_1
 ·rw [if_pos c3] at H
  have c3b0 : decide (a1_1 ≤ a0_1) = true := decide_eq_true c3
  clear c3
  replace H := Option.bind_eq_some_iff.mp H
  obtain ⟨t211, A40, H⟩ := H
  replace H : (some t211) = some r := H
  have A4 := Aside0.mk A40
  clear A40
  obtain rfl := Option.some.inj H
  go_enter Tryd.func116, Tryd.ntmps116
  go_wp2_with (first | ((with_reducible refine gate_dst (N := 2) rfl ?_); refine box_event ?hg (N := 2) ?hd (cs := #[.int .u32 a0_0, .int .i64 a0_1]) (t := 42) ?hr ?_; (case hd => rfl); (case hg => rfl); (case hr => first | (go_simp; done) | (go_simp; rfl)); intro gb209 hg w5 hbox hb; have n0_ := Aside0.mk (below_step (by repeat (first | (with_reducible first | exact HB.out | apply below_alloc | apply pw_below_drewN | apply below_drew1) | exact HB.out)) hb); have n1_ := Aside0.mk (hbox); have n2_ := Aside0.mk ((by rw [hg]; exact (below_size (by repeat (first | (with_reducible first | exact HB.out | apply below_alloc | apply pw_below_drewN | apply below_drew1) | exact HB.out))) : w.heap.size ≤ gb209)); have n3_ := Aside0.mk ((by rw [hg]; exact (below_size (by repeat (first | (with_reducible first | exact HB.out | apply below_alloc | apply pw_below_drewN | apply below_drew1) | exact HB.out))) : w.heap.size ≤ gb209)); clear HB; have HB := n0_; have BK209 := n1_; have GW209 := n2_; have GE209 := n3_; clear n0_ n1_ n2_ n3_; clear hb hbox hg) | ((with_reducible refine gate_dst (N := 3) rfl ?_); refine box_event ?hg (N := 3) ?hd (cs := #[.int .u32 a1_0, .int .i64 a1_1]) (t := 42) ?hr ?_; (case hd => rfl); (case hg => rfl); (case hr => first | (go_simp; done) | (go_simp; rfl)); intro gb210 hg w6 hbox hb; have n0_ := Aside0.mk (blk_below (g := gb209) (o := .cells #[.int .u32 a0_0, .int .i64 a0_1] 42 (0, 0)) (by (with_reducible repeat (first | refine blk_drewN ?_ _ | refine blk_drew ?_ | refine blk_alloc ?_ _)); exact BK209.out) hb); have n1_ := Aside0.mk (below_step (by repeat (first | (with_reducible first | exact HB.out | apply below_alloc | apply pw_below_drewN | apply below_drew1 | refine below_set ?_ GE209.out) | exact HB.out)) hb); have n2_ := Aside0.mk (hbox); have n3_ := Aside0.mk ((by rw [hg]; exact (below_size (by repeat (first | (with_reducible first | exact HB.out | apply below_alloc | apply pw_below_drewN | apply below_drew1 | refine below_set ?_ GE209.out) | exact HB.out))) : w.heap.size ≤ gb210)); have n4_ := Aside0.mk ((by rw [hg]; exact (below_size (by repeat (first | (with_reducible first | exact HB.out | apply below_alloc | apply pw_below_drewN | apply below_drew1 | refine below_set ?_ GE209.out) | exact HB.out))) : w.heap.size ≤ gb210)); have n5_ := Aside0.mk ((by rw [hg]; exact Nat.ne_of_lt (blk_lt (g := gb209) (o := .cells #[.int .u32 a0_0, .int .i64 a0_1] 42 (0, 0)) (by (with_reducible repeat (first | refine blk_drewN ?_ _ | refine blk_drew ?_ | refine blk_alloc ?_ _)); exact BK209.out)) : gb209 ≠ gb210)); have n6_ := Aside0.mk ((by rw [hg]; exact Nat.ne_of_gt (blk_lt (g := gb209) (o := .cells #[.int .u32 a0_0, .int .i64 a0_1] 42 (0, 0)) (by (with_reducible repeat (first | refine blk_drewN ?_ _ | refine blk_drew ?_ | refine blk_alloc ?_ _)); exact BK209.out)) : gb210 ≠ gb209)); clear BK209; clear HB; have BK209 := n0_; have HB := n1_; have BK210 := n2_; have GW210 := n3_; have GE210 := n4_; have NB209_210 := n5_; have NB210_209 := n6_; clear n0_ n1_ n2_ n3_ n4_ n5_ n6_; clear hb hbox hg; have hnb7 := NB209_210.out; have hnc7 := NB210_209.out; have hcz8_0 : w6.cell? ⟨gb209, 0, none⟩ = some (.int .u32 a0_0) := (blk_cell BK209.out 0).trans rfl; have hcz8_1 : w6.cell? ⟨gb209, 1, none⟩ = some (.int .i64 a0_1) := (blk_cell BK209.out 1).trans rfl; have hfz8_0 := blk_frozen BK209.out 0; have hfz8_1 := blk_frozen BK209.out 1; have hcz9_0 : w6.cell? ⟨gb210, 0, none⟩ = some (.int .u32 a1_0) := (blk_cell BK210.out 0).trans rfl; have hcz9_1 : w6.cell? ⟨gb210, 1, none⟩ = some (.int .i64 a1_1) := (blk_cell BK210.out 1).trans rfl; have hfz9_0 := blk_frozen BK210.out 0; have hfz9_1 := blk_frozen BK210.out 1) | (go_at_call 94; (with_reducible refine (cidr_Has.calls a1_0 a1_1 a0_0 t211 _ A4.out).mono ?_); rintro e w10 ⟨rfl, hb⟩; have n0_ := Aside0.mk (blk_below (g := gb209) (o := .cells #[.int .u32 a0_0, .int .i64 a0_1] 42 (0, 0)) (by (with_reducible repeat (first | refine blk_drewN ?_ _ | refine blk_drew ?_ | refine blk_alloc ?_ _)); exact BK209.out) hb); have n1_ := Aside0.mk (blk_below (g := gb210) (o := .cells #[.int .u32 a1_0, .int .i64 a1_1] 42 (0, 0)) (by (with_reducible repeat (first | refine blk_drewN ?_ _ | refine blk_drew ?_ | refine blk_alloc ?_ _)); exact BK210.out) hb); have n2_ := Aside0.mk (below_step (by repeat (first | (with_reducible first | exact HB.out | apply below_alloc | apply pw_below_drewN | apply below_drew1 | refine below_set ?_ GE209.out | refine below_set ?_ GE210.out) | exact HB.out)) hb); clear BK209; clear BK210; clear HB; have BK209 := n0_; have BK210 := n1_; have HB := n2_; clear n0_ n1_ n2_; (try clear hb); (try clear hb2); (try clear hk); (try clear hi)))
  go_ret
  exact ⟨by first | rfl | (simp [errW_none, errW_some] <;> rfl) | (simp [*, errW_none, errW_some] <;> rfl), by repeat (first | (with_reducible first | exact HB.out | apply below_alloc | apply pw_below_drewN | apply below_drew1 | refine below_set ?_ GE209.out | refine below_set ?_ GE210.out) | exact HB.out)⟩
 ·rw [if_neg c3] at H
  have c3b0 : decide (a1_1 ≤ a0_1) = false := decide_eq_false c3
  clear c3
  obtain rfl := Option.some.inj H
  go_enter Tryd.func116, Tryd.ntmps116
  go_wp2_with (first | ((with_reducible refine gate_dst (N := 2) rfl ?_); refine box_event ?hg (N := 2) ?hd (cs := #[.int .u32 a0_0, .int .i64 a0_1]) (t := 42) ?hr ?_; (case hd => rfl); (case hg => rfl); (case hr => first | (go_simp; done) | (go_simp; rfl)); intro gb209 hg w11 hbox hb; have n0_ := Aside0.mk (below_step (by repeat (first | (with_reducible first | exact HB.out | apply below_alloc | apply pw_below_drewN | apply below_drew1) | exact HB.out)) hb); have n1_ := Aside0.mk (hbox); have n2_ := Aside0.mk ((by rw [hg]; exact (below_size (by repeat (first | (with_reducible first | exact HB.out | apply below_alloc | apply pw_below_drewN | apply below_drew1) | exact HB.out))) : w.heap.size ≤ gb209)); have n3_ := Aside0.mk ((by rw [hg]; exact (below_size (by repeat (first | (with_reducible first | exact HB.out | apply below_alloc | apply pw_below_drewN | apply below_drew1) | exact HB.out))) : w.heap.size ≤ gb209)); clear HB; have HB := n0_; have BK209 := n1_; have GW209 := n2_; have GE209 := n3_; clear n0_ n1_ n2_ n3_; clear hb hbox hg) | ((with_reducible refine gate_dst (N := 3) rfl ?_); refine box_event ?hg (N := 3) ?hd (cs := #[.int .u32 a1_0, .int .i64 a1_1]) (t := 42) ?hr ?_; (case hd => rfl); (case hg => rfl); (case hr => first | (go_simp; done) | (go_simp; rfl)); intro gb210 hg w12 hbox hb; have n0_ := Aside0.mk (blk_below (g := gb209) (o := .cells #[.int .u32 a0_0, .int .i64 a0_1] 42 (0, 0)) (by (with_reducible repeat (first | refine blk_drewN ?_ _ | refine blk_drew ?_ | refine blk_alloc ?_ _)); exact BK209.out) hb); have n1_ := Aside0.mk (below_step (by repeat (first | (with_reducible first | exact HB.out | apply below_alloc | apply pw_below_drewN | apply below_drew1 | refine below_set ?_ GE209.out) | exact HB.out)) hb); have n2_ := Aside0.mk (hbox); have n3_ := Aside0.mk ((by rw [hg]; exact (below_size (by repeat (first | (with_reducible first | exact HB.out | apply below_alloc | apply pw_below_drewN | apply below_drew1 | refine below_set ?_ GE209.out) | exact HB.out))) : w.heap.size ≤ gb210)); have n4_ := Aside0.mk ((by rw [hg]; exact (below_size (by repeat (first | (with_reducible first | exact HB.out | apply below_alloc | apply pw_below_drewN | apply below_drew1 | refine below_set ?_ GE209.out) | exact HB.out))) : w.heap.size ≤ gb210)); have n5_ := Aside0.mk ((by rw [hg]; exact Nat.ne_of_lt (blk_lt (g := gb209) (o := .cells #[.int .u32 a0_0, .int .i64 a0_1] 42 (0, 0)) (by (with_reducible repeat (first | refine blk_drewN ?_ _ | refine blk_drew ?_ | refine blk_alloc ?_ _)); exact BK209.out)) : gb209 ≠ gb210)); have n6_ := Aside0.mk ((by rw [hg]; exact Nat.ne_of_gt (blk_lt (g := gb209) (o := .cells #[.int .u32 a0_0, .int .i64 a0_1] 42 (0, 0)) (by (with_reducible repeat (first | refine blk_drewN ?_ _ | refine blk_drew ?_ | refine blk_alloc ?_ _)); exact BK209.out)) : gb210 ≠ gb209)); clear BK209; clear HB; have BK209 := n0_; have HB := n1_; have BK210 := n2_; have GW210 := n3_; have GE210 := n4_; have NB209_210 := n5_; have NB210_209 := n6_; clear n0_ n1_ n2_ n3_ n4_ n5_ n6_; clear hb hbox hg; have hnb13 := NB209_210.out; have hnc13 := NB210_209.out; have hcz14_0 : w12.cell? ⟨gb209, 0, none⟩ = some (.int .u32 a0_0) := (blk_cell BK209.out 0).trans rfl; have hcz14_1 : w12.cell? ⟨gb209, 1, none⟩ = some (.int .i64 a0_1) := (blk_cell BK209.out 1).trans rfl; have hfz14_0 := blk_frozen BK209.out 0; have hfz14_1 := blk_frozen BK209.out 1; have hcz15_0 : w12.cell? ⟨gb210, 0, none⟩ = some (.int .u32 a1_0) := (blk_cell BK210.out 0).trans rfl; have hcz15_1 : w12.cell? ⟨gb210, 1, none⟩ = some (.int .i64 a1_1) := (blk_cell BK210.out 1).trans rfl; have hfz15_0 := blk_frozen BK210.out 0; have hfz15_1 := blk_frozen BK210.out 1))
  go_ret
  exact ⟨by first | rfl | (simp [errW_none, errW_some] <;> rfl) | (simp [*, errW_none, errW_some] <;> rfl), by repeat (first | (with_reducible first | exact HB.out | apply below_alloc | apply pw_below_drewN | apply below_drew1 | refine below_set ?_ GE209.out | refine below_set ?_ GE210.out) | exact HB.out)⟩

end Go.Proofs.YtloclimoffhbhaaDoor.PFy
