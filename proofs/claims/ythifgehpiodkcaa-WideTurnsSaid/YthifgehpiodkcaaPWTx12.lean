-- Written by wip/myprint.py (this session's own driver); Lean checks it.
import Derived.Test.YthifgehpiodkcaaPWTx0
import Derived.Test.YthifgehpiodkcaaPWTx8
import Derived.Test.YthifgehpiodkcaaPWTx11
namespace Go.Proofs.Ythifgehpiodkcaa.PWT
open Go.RowKit Go.Proofs.YthifgehpiodkcaaW.PrintWords Go.Proofs.YthifgehpiodkcaaW.PrintLast Go.Proofs.YthifgehpiodkcaaW.PrintMore
attribute [local go_sem] max2_int min2_int max_two min_two max_three min_three max_four min_four   -- for this text's walks alone
set_option linter.unusedVariables false
set_option linter.unusedSimpArgs false

/-! ### crossbucklaw01_awake: function 11 -/
def crossbucklaw01_awake.f (k : Nat)  : Option (Bool) := (wide_Pow.f k 104).bind fun bt118 => ((wide_Count_Print.f k bt118.1 bt118.2).bind fun t120 => (some (t120.toList == ([50, 48, 50, 56, 50, 52, 48, 57, 54, 48, 51, 54, 53, 49, 54, 55, 48, 52, 50, 51, 57, 52, 55, 50, 53, 49, 50, 56, 54, 48, 49, 54] : List UInt8))))
theorem crossbucklaw01_awake.mono : ∀ k, LeO (crossbucklaw01_awake.f k ) (crossbucklaw01_awake.f (k + 1) ) := by
  intro  k
  unfold crossbucklaw01_awake.f
  repeat' first
      | (with_reducible exact wide_Count_Print.mono _ _ _)
      | (with_reducible exact wide_Pow.mono _ _)
      | (with_reducible exact LeO.refl _)
      | (with_reducible exact LeO.none _)
      | (with_reducible refine LeO.ite ?_ ?_)
      | (with_reducible refine LeO.bind ?_ (fun _ => ?_))
      | exact wide_Count_Print.mono _ _ _
      | exact wide_Pow.mono _ _
      | exact LeO.none _
      | refine LeO.ite ?_ ?_
      | refine LeO.bind ?_ (fun _ => ?_)
set_option maxHeartbeats 8000000 in
set_option maxRecDepth 100000 in
theorem crossbucklaw01_awake.calls (k : Nat)  (r : Bool) (w : World) (h : crossbucklaw01_awake.f k  = some r) :
    Calls Try.prog 11 #[] w fun e w' => e = .returned (.bool r) ∧ Below w.heap.size w w' := by
  have HB := Aside0.mk (Below.refl w.heap.size w)
  have H : ((wide_Pow.f k 104).bind fun bt118 => ((wide_Count_Print.f k bt118.1 bt118.2).bind fun t120 => (some (t120.toList == ([50, 48, 50, 56, 50, 52, 48, 57, 54, 48, 51, 54, 53, 49, 54, 55, 48, 52, 50, 51, 57, 52, 55, 50, 53, 49, 50, 56, 54, 48, 49, 54] : List UInt8))))) = some r := h
  clear h
  replace H := Option.bind_eq_some_iff.mp H
  obtain ⟨⟨t118, t119⟩, A10, H⟩ := H
  replace H : ((wide_Count_Print.f k t118 t119).bind fun t120 => (some (t120.toList == ([50, 48, 50, 56, 50, 52, 48, 57, 54, 48, 51, 54, 53, 49, 54, 55, 48, 52, 50, 51, 57, 52, 55, 50, 53, 49, 50, 56, 54, 48, 49, 54] : List UInt8)))) = some r := H
  have A1 := Aside0.mk A10
  clear A10
  replace H := Option.bind_eq_some_iff.mp H
  obtain ⟨t120, A20, H⟩ := H
  replace H : (some (t120.toList == ([50, 48, 50, 56, 50, 52, 48, 57, 54, 48, 51, 54, 53, 49, 54, 55, 48, 52, 50, 51, 57, 52, 55, 50, 53, 49, 50, 56, 54, 48, 49, 54] : List UInt8))) = some r := H
  have A2 := Aside0.mk A20
  clear A20
  obtain rfl := Option.some.inj H
  go_enter Try.func11, Try.ntmps11
  go_wp2_with (first | ((with_reducible refine gate_callee (f := 21) rfl ?_); refine goesL_ (some 1) rfl rfl Try.func21 (by kernel_rfl) rfl #[.int .i64 104] rfl (by (try simp only [List.map_toArray, List.map_cons, List.map_nil]); first | done | rfl | (simp only [List.length_drop, List.length_take]; rfl)) ?_; (with_reducible refine (wide_Pow.calls k 104 t118 t119 _ A1.out).mono ?_); rintro e w3 ⟨rfl, hb⟩; refine ⟨_, rfl, ?_⟩; have n0_ := Aside0.mk (below_step (by repeat (first | (with_reducible first | exact HB.out | apply below_alloc | apply pw_below_drewN | apply below_drew1) | exact HB.out)) hb); clear HB; have HB := n0_; clear n0_; (try clear hb); (try clear hb2); (try clear hk); (try clear hi)) | ((with_reducible refine gate_callee (f := 9) rfl ?_); refine goesL_ (some 2) rfl rfl Try.func9 (by kernel_rfl) rfl #[.agg #[.int .u64 t118, .int .u64 t119]] rfl (by (try simp only [List.map_toArray, List.map_cons, List.map_nil]); first | done | rfl | (simp only [List.length_drop, List.length_take]; rfl)) ?_; (with_reducible refine (wide_Count_Print.calls k t118 t119 t120 _ A2.out).mono ?_); rintro e w4 ⟨rfl, hb⟩; refine ⟨_, rfl, ?_⟩; have n0_ := Aside0.mk (below_step (by repeat (first | (with_reducible first | exact HB.out | apply below_alloc | apply pw_below_drewN | apply below_drew1) | exact HB.out)) hb); clear HB; have HB := n0_; clear n0_; (try clear hb); (try clear hb2); (try clear hk); (try clear hi)))
  go_ret
  exact ⟨by first | rfl | (simp [errW_none, errW_some] <;> rfl) | (simp [*, errW_none, errW_some] <;> rfl), by repeat (first | (with_reducible first | exact HB.out | apply below_alloc | apply pw_below_drewN | apply below_drew1) | exact HB.out)⟩

end Go.Proofs.Ythifgehpiodkcaa.PWT
