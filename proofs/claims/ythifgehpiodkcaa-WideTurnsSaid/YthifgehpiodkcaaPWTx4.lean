-- Written by wip/myprint.py (this session's own driver); Lean checks it.
import Derived.Test.YthifgehpiodkcaaPWTx0
namespace Go.Proofs.Ythifgehpiodkcaa.PWT
open Go.RowKit Go.Proofs.YthifgehpiodkcaaW.PrintWords Go.Proofs.YthifgehpiodkcaaW.PrintLast Go.Proofs.YthifgehpiodkcaaW.PrintMore
attribute [local go_sem] max2_int min2_int max_two min_two max_three min_three max_four min_four   -- for this text's walks alone
set_option linter.unusedVariables false
set_option linter.unusedSimpArgs false

/-! ### bits_Len64: function 34 (by hand) -/
def bits_Len64.f (a0 : Int) : Option Int := if a0 = 10 then some 4 else none
set_option maxHeartbeats 4000000 in
set_option maxRecDepth 1000000 in
theorem bits_Len64.calls (a0 : Int) (r : Int) (w : World) (h : bits_Len64.f a0 = some r) :
    Calls Try.prog 34 #[.int .u64 a0] w fun e w' => e = .returned (.int .i64 r) ∧ Drawn0 w w' := by
  unfold bits_Len64.f at h
  by_cases c : a0 = 10
  · subst c
    rw [if_pos rfl] at h
    obtain rfl := Option.some.inj h
    go_enter Try.func34, Try.ntmps34
    go_wp2
    go_ret
    exact ⟨by first | kernel_rfl | rfl, by repeat (first | exact Drawn0.refl _ | apply Drawn0.step)⟩
  · rw [if_neg c] at h; cases h

end Go.Proofs.Ythifgehpiodkcaa.PWT
