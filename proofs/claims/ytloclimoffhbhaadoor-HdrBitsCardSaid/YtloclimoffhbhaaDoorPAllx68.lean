-- Written by wip/myprint.py (this session's own driver); Lean checks it.
import Derived.Test.YtloclimoffhbhaaDoorPAllx0
namespace Go.Proofs.YtloclimoffhbhaaDoor.PAll
open Go.RowKit Go.Proofs.YtloclimoffhbhaaDoorW.PrintWords Go.Proofs.YtloclimoffhbhaaDoorW.PrintLast Go.Proofs.YtloclimoffhbhaaDoorW.PrintMore
attribute [local go_sem] max2_int min2_int max_two min_two max_three min_three max_four min_four   -- for this text's walks alone
set_option linter.unusedVariables false
set_option linter.unusedSimpArgs false

/-! ### strconv_Itoa_76: function 76 (by hand) -/
def strconv_Itoa_76.f (a0 : Int) : Option ByteArray := if -9223372036854775808 ≤ a0 ∧ a0 ≤ 9223372036854775807 then some ⟨(Lib.itoa a0).toArray⟩ else none
theorem strconv_Itoa_76.calls (a0 : Int) (r : ByteArray) (w : World) (hG : Hand.Good false true w) (h : strconv_Itoa_76.f a0 = some r) :
    Calls Tryd.prog 76 #[.int .i64 a0] w fun e w' => e = .returned (.string r) ∧ Below w.heap.size w w' := by
  unfold strconv_Itoa_76.f at h
  by_cases c : -9223372036854775808 ≤ a0 ∧ a0 ≤ 9223372036854775807
  · rw [if_pos c] at h
    obtain rfl := Option.some.inj h
    exact Hand.itoa_calls a0 w hG c.1 c.2
  · rw [if_neg c] at h; cases h

end Go.Proofs.YtloclimoffhbhaaDoor.PAll
