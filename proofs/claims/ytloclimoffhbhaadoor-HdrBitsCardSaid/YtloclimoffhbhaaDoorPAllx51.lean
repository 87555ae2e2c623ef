-- Written by wip/myprint.py (this session's own driver); Lean checks it.
import Derived.Test.YtloclimoffhbhaaDoorPAllx0
namespace Go.Proofs.YtloclimoffhbhaaDoor.PAll
open Go.RowKit Go.Proofs.YtloclimoffhbhaaDoorW.PrintWords Go.Proofs.YtloclimoffhbhaaDoorW.PrintLast Go.Proofs.YtloclimoffhbhaaDoorW.PrintMore
attribute [local go_sem] max2_int min2_int max_two min_two max_three min_three max_four min_four   -- for this text's walks alone
set_option linter.unusedVariables false
set_option linter.unusedSimpArgs false

/-! ### strings_Join: function 77 (by hand) -/
def strings_Join.f (l0 : List ByteArray) (a1 : ByteArray) : Option ByteArray := if (Lib.join (l0.map (·.data.toList)) a1.data.toList).length ≤ 140737488355328 ∧ l0.length ≤ 140737488355328 then some ⟨(Lib.join (l0.map (·.data.toList)) a1.data.toList).toArray⟩ else none
theorem strings_Join.calls (A0 : Option Addr) (c0 : Nat) (l0 : List ByteArray) (a1 : ByteArray) (r : ByteArray) (w : World) (hr0 : Kd.C Kd.string w A0 l0.length l0) (hc0 : l0.length ≤ c0) (h : strings_Join.f l0 a1 = some r) :
    Calls Tryd.prog 77 #[.slice A0 l0.length c0, .string a1] w fun e w' => e = .returned (.string r) ∧ Below w.heap.size w w' := by
  unfold strings_Join.f at h
  by_cases c : (Lib.join (l0.map (·.data.toList)) a1.data.toList).length ≤ 140737488355328 ∧ l0.length ≤ 140737488355328
  · rw [if_pos c] at h
    obtain rfl := Option.some.inj h
    exact Hand.join_calls A0 c0 l0 a1 w hr0 hc0 c.1 c.2
  · rw [if_neg c] at h; cases h

end Go.Proofs.YtloclimoffhbhaaDoor.PAll
