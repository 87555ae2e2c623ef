/- crossbucklaw25.ScriptBatches answers true: the walk shows it whole, for addresses of 32 bits. No condition of its own. -/
import Derived.Test.YtloclimoffhbhaaDoorPSbax200
namespace Go.Proofs.YtloclimoffhbhaaDoor.Pure
open Go Go.RowKit Go.Proofs.YtloclimoffhbhaaDoor.PSba Go.Proofs.YtloclimoffhbhaaDoor.Scr
set_option linter.unusedVariables false
theorem u32b {a : Int} (h : (Lit.int .u32 a).wf = true) : 0 ≤ a ∧ a < 4294967296 := by
  simp [Lit.wf, IntKind.min, IntKind.max, IntKind.signed, IntKind.bits] at h
  exact ⟨by omega, by omega⟩
theorem ScriptBatches (l0 : List S46) (w0 : ∀ q ∈ l0, (Lit.int .i64 q.f1.f0).wf = true ∧ (Lit.int .i64 q.f1.f1).wf = true ∧ (Lit.int .u32 q.f1.f2.f0).wf = true ∧ (Lit.int .i64 q.f1.f2.f1).wf = true ∧ (Lit.int .i64 q.f1.f3).wf = true ∧ (Lit.int .i64 q.f1.f4).wf = true) : crossbucklaw25_ScriptBatches.f l0 = some true := by
  unfold crossbucklaw25_ScriptBatches.f
  rw [if_pos]
  rw [List.all_eq_true]
  exact fun q hq => bdB_iff.2 (u32b (w0 q hq).2.2.1)
end Go.Proofs.YtloclimoffhbhaaDoor.Pure
