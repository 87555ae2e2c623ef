/- crossbucklaw18.VersionHolds answers true: the walk shows it whole, for bytes. No condition of its own. -/
import Derived.Test.YtdemogdagemagaaPVcx4
namespace Go.Proofs.Ytdemogdagemagaa.Pure
open Go Go.RowKit Go.Proofs.Ytdemogdagemagaa.PVc
set_option linter.unusedVariables false
theorem VersionHolds (l0 : List Int) (w0 : ∀ p ∈ l0, (Lit.int .u8 p).wf = true) : crossbucklaw18_VersionHolds.f l0 = some true := by
  unfold crossbucklaw18_VersionHolds.f
  rw [if_pos]
  intro g hg
  have := w0 g hg
  simp [Lit.wf] at this
  have e1 : IntKind.u8.min = 0 := rfl
  have e2 : IntKind.u8.max = 255 := rfl
  rw [e1, e2] at this
  omega
end Go.Proofs.Ytdemogdagemagaa.Pure
