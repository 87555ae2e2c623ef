/- crossbucklaw18.VersionNil answers true: the walk shows it whole. No condition of its own. -/
import Derived.Test.YtdemogdagemagaaPVcx1
namespace Go.Proofs.Ytdemogdagemagaa.Pure
open Go Go.RowKit Go.Proofs.Ytdemogdagemagaa.PVc
set_option linter.unusedVariables false
theorem VersionNil (a0 : Int) (a1 : ByteArray) (w0 : (Lit.int .i64 a0).wf = true) (w1 : a1.size ≤ 140737488351232) : crossbucklaw18_VersionNil.f a0 a1 = some true := rfl
end Go.Proofs.Ytdemogdagemagaa.Pure
