/- crossbucklaw18.VersionPlays answers true: the walk shows it whole. No condition of its own. -/
import Derived.Test.YtdemogdagemagaaPVcx4
namespace Go.Proofs.Ytdemogdagemagaa.Pure
open Go Go.RowKit Go.Proofs.Ytdemogdagemagaa.PVc
set_option linter.unusedVariables false
theorem VersionPlays {P Q R : Prop} (l0 : List S63) (a1 : Int) (l2 : List Int) (w0 : P) (w1 : Q) (w2 : R) : crossbucklaw18_VersionPlays.f l0 a1 l2 = some true := rfl
end Go.Proofs.Ytdemogdagemagaa.Pure
