/- Plain facts on prefixes: the document's own Has, in numbers. No condition of its own. -/
import Derived.Test.YtloclimoffhbhaaDoorFactsRt
namespace Go.Proofs.YtloclimoffhbhaaDoor.Facts
open Go Go.RowKit Go.Proofs.YtloclimoffhbhaaDoor.PFq Go.Proofs.YtloclimoffhbhaaDoorW.PrintWords Go.Proofs.YtloclimoffhbhaaDoorW.PrintLast Go.Proofs.YtloclimoffhbhaaDoorW.PrintMore Go.Proofs.YtloclimoffhbhaaDoor.Bits


theorem hasB_iff {a b x : Int} : hasB a b x = true ↔ x / sz b = a / sz b := by unfold hasB; simp
end Go.Proofs.YtloclimoffhbhaaDoor.Facts
