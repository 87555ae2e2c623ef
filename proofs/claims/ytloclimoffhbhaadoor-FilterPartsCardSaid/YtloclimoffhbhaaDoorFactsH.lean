/- Plain facts: cidr.Has in numbers. No condition of its own. -/
import Derived.Test.YtloclimoffhbhaaDoorFactsRh
import Derived.Test.YtloclimoffhbhaaDoorPFqx0
namespace Go.Proofs.YtloclimoffhbhaaDoor.Facts
open Go Go.RowKit Go.Proofs.YtloclimoffhbhaaDoor.PFq Go.Proofs.YtloclimoffhbhaaDoorW.PrintWords Go.Proofs.YtloclimoffhbhaaDoorW.PrintLast Go.Proofs.YtloclimoffhbhaaDoorW.PrintMore Go.Proofs.YtloclimoffhbhaaDoor.Bits

theorem has_eq {a b x : Int} (hb0 : 0 ≤ b) (hb1 : b ≤ 32) (h0 : 0 ≤ a) (h1 : a < 4294967296) (g0 : 0 ≤ x) (g1 : x < 4294967296) : cidr_Has.f a b x = some (hasB a b x) := by
  unfold cidr_Has.f hasB
  rw [mask_eq hb0 hb1]
  simp only [Option.bind_some]
  unfold sz
  rw [xor_hi x a _ g0 g1 h0 h1 (by omega)]
end Go.Proofs.YtloclimoffhbhaaDoor.Facts
