/- Plain facts on prefixes: the document's own Has, in numbers. No condition of its own. -/
import Derived.Test.YtbmibakhpealjaaFactsRt
import Derived.Test.YtbmibakhpealjaaPTrx35
namespace Go.Proofs.Ytbmibakhpealjaa.Facts
open Go Go.RowKit Go.Proofs.Ytbmibakhpealjaa.PTr Go.Proofs.YtbmibakhpealjaaW.PrintWords Go.Proofs.YtbmibakhpealjaaW.PrintLast Go.Proofs.YtbmibakhpealjaaW.PrintMore Go.Proofs.Ytbmibakhpealjaa.Bits

theorem refHas_eq {k : Nat} {a b x : Int} (hk : 33 ≤ k) (hb0 : 0 ≤ b) (hb1 : b ≤ 32) (h0 : 0 ≤ a) (h1 : a < 4294967296) (g0 : 0 ≤ x) (g1 : x < 4294967296) :
    crossbuckref03_Has.f k a b x = some (hasB a b x) := by
  unfold crossbuckref03_Has.f hasB
  have hs := sz_pos b
  have d1 := div_bd h0 hs
  have d2 := div_bd g0 hs
  rw [size_eq hk hb0 hb1]
  simp only [Option.bind_some]
  rw [if_neg (by omega), if_neg (by omega), wrap_u64_id a (by omega) (by omega), wrap_u64_id x (by omega) (by omega), tdiv_nonneg' h0, tdiv_nonneg' g0, wrap_u64_id _ (by omega) (by omega), wrap_u64_id _ (by omega) (by omega)]

theorem hasB_iff {a b x : Int} : hasB a b x = true ↔ x / sz b = a / sz b := by unfold hasB; simp
end Go.Proofs.Ytbmibakhpealjaa.Facts
