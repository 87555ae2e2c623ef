/- crossbucklaw25.ScriptReads answers true: the walk shows it whole. No condition of its own. -/
import Derived.Test.YtloclimoffhbhaaDoorPSrex202
namespace Go.Proofs.YtloclimoffhbhaaDoor.Pure
open Go Go.RowKit Go.Proofs.YtloclimoffhbhaaDoor.PSre Go.Proofs.YtloclimoffhbhaaDoor.Scr
set_option linter.unusedVariables false
theorem ScriptReads (a0 : ByteArray) (w0 : a0.size ≤ 140737488351232) : crossbucklaw25_ScriptReads.f a0 = some true := by
  unfold crossbucklaw25_ScriptReads.f
  rw [if_pos (by omega)]
end Go.Proofs.YtloclimoffhbhaaDoor.Pure
