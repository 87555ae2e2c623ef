/- Any text, read: numbers, prefixes, ranges, filters, rules, changes; what was read stands there. No condition of its own. -/
import Derived.Test.YtloclimoffhbhaaDoorBackS
import Derived.Test.YtloclimoffhbhaaDoorQry
import Derived.Lib.IndexMore
import Derived.Test.YtloclimoffhbhaaDoorPStox0
import Derived.Test.YtloclimoffhbhaaDoorPStox1
import Derived.Test.YtloclimoffhbhaaDoorPStox2
import Derived.Test.YtloclimoffhbhaaDoorPStox3
import Derived.Test.YtloclimoffhbhaaDoorPStox4
import Derived.Test.YtloclimoffhbhaaDoorPStox5
namespace Go.Proofs.YtloclimoffhbhaaDoor.Scr
open Go Go.RowKit Go.Proofs.YtloclimoffhbhaaDoor.PSto Go.Proofs.YtloclimoffhbhaaDoorW.PrintWords Go.Proofs.YtloclimoffhbhaaDoorW.PrintLast Go.Proofs.YtloclimoffhbhaaDoorW.PrintMore Go.Proofs.YtloclimoffhbhaaDoor.Bits Go.Proofs.YtloclimoffhbhaaDoor.Facts
set_option linter.unusedVariables false
set_option linter.unusedSimpArgs false
theorem Ev.at {α : Type} {g : Nat → Option α} {r : α} (n : Nat) (h : Ev g r) : ∃ K, g (K + n) = some r := by
  obtain ⟨K, h⟩ := h
  exact ⟨K, h _ (Nat.le_add_right _ _)⟩
end Go.Proofs.YtloclimoffhbhaaDoor.Scr
