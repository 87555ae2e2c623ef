-- Walks by hand.
-- halved
import Derived.Test.YtloclimoffhbhaaDoorSq6
import Derived.Test.YtloclimoffhbhaaDoorPStox0
import Derived.Test.YtloclimoffhbhaaDoorPStox1
import Derived.Test.YtloclimoffhbhaaDoorPStox2
import Derived.Test.YtloclimoffhbhaaDoorPStox3
import Derived.Test.YtloclimoffhbhaaDoorPStox4
import Derived.Test.YtloclimoffhbhaaDoorPStox5
import Derived.Test.YtloclimoffhbhaaDoorPStox6
import Derived.Test.YtloclimoffhbhaaDoorPStox7
import Derived.Test.YtloclimoffhbhaaDoorPStox8
import Derived.Test.YtloclimoffhbhaaDoorPStox9
import Derived.Test.YtloclimoffhbhaaDoorPStox10
import Derived.Test.YtloclimoffhbhaaDoorPStox11
import Derived.Test.YtloclimoffhbhaaDoorPStox12
import Derived.Test.YtloclimoffhbhaaDoorPStox13
import Derived.Test.YtloclimoffhbhaaDoorPStox14
import Derived.Test.YtloclimoffhbhaaDoorPStox15
import Derived.Test.YtloclimoffhbhaaDoorPStox16
import Derived.Test.YtloclimoffhbhaaDoorBlk
import Derived.Test.YtloclimoffhbhaaDoorSemi
import Derived.Test.YtloclimoffhbhaaDoorFlt
import Derived.Test.YtloclimoffhbhaaDoorQry
import Derived.Test.YtloclimoffhbhaaDoorAll
import Derived.Test.YtloclimoffhbhaaDoorLines
namespace Go.Proofs.YtloclimoffhbhaaDoor.PSto
open Go.RowKit Go.Proofs.YtloclimoffhbhaaDoorW.PrintWords Go.Proofs.YtloclimoffhbhaaDoorW.PrintLast Go.Proofs.YtloclimoffhbhaaDoorW.PrintMore Go.Proofs.YtloclimoffhbhaaDoorW.PrintSq
attribute [local go_sem] max2_int min2_int max_two min_two max_three min_three max_four min_four   -- for this text's walks alone
set_option linter.unusedVariables false
set_option linter.unusedSimpArgs false

open Go.Proofs.YtloclimoffhbhaaDoor.Scr Go.Proofs.YtloclimoffhbhaaDoor.Facts Go.Proofs.YtloclimoffhbhaaDoor.Bits
open Go.Proofs.YtloclimoffhbhaaDoor.Scr Go.Proofs.YtloclimoffhbhaaDoor.Facts Go.Proofs.YtloclimoffhbhaaDoor.Bits
/-- A block of texts, as a list that may grow. -/
theorem R_texts {w : World} {g base t : Nat} {xs : List ByteArray} (hb : w.heap[g]? = some (.cells (xs.map Value.string).toArray t (0, 0))) (hg : base ≤ g) (hl : xs.length ≤ 1000) (hp : 0 < xs.length) : Kd.R Kd.string t w base (fun _ => True) (.slice (some ⟨g, 0, none⟩) xs.length xs.length) xs := by
 refine Kd.R_of_own (enc := Value.string) (h1 := fun _ => rfl) ?_ (fun _ _ => trivial)
 refine ⟨by rw [encs_length, Nat.mul_one], .inr ⟨g, xs.length, (xs.map Value.string).toArray, rfl, hg, hb, Nat.le_refl _, by unfold maxLen; omega, by simp, ?_⟩⟩
 rw [Nat.mul_one]
 simp only [encs]
 exact List.take_of_length_le (by simp)
/-- The words of queries, as the program's table holds them. -/
def kindW : Nat → List UInt8
 | 0 => [114, 101, 97, 99, 104]
 | 1 => [108, 111, 111, 112]
 | 2 => [104, 111, 108, 101]
 | 3 => [100, 114, 111, 112]
 | 4 => [100, 101, 110, 105, 101, 100]
 | _ => [108, 101, 102, 116]
def Kinds (w : World) : Prop := ∀ i : Nat, i < 6 → w.cell? ⟨0, i, none⟩ = some (.string ⟨(kindW i).toArray⟩)
theorem Kinds.below {w w' : World} (h : Kinds w) (hb : Below w.heap.size w w') : Kinds w' := fun i hi => pw_cell_below hb (h i hi)
open Go.Proofs.YtloclimoffhbhaaDoor.Scr Go.Proofs.YtloclimoffhbhaaDoor.Facts Go.Proofs.YtloclimoffhbhaaDoor.Bits
theorem toList_inj {a b : ByteArray} (h : a.toList = b.toList) : a = b := by rw [ByteArray.toList_eq, ByteArray.toList_eq] at h; cases a; cases b; congr; exact Array.toList_inj.1 h
end Go.Proofs.YtloclimoffhbhaaDoor.PSto
