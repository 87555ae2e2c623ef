/- The example that the laws of counts ask. No condition of its own. -/
import Derived.Test.YthifgehpiodkcaaWMore
import Derived.Test.YthifgehpiodkcaaPWTx12
namespace Go.Proofs.Ythifgehpiodkcaa.Wide
open Go Go.RowKit Go.Proofs.Ythifgehpiodkcaa.PWT Go.Proofs.YthifgehpiodkcaaW.PrintWords Go.Proofs.YthifgehpiodkcaaW.PrintLast Go.Proofs.YthifgehpiodkcaaW.PrintMore
set_option linter.unusedVariables false

theorem awake01_at : crossbucklaw01_awake.f 60 = some true := by
  have h1 : wide_Pow.f 60 104 = some (1099511627776, 0) := by decide +kernel
  have h2 : wide_Count_Print.f 60 1099511627776 0 = some ⟨#[50, 48, 50, 56, 50, 52, 48, 57, 54, 48, 51, 54, 53, 49, 54, 55, 48, 52, 50, 51, 57, 52, 55, 50, 53, 49, 50, 56, 54, 48, 49, 54]⟩ := by decide +kernel
  unfold crossbucklaw01_awake.f
  rw [h1, Option.bind_some, h2, Option.bind_some, ByteArray.toList_eq]
  rfl
theorem awake01 {k : Nat} (h : 60 ≤ k) : crossbucklaw01_awake.f k = some true := by
  obtain ⟨d, rfl⟩ : ∃ d, k = 60 + d := ⟨k - 60, by omega⟩
  induction d with
  | zero => exact awake01_at
  | succ d ih => exact crossbucklaw01_awake.mono _ _ (ih (by omega))
end Go.Proofs.Ythifgehpiodkcaa.Wide
