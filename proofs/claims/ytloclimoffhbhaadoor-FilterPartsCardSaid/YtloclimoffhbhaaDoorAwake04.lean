/- A filter's five words read; the example that the laws of filters ask. No condition of its own. -/
import Derived.Test.YtloclimoffhbhaaDoorWMore
import Derived.Test.YtloclimoffhbhaaDoorPFqx3
import Derived.Test.YtloclimoffhbhaaDoorPFqx4
namespace Go.Proofs.YtloclimoffhbhaaDoor.Pure
open Go Go.RowKit Go.Proofs.YtloclimoffhbhaaDoor.PFq Go.Proofs.YtloclimoffhbhaaDoorW.PrintWords Go.Proofs.YtloclimoffhbhaaDoorW.PrintLast Go.Proofs.YtloclimoffhbhaaDoorW.PrintMore
set_option linter.unusedVariables false

/-- What is read of the two ranges, and which of the five is wrong first. -/
def fiveEnd (w3 w4 : ByteArray) (x0 x1 : Int × Int × Int) (n : Int × Int) : Option (Int × Int × Int × Int × Int × Int × Int × Int × Int × Int) :=
  (cidr_ParseRange.f w3).bind fun y => (cidr_ParseRange.f w4).bind fun z =>
    if x0.2.2 = 0 then (if x1.2.2 = 0 then (if n.2 = 0 then (if y.2.2 = 0 then (if z.2.2 = 0 then some (x0.1, x0.2.1, x1.1, x1.2.1, n.1, y.1, y.2.1, z.1, z.2.1, 0) else some (0, 0, 0, 0, 0, 0, 0, 0, 0, z.2.2)) else some (0, 0, 0, 0, 0, 0, 0, 0, 0, y.2.2)) else some (0, 0, 0, 0, 0, 0, 0, 0, 0, n.2)) else some (0, 0, 0, 0, 0, 0, 0, 0, 0, x1.2.2)) else some (0, 0, 0, 0, 0, 0, 0, 0, 0, x0.2.2)
theorem fparse_five (k : Nat) {s w0 w1 w2 w3 w4 : ByteArray} (h : strings_Split.f s ⟨#[32]⟩ = some [w0, w1, w2, w3, w4]) : filter_Parse.f (k + 1) s =
    (cidr_Parse.f (k + 1) w0).bind fun x0 => (cidr_Parse.f (k + 1) w1).bind fun x1 => if w2.toList = ([97, 110, 121] : List UInt8) then fiveEnd w3 w4 x0 x1 (-1, 0) else (hdr_Number.f w2 255).bind fun n => fiveEnd w3 w4 x0 x1 n := by
  unfold filter_Parse.f
  rw [h]
  rfl
theorem awake04_at : crossbucklaw04_awake.f (99 + 1) = some true := by
  have hs : strings_Split.f ⟨#[49, 48, 46, 48, 46, 48, 46, 48, 47, 56, 32, 48, 46, 48, 46, 48, 46, 48, 47, 48, 32, 97, 110, 121, 32, 48, 45, 54, 53, 53, 51, 53, 32, 56, 48, 45, 56, 48]⟩ ⟨#[32]⟩ =
      some [⟨#[49, 48, 46, 48, 46, 48, 46, 48, 47, 56]⟩, ⟨#[48, 46, 48, 46, 48, 46, 48, 47, 48]⟩, ⟨#[97, 110, 121]⟩, ⟨#[48, 45, 54, 53, 53, 51, 53]⟩, ⟨#[56, 48, 45, 56, 48]⟩] := by decide +kernel
  have h0 : cidr_Parse.f (99 + 1) ⟨#[49, 48, 46, 48, 46, 48, 46, 48, 47, 56]⟩ = some (167772160, 8, 0) := by decide +kernel
  have h1 : cidr_Parse.f (99 + 1) ⟨#[48, 46, 48, 46, 48, 46, 48, 47, 48]⟩ = some (0, 0, 0) := by decide +kernel
  have h2 : (⟨#[97, 110, 121]⟩ : ByteArray).toList = ([97, 110, 121] : List UInt8) := by rw [ByteArray.toList_eq]
  have h3 : fiveEnd ⟨#[48, 45, 54, 53, 53, 51, 53]⟩ ⟨#[56, 48, 45, 56, 48]⟩ (167772160, 8, 0) (0, 0, 0) (-1, 0) = some (167772160, 8, 0, 0, -1, 0, 65535, 80, 80, 0) := by
    have g1 : cidr_ParseRange.f ⟨#[48, 45, 54, 53, 53, 51, 53]⟩ = some (0, 65535, 0) := by decide +kernel
    have g2 : cidr_ParseRange.f ⟨#[56, 48, 45, 56, 48]⟩ = some (80, 80, 0) := by decide +kernel
    unfold fiveEnd
    rw [g1, Option.bind_some, g2]
    rfl
  unfold crossbucklaw04_awake.f
  rw [fparse_five 99 hs, h0, Option.bind_some, h1, Option.bind_some, if_pos h2, h3, Option.bind_some]
  decide +kernel
theorem awake04 {k : Nat} (h : 100 ≤ k) : crossbucklaw04_awake.f k = some true := by
  obtain ⟨d, rfl⟩ : ∃ d, k = 99 + 1 + d := ⟨k - 100, by omega⟩
  induction d with
  | zero => exact awake04_at
  | succ d ih => exact crossbucklaw04_awake.mono _ _ (ih (by omega))
end Go.Proofs.YtloclimoffhbhaaDoor.Pure
