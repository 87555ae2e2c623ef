-- Written by wip/myprint.py and wip/merge.py (this session's own programs); Lean checks it.
-- halved
import Derived.Test.YtloclimoffhbhaaDoorSq6
import Derived.Test.YtloclimoffhbhaaDoorPSrex0
import Derived.Test.YtloclimoffhbhaaDoorPSrex8
import Derived.Test.YtloclimoffhbhaaDoorPSrex9
namespace Go.Proofs.YtloclimoffhbhaaDoor.PSre
open Go.RowKit Go.Proofs.YtloclimoffhbhaaDoorW.PrintWords Go.Proofs.YtloclimoffhbhaaDoorW.PrintLast Go.Proofs.YtloclimoffhbhaaDoorW.PrintMore Go.Proofs.YtloclimoffhbhaaDoorW.PrintSq List
attribute [local go_sem] max2_int min2_int max_two min_two max_three min_three max_four min_four   -- for this text's walks alone
set_option linter.unusedVariables false
set_option linter.unusedSimpArgs false

/-! ### crossbuckref04_Print: function 67 -/
def crossbuckref04_Print.j0 : Nat → ByteArray → Int → Int → Int → Int → Int → Int → Int → Int → Int → Option (ByteArray)
 | 0, _, _, _, _, _, _, _, _, _, _ => none
 | k + 1, x3, x353000, x353001, x353002, x353003, x353004, x353005, x353006, x353007, x353008 => (crossbuckref03_Print.f k x353000 x353001).bind fun t354 => (if t354.size + 1 ≤ 9223372036854775807 then ((crossbuckref03_Print.f k x353002 x353003).bind fun t355 => (if (t354 ++ (⟨#[32]⟩ : ByteArray)).size + t355.size ≤ 9223372036854775807 then (if ((t354 ++ (⟨#[32]⟩ : ByteArray)) ++ t355).size + 1 ≤ 9223372036854775807 then (if (((t354 ++ (⟨#[32]⟩ : ByteArray)) ++ t355) ++ (⟨#[32]⟩ : ByteArray)).size + x3.size ≤ 9223372036854775807 then (if ((((t354 ++ (⟨#[32]⟩ : ByteArray)) ++ t355) ++ (⟨#[32]⟩ : ByteArray)) ++ x3).size + 1 ≤ 9223372036854775807 then ((crossbuckref03_PrintRange.f k x353005 x353006).bind fun t356 => (if (((((t354 ++ (⟨#[32]⟩ : ByteArray)) ++ t355) ++ (⟨#[32]⟩ : ByteArray)) ++ x3) ++ (⟨#[32]⟩ : ByteArray)).size + t356.size ≤ 9223372036854775807 then (if ((((((t354 ++ (⟨#[32]⟩ : ByteArray)) ++ t355) ++ (⟨#[32]⟩ : ByteArray)) ++ x3) ++ (⟨#[32]⟩ : ByteArray)) ++ t356).size + 1 ≤ 9223372036854775807 then ((crossbuckref03_PrintRange.f k x353007 x353008).bind fun t357 => (if (((((((t354 ++ (⟨#[32]⟩ : ByteArray)) ++ t355) ++ (⟨#[32]⟩ : ByteArray)) ++ x3) ++ (⟨#[32]⟩ : ByteArray)) ++ t356) ++ (⟨#[32]⟩ : ByteArray)).size + t357.size ≤ 9223372036854775807 then (some ((((((((t354 ++ (⟨#[32]⟩ : ByteArray)) ++ t355) ++ (⟨#[32]⟩ : ByteArray)) ++ x3) ++ (⟨#[32]⟩ : ByteArray)) ++ t356) ++ (⟨#[32]⟩ : ByteArray)) ++ t357)) else (none))) else (none)) else (none))) else (none)) else (none)) else (none)) else (none))) else (none))
def crossbuckref04_Print.f (k : Nat) (a0_0 : Int) (a0_1 : Int) (a0_2 : Int) (a0_3 : Int) (a0_4 : Int) (a0_5 : Int) (a0_6 : Int) (a0_7 : Int) (a0_8 : Int) : Option (ByteArray) := if a0_4 ≥ 0 then ((crossbuckref02_Digits.f k a0_4).bind fun t353 => (crossbuckref04_Print.j0 k t353 a0_0 a0_1 a0_2 a0_3 a0_4 a0_5 a0_6 a0_7 a0_8)) else (crossbuckref04_Print.j0 k (⟨#[97, 110, 121]⟩ : ByteArray) a0_0 a0_1 a0_2 a0_3 a0_4 a0_5 a0_6 a0_7 a0_8)
end Go.Proofs.YtloclimoffhbhaaDoor.PSre
