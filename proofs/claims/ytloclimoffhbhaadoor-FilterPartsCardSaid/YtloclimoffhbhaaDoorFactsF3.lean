/- Plain facts: the document's Check and Match of a filter, in numbers. No condition of its own. -/
import Derived.Test.YtloclimoffhbhaaDoorFactsRh
import Derived.Test.YtloclimoffhbhaaDoorPFqx6
namespace Go.Proofs.YtloclimoffhbhaaDoor.Facts
open Go Go.RowKit Go.Proofs.YtloclimoffhbhaaDoor.PFq Go.Proofs.YtloclimoffhbhaaDoorW.PrintWords Go.Proofs.YtloclimoffhbhaaDoorW.PrintLast Go.Proofs.YtloclimoffhbhaaDoorW.PrintMore Go.Proofs.YtloclimoffhbhaaDoor.Bits

/-- A filter, in numbers. -/
structure Flt where
  (da db sa sb pr sl sh dl dh : Int)
structure Hdr where
  (dst src pr sp dp : Int)
def Flt.bd (f : Flt) : Prop := (0 ≤ f.da ∧ f.da < 4294967296) ∧ (0 ≤ f.sa ∧ f.sa < 4294967296) ∧ (0 ≤ f.sl ∧ f.sl < 65536) ∧ (0 ≤ f.sh ∧ f.sh < 65536) ∧ (0 ≤ f.dl ∧ f.dl < 65536) ∧ (0 ≤ f.dh ∧ f.dh < 65536)
def Hdr.bd (h : Hdr) : Prop := (0 ≤ h.dst ∧ h.dst < 4294967296) ∧ (0 ≤ h.src ∧ h.src < 4294967296) ∧ (0 ≤ h.pr ∧ h.pr < 256) ∧ (0 ≤ h.sp ∧ h.sp < 65536) ∧ (0 ≤ h.dp ∧ h.dp < 65536)
def tailV (f : Flt) : Int := if f.pr < -1 ∨ 255 < f.pr then 5 else if f.sh < f.sl ∨ f.dh < f.dl then 14 else 0
def checkV (f : Flt) : Int := if (rightB f.da f.db && rightB f.sa f.sb) = true then tailV f else 13
theorem tail5 {f : Flt} (h : f.pr < -1 ∨ 255 < f.pr) : tailV f = 5 := if_pos h
theorem tail14 {f : Flt} (h : ¬ (f.pr < -1 ∨ 255 < f.pr)) (g : f.sh < f.sl ∨ f.dh < f.dl) : tailV f = 14 := (if_neg h).trans (if_pos g)
theorem tail0 {f : Flt} (h : ¬ (f.pr < -1 ∨ 255 < f.pr)) (g : ¬ (f.sh < f.sl ∨ f.dh < f.dl)) : tailV f = 0 := (if_neg h).trans (if_neg g)
theorem check_eq {k : Nat} {f : Flt} (hk : 33 ≤ k) (hf : f.bd) : crossbuckref04_Check.f k f.da f.db f.sa f.sb f.pr f.sl f.sh f.dl f.dh = some (checkV f) := by
  obtain ⟨⟨a0, a1⟩, ⟨b0, b1⟩, _⟩ := hf
  have hT : crossbuckref04_Check.j0 k true f.da f.db f.sa f.sb f.pr f.sl f.sh f.dl f.dh = some 13 := by
    obtain ⟨k, rfl⟩ : ∃ m, k = m + 1 := ⟨k - 1, by omega⟩
    rw [crossbuckref04_Check.j0]; rfl
  have hF : crossbuckref04_Check.j0 k false f.da f.db f.sa f.sb f.pr f.sl f.sh f.dl f.dh = some (tailV f) := by
    obtain ⟨k, rfl⟩ : ∃ m, k = m + 2 := ⟨k - 2, by omega⟩
    rw [crossbuckref04_Check.j0, if_neg Bool.false_ne_true]
    by_cases c : f.pr < -1
    · rw [if_pos c, crossbuckref04_Check.j1, if_pos rfl, tail5 (.inl c)]
    · rw [if_neg c, crossbuckref04_Check.j1]
      by_cases d : f.pr > 255
      · rw [if_pos (by simpa using d), tail5 (.inr d)]
      · rw [if_neg (by simpa using d)]
        by_cases e : f.sl > f.sh
        · rw [if_pos e, tail14 (by omega) (.inl e)]
        · rw [if_neg e]
          by_cases g : f.dl > f.dh
          · rw [if_pos g, tail14 (by omega) (.inr g)]
          · rw [if_neg g, tail0 (by omega) (by omega)]
  unfold crossbuckref04_Check.f
  rw [refRight_eq hk a0 a1]
  simp only [Option.bind_some]
  unfold checkV
  cases rightB f.da f.db with
  | true =>
    rw [if_pos rfl, refRight_eq hk b0 b1]
    simp only [Option.bind_some, Bool.true_and]
    cases rightB f.sa f.sb with
    | true => exact hF
    | false => exact hT
  | false => exact hT
theorem checkV_zero {f : Flt} : checkV f = 0 ↔ rightB f.da f.db = true ∧ rightB f.sa f.sb = true ∧ -1 ≤ f.pr ∧ f.pr ≤ 255 ∧ f.sl ≤ f.sh ∧ f.dl ≤ f.dh := by
  unfold checkV tailV
  cases rightB f.da f.db <;> cases rightB f.sa f.sb <;> simp
  by_cases h : f.pr < -1 ∨ 255 < f.pr
  · rw [if_pos h]; constructor
    · intro z; omega
    · omega
  · rw [if_neg h]
    by_cases g : f.sh < f.sl ∨ f.dh < f.dl
    · rw [if_pos g]; constructor
      · intro z; omega
      · omega
    · rw [if_neg g]; constructor
      · intro _; omega
      · intro _; rfl
/-- All but the addresses. -/
def restB (f : Flt) (h : Hdr) : Bool := (f.pr == -1 || f.pr == h.pr) && (decide (f.sl ≤ h.sp) && decide (h.sp ≤ f.sh)) && (decide (f.dl ≤ h.dp) && decide (h.dp ≤ f.dh))
def matchB (f : Flt) (h : Hdr) : Bool := restB f h && (hasB f.da f.db h.dst && hasB f.sa f.sb h.src)
end Go.Proofs.YtloclimoffhbhaaDoor.Facts
