/- Topologies: what the document's check tells of one. No condition of its own. -/
import Derived.Test.YtloclimoffhbhaaDoorQry

namespace Go.Proofs.YtloclimoffhbhaaDoor.Scr
open Go Go.RowKit Go.Proofs.YtloclimoffhbhaaDoor.PSre Go.Proofs.YtloclimoffhbhaaDoorW.PrintWords Go.Proofs.YtloclimoffhbhaaDoorW.PrintLast Go.Proofs.YtloclimoffhbhaaDoorW.PrintMore Go.Proofs.YtloclimoffhbhaaDoor.Bits Go.Proofs.YtloclimoffhbhaaDoor.Facts
set_option linter.unusedVariables false
set_option linter.unusedSimpArgs false
/-- A port that is one. -/
def portOk (ps : List Int) (a b : Int) : Prop := 0 ≤ a ∧ a < (ps.length : Int) ∧ 0 ≤ b ∧ b < rd ps a
def bdA (x : S130) : Prop := BdF x.f4.f0.f0 x.f4.f0.f1 x.f4.f1.f0 x.f4.f1.f1 x.f4.f2 x.f4.f3.f0 x.f4.f3.f1 x.f4.f4.f0 x.f4.f4.f1
def rightA (x : S130) : Bool := rightF x.f4.f0.f0 x.f4.f0.f1 x.f4.f1.f0 x.f4.f1.f1 x.f4.f2 x.f4.f3.f0 x.f4.f3.f1 x.f4.f4.f0 x.f4.f4.f1
theorem rd133 {l : List S133} {i : Nat} (hi : i < l.length) : rd_T133 l (i : Int) = l[i] := by simp [rd_T133, List.getD, hi]
theorem rd130 {l : List S130} {i : Nat} (hi : i < l.length) : rd_T130 l (i : Int) = l[i] := by simp [rd_T130, List.getD, hi]
theorem rdI {l : List Int} {i : Nat} (hi : i < l.length) : rd l (i : Int) = l[i] := by simp [rd, List.getD, hi]
theorem portOk.small {ps : List Int} {a b : Int} (h : portOk ps a b) (hf : ps.length ≤ 16) (hp : ∀ n ∈ ps, 0 ≤ n ∧ n ≤ 8) : small a ∧ small b := by
  obtain ⟨h1, h2, h3, h4⟩ := h
  obtain ⟨n, rfl⟩ := Int.eq_ofNat_of_zero_le h1
  have hn : n < ps.length := by omega
  rw [rdI hn] at h4
  have := hp _ (List.getElem_mem hn)
  exact ⟨⟨by omega, by omega⟩, ⟨h3, by omega⟩⟩
end Go.Proofs.YtloclimoffhbhaaDoor.Scr
