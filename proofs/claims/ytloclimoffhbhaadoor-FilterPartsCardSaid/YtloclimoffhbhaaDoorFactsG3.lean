/- Plain facts: the program's Check and Match of a filter, in numbers. No condition of its own. -/
import Derived.Test.YtloclimoffhbhaaDoorFactsF3
import Derived.Test.YtloclimoffhbhaaDoorFactsH
import Derived.Test.YtloclimoffhbhaaDoorPFqx0
import Derived.Test.YtloclimoffhbhaaDoorPFqx1
namespace Go.Proofs.YtloclimoffhbhaaDoor.Facts
open Go Go.RowKit Go.Proofs.YtloclimoffhbhaaDoor.PFq Go.Proofs.YtloclimoffhbhaaDoorW.PrintWords Go.Proofs.YtloclimoffhbhaaDoorW.PrintLast Go.Proofs.YtloclimoffhbhaaDoorW.PrintMore Go.Proofs.YtloclimoffhbhaaDoor.Bits

theorem in_eq (low high p : Int) : cidr_In.f low high p = some (decide (low ≤ p) && decide (p ≤ high)) := by
  unfold cidr_In.f
  by_cases c : p ≥ low
  · rw [if_pos c]; simp [show low ≤ p by omega]
  · rw [if_neg c]; simp [show ¬ low ≤ p by omega]
theorem tcheck_eq {k : Nat} {f : Flt} (hk : 3 ≤ k) (hf : f.bd) : filter_Check.f k f.da f.db f.sa f.sb f.pr f.sl f.sh f.dl f.dh = some (checkV f) := by
  obtain ⟨⟨a0, a1⟩, ⟨b0, b1⟩, _⟩ := hf
  have hT : filter_Check.j0 k true f.da f.db f.sa f.sb f.pr f.sl f.sh f.dl f.dh = some 13 := by
    obtain ⟨k, rfl⟩ : ∃ m, k = m + 1 := ⟨k - 1, by omega⟩
    rw [filter_Check.j0]; rfl
  have hF : filter_Check.j0 k false f.da f.db f.sa f.sb f.pr f.sl f.sh f.dl f.dh = some (tailV f) := by
    obtain ⟨k, rfl⟩ : ∃ m, k = m + 2 := ⟨k - 2, by omega⟩
    rw [filter_Check.j0, if_neg Bool.false_ne_true]
    by_cases c : f.pr < -1
    · rw [if_pos c, filter_Check.j1, if_pos rfl, tail5 (.inl c)]
    · rw [if_neg c, filter_Check.j1]
      by_cases d : f.pr > 255
      · rw [if_pos (by simpa using d), tail5 (.inr d)]
      · rw [if_neg (by simpa using d)]
        by_cases e : f.sl > f.sh
        · rw [if_pos e, tail14 (by omega) (.inl e)]
        · rw [if_neg e]
          by_cases g : f.dl > f.dh
          · rw [if_pos g, tail14 (by omega) (.inr g)]
          · rw [if_neg g, tail0 (by omega) (by omega)]
  unfold filter_Check.f
  rw [tright_eq a0 a1]
  simp only [Option.bind_some]
  unfold checkV
  cases rightB f.da f.db with
  | true =>
    rw [if_pos rfl, tright_eq b0 b1]
    simp only [Option.bind_some, Bool.true_and]
    cases rightB f.sa f.sb with
    | true => exact hF
    | false => exact hT
  | false => exact hT
theorem tmatch_eq {f : Flt} {h : Hdr} (hf : f.bd) (hh : h.bd) (d0 : 0 ≤ f.db) (d1 : f.db ≤ 32) (s0 : 0 ≤ f.sb) (s1 : f.sb ≤ 32) :
    filter_Match.f f.da f.db f.sa f.sb f.pr f.sl f.sh f.dl f.dh h.dst h.src h.pr h.sp h.dp = some (matchB f h) := by
  obtain ⟨⟨a0, a1⟩, ⟨b0, b1⟩, _⟩ := hf
  obtain ⟨⟨x0, x1⟩, ⟨y0, y1⟩, ⟨z0, z1⟩, _⟩ := hh
  unfold filter_Match.f matchB restB
  rw [has_eq d0 d1 a0 a1 x0 x1, has_eq s0 s1 b0 b1 y0 y1, wrap64_id h.pr (by omega) (by omega)]
  simp only [Option.bind_some, in_eq]
  cases hasB f.da f.db h.dst
  · simp
  cases hasB f.sa f.sb h.src
  · simp
  rw [if_pos rfl, if_pos rfl]
  by_cases c : f.pr = -1
  · rw [if_pos c]
    cases (decide (f.sl ≤ h.sp) && decide (h.sp ≤ f.sh)) <;> simp [c]
  · rw [if_neg c]
    by_cases d : f.pr = h.pr
    · rw [if_pos d]
      cases (decide (f.sl ≤ h.sp) && decide (h.sp ≤ f.sh)) <;> simp [d]
    · rw [if_neg d]
      simp [c, d]
end Go.Proofs.YtloclimoffhbhaaDoor.Facts
