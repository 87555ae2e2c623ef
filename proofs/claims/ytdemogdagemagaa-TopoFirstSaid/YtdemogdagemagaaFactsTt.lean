/- Plain facts: the program's Match of a filter, in numbers. No condition of its own. -/
import Derived.Test.YtdemogdagemagaaFactsT
import Derived.Test.YtdemogdagemagaaPTgx10
import Derived.Test.YtdemogdagemagaaPTgx11
namespace Go.Proofs.Ytdemogdagemagaa.Facts
open Go Go.RowKit Go.Proofs.Ytdemogdagemagaa.PTg Go.Proofs.YtdemogdagemagaaW.PrintWords Go.Proofs.YtdemogdagemagaaW.PrintLast Go.Proofs.YtdemogdagemagaaW.PrintMore Go.Proofs.Ytdemogdagemagaa.Bits

theorem hasB_iff {a b x : Int} : hasB a b x = true ↔ x / sz b = a / sz b := by unfold hasB; simp
theorem has_eq {a b x : Int} (hb0 : 0 ≤ b) (hb1 : b ≤ 32) (h0 : 0 ≤ a) (h1 : a < 4294967296) (g0 : 0 ≤ x) (g1 : x < 4294967296) : cidr_Has.f a b x = some (hasB a b x) := by
  unfold cidr_Has.f hasB
  rw [mask_eq hb0 hb1]
  simp only [Option.bind_some]
  unfold sz
  rw [xor_hi x a _ g0 g1 h0 h1 (by omega)]
theorem in_eq (low high p : Int) : cidr_In.f low high p = some (decide (low ≤ p) && decide (p ≤ high)) := by
  unfold cidr_In.f
  by_cases c : p ≥ low
  · rw [if_pos c]; simp [show low ≤ p by omega]
  · rw [if_neg c]; simp [show ¬ low ≤ p by omega]
theorem tmatch_eq {f : Flt} {h : Hdr} (hf : f.bd) (hh : h.bd) (d0 : 0 ≤ f.db) (d1 : f.db ≤ 32) (s0 : 0 ≤ f.sb) (s1 : f.sb ≤ 32) :
    filter_Match.f f.da f.db f.sa f.sb f.pr f.sl f.sh f.dl f.dh h.dst h.src h.pr h.sp h.dp = some (matchB f h) := by
  obtain ⟨⟨a0, a1⟩, ⟨b0, b1⟩, _⟩ := hf
  obtain ⟨⟨x0, x1⟩, ⟨y0, y1⟩, ⟨z0, z1⟩, _⟩ := hh
  unfold filter_Match.f matchB restB
  rw [has_eq d0 d1 a0 a1 x0 x1, has_eq s0 s1 b0 b1 y0 y1, wrap64_id h.pr (by omega) (by omega)]
  simp only [Option.bind_some, in_eq]
  cases hasB f.da f.db h.dst
  · simp
  cases hasB f.sa f.sb h.src
  · simp
  rw [if_pos rfl, if_pos rfl]
  by_cases c : f.pr = -1
  · rw [if_pos c]
    cases (decide (f.sl ≤ h.sp) && decide (h.sp ≤ f.sh)) <;> simp [c]
  · rw [if_neg c]
    by_cases d : f.pr = h.pr
    · rw [if_pos d]
      cases (decide (f.sl ≤ h.sp) && decide (h.sp ≤ f.sh)) <;> simp [d]
    · rw [if_neg d]
      simp [c, d]
end Go.Proofs.Ytdemogdagemagaa.Facts
