/- Plain facts: Match of a filter, the program's and the document's, in numbers. No condition of its own. -/
import Derived.Test.YtdemogdagemagaaFactsT
import Derived.Test.YtdemogdagemagaaFactsH
import Derived.Test.YtdemogdagemagaaPTrx10
import Derived.Test.YtdemogdagemagaaPTrx11
import Derived.Test.YtdemogdagemagaaPTrx16
namespace Go.Proofs.Ytdemogdagemagaa.Facts
open Go Go.RowKit Go.Proofs.Ytdemogdagemagaa.PTr Go.Proofs.YtdemogdagemagaaW.PrintWords Go.Proofs.YtdemogdagemagaaW.PrintLast Go.Proofs.YtdemogdagemagaaW.PrintMore Go.Proofs.Ytdemogdagemagaa.Bits

theorem match_eq {k : Nat} {f : Flt} {h : Hdr} (hk : 40 ≤ k) (hf : f.bd) (hh : h.bd) (d0 : 0 ≤ f.db) (d1 : f.db ≤ 32) (s0 : 0 ≤ f.sb) (s1 : f.sb ≤ 32) :
    crossbuckref04_Match.f k f.da f.db f.sa f.sb f.pr f.sl f.sh f.dl f.dh h.dst h.src h.pr h.sp h.dp = some (matchB f h) := by
  obtain ⟨⟨a0, a1⟩, ⟨b0, b1⟩, _⟩ := hf
  obtain ⟨⟨x0, x1⟩, ⟨y0, y1⟩, ⟨z0, z1⟩, _⟩ := hh
  have hj1 : ∀ (k : Nat) (b : Bool), 35 ≤ k → crossbuckref04_Match.j1 k b f.da f.db f.sa f.sb f.pr f.sl f.sh f.dl f.dh h.dst h.src h.pr h.sp h.dp = some (!b && (hasB f.da f.db h.dst && hasB f.sa f.sb h.src)) := by
    intro k b hk
    obtain ⟨k, rfl⟩ : ∃ m, k = m + 1 := ⟨k - 1, by omega⟩
    rw [crossbuckref04_Match.j1]
    cases b with
    | true => rfl
    | false =>
      rw [if_neg (by decide), refHas_eq (by omega) d0 d1 a0 a1 x0 x1]
      simp only [Option.bind_some]
      cases hasB f.da f.db h.dst with
      | false => rfl
      | true =>
        rw [if_pos rfl, refHas_eq (by omega) s0 s1 b0 b1 y0 y1]
        rfl
  have hj0 : ∀ (k : Nat) (b : Bool), 36 ≤ k → crossbuckref04_Match.j0 k b f.da f.db f.sa f.sb f.pr f.sl f.sh f.dl f.dh h.dst h.src h.pr h.sp h.dp = some ((!b && (decide (f.sl ≤ h.sp) && decide (h.sp ≤ f.sh)) && (decide (f.dl ≤ h.dp) && decide (h.dp ≤ f.dh))) && (hasB f.da f.db h.dst && hasB f.sa f.sb h.src)) := by
    intro k b hk
    obtain ⟨k, rfl⟩ : ∃ m, k = m + 1 := ⟨k - 1, by omega⟩
    rw [crossbuckref04_Match.j0]
    cases b with
    | true => rfl
    | false =>
      rw [if_neg (by decide)]
      by_cases c1 : h.sp < f.sl
      · rw [if_pos c1, hj1 _ _ (by omega)]; simp [show ¬ f.sl ≤ h.sp by omega]
      · rw [if_neg c1]
        by_cases c2 : h.sp > f.sh
        · rw [if_pos c2, hj1 _ _ (by omega)]; simp [show ¬ h.sp ≤ f.sh by omega]
        · rw [if_neg c2]
          by_cases c3 : h.dp < f.dl
          · rw [if_pos c3, hj1 _ _ (by omega)]; simp [show ¬ f.dl ≤ h.dp by omega]
          · rw [if_neg c3, hj1 _ _ (by omega)]
            simp only [show f.sl ≤ h.sp by omega, show h.sp ≤ f.sh by omega, show f.dl ≤ h.dp by omega, decide_true, Bool.not_false, Bool.true_and]
            congr 2
            by_cases c4 : h.dp > f.dh
            · simp [c4, show ¬ h.dp ≤ f.dh by omega]
            · simp [c4, show h.dp ≤ f.dh by omega]
  unfold crossbuckref04_Match.f matchB restB
  by_cases c : f.pr = -1
  · rw [if_pos c, hj0 _ _ (by omega)]; simp [c]
  · rw [if_neg c, hj0 _ _ (by omega), wrap64_id _ (by omega) (by omega)]
    have e : (!(f.pr != h.pr)) = (f.pr == -1 || f.pr == h.pr) := by simp [c, bne]
    rw [e]
theorem in_eq (low high p : Int) : cidr_In.f low high p = some (decide (low ≤ p) && decide (p ≤ high)) := by
  unfold cidr_In.f
  by_cases c : p ≥ low
  · rw [if_pos c]; simp [show low ≤ p by omega]
  · rw [if_neg c]; simp [show ¬ low ≤ p by omega]
theorem tmatch_eq {f : Flt} {h : Hdr} (hf : f.bd) (hh : h.bd) (d0 : 0 ≤ f.db) (d1 : f.db ≤ 32) (s0 : 0 ≤ f.sb) (s1 : f.sb ≤ 32) :
    filter_Match.f f.da f.db f.sa f.sb f.pr f.sl f.sh f.dl f.dh h.dst h.src h.pr h.sp h.dp = some (matchB f h) := by
  obtain ⟨⟨a0, a1⟩, ⟨b0, b1⟩, _⟩ := hf
  obtain ⟨⟨x0, x1⟩, ⟨y0, y1⟩, ⟨z0, z1⟩, _⟩ := hh
  unfold filter_Match.f matchB restB
  rw [has_eq d0 d1 a0 a1 x0 x1, has_eq s0 s1 b0 b1 y0 y1, wrap64_id h.pr (by omega) (by omega)]
  simp only [Option.bind_some, in_eq]
  cases hasB f.da f.db h.dst
  · simp
  cases hasB f.sa f.sb h.src
  · simp
  rw [if_pos rfl, if_pos rfl]
  by_cases c : f.pr = -1
  · rw [if_pos c]
    cases (decide (f.sl ≤ h.sp) && decide (h.sp ≤ f.sh)) <;> simp [c]
  · rw [if_neg c]
    by_cases d : f.pr = h.pr
    · rw [if_pos d]
      cases (decide (f.sl ≤ h.sp) && decide (h.sp ≤ f.sh)) <;> simp [d]
    · rw [if_neg d]
      simp [c, d]
end Go.Proofs.Ytdemogdagemagaa.Facts
