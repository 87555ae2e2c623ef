/- The words of queries, as a row lists them, and as the walks want them of the world. No condition of its own. -/
import Derived.Test.YtloclimoffhbhaaDoorCard
import Derived.Test.YtloclimoffhbhaaDoorPScax201
namespace Go.Proofs.YtloclimoffhbhaaDoor.PSca
open Go Go.RowKit
theorem texts_of {H : Type} {enc : TypeId × Value → H} {P : Program} {w : World} {base : Nat} {sp : Nat → Bool} {held : Bool} {fuel : Nat} {t e : TypeId} {n : Nat} {cs : List Value} {zs : List (List UInt8)} {p : List MemPlace}
    (ht : P.underlying t = some (.array n e)) (he : P.underlying e = some .string) (hce : P.cellsOf e = 1) (hct : P.cellsOf t = n)
    (h : DataW.trod enc P w base sp held fuel t cs = some (.agg (zs.map fun z => .lit (.string z)), p)) : cs = zs.map fun z => Value.string ⟨z.toArray⟩ := by
  cases fuel with
  | zero => simp [DataW.trod] at h
  | succ fuel =>
    simp only [DataW.trod, ht, hce, hct, Nat.mul_one] at h
    split at h
    · rename_i hl
      obtain ⟨xs, hm, hx⟩ := Option.map_eq_some_iff.1 h
      have hxs : xs.map (·.1) = zs.map fun z => (DataW.lit (.string z) : DataW H) := by
        have := congrArg Prod.fst hx
        simpa using this
      have hxl : xs.length = n := by simpa using Lib.mapM_length hm
      have hzl : zs.length = n := by
        have := congrArg List.length hxs
        simp at this
        omega
      apply List.ext_getElem?
      intro i
      by_cases hi : i < n
      · obtain ⟨b, hb, hf⟩ := Lib.mapM_at hm i i (by simp [hi])
        obtain ⟨z, hc, rfl, _⟩ := DataW.trod_string he hf
        have h1 : cs[i]? = some (.string z) := by
          have := congrArg (·[0]?) hc
          simpa [List.getElem?_take, List.getElem?_drop] using this
        have h2 : (xs.map (·.1))[i]? = some (DataW.lit (.string z.data.toList) : DataW H) := by simp [hb]
        rw [hxs] at h2
        simp only [List.getElem?_map, Option.map_eq_some_iff, DataW.lit.injEq, Lit.string.injEq] at h2
        obtain ⟨z', hz', e⟩ := h2
        have e2 : (⟨z'.toArray⟩ : ByteArray) = z := by rw [e]
        simp [h1, hz', e2]
      · rw [List.getElem?_eq_none (by omega), List.getElem?_eq_none (by simp; omega)]
    · cases h
theorem texts_at {P : Program} {W : World} {name : String} {zs : List (List UInt8)} {g : Nat} {t e : TypeId} {n : Nat}
    (hg : P.globalNamed name = some g) (hty : (P.globals[g]?).map (·.type) = some t) (ht : P.underlying t = some (.array n e)) (he : P.underlying e = some .string) (hce : P.cellsOf e = 1) (hct : P.cellsOf t = n) :
    ∀ (i : Nat) {l : List (String × DataW Unit)} {ps : List MemPlace}, DataW.LaidVars P W l ps → l[i]? = some (name, .agg (zs.map fun z => .lit (.string z))) → W.var? P name = some (zs.map fun z => Value.string ⟨z.toArray⟩).toArray
  | _, [], _, _, h => by simp at h
  | 0, (n', d) :: r, _, ⟨g', t', cs, fuel, p, q, hg', ht', hvar, hd, _, _⟩, h => by
    obtain ⟨rfl, rfl⟩ : n' = name ∧ d = .agg (zs.map fun z => .lit (.string z)) := by simpa using h
    obtain rfl := Option.some.inj (hg.symm.trans hg')
    obtain rfl := Option.some.inj (hty.symm.trans ht')
    rw [hvar, ← texts_of ht he hce hct hd]
  | i + 1, (n', d) :: r, _, ⟨_, _, _, _, _, q, _, _, _, _, hs, _⟩, h => texts_at hg hty ht he hce hct i hs (by simpa using h)
theorem kinds_of {W : World} {l : List (String × DataW Unit)} (i : Nat) (h : laidMet Tryd.prog l W) (hi : l[i]? = some ("crossbuck/script.kinds", Rows.laid_crossbuck_script_kinds)) : Kinds W := by
  obtain ⟨ps, hs, _⟩ := h
  have hv := texts_at (zs := [[114, 101, 97, 99, 104], [108, 111, 111, 112], [104, 111, 108, 101], [100, 114, 111, 112], [100, 101, 110, 105, 101, 100], [108, 101, 102, 116]]) (g := 0) (t := 151) (n := 6) (by kernel_rfl) (by kernel_rfl) (Tryd.underlying151) (Tryd.underlying9) (by kernel_rfl) (by kernel_rfl) i hs hi
  intro j hj
  have hc := World.var?_cell (show Tryd.prog.globalNamed "crossbuck/script.kinds" = some 0 by kernel_rfl) hv j
  refine hc.trans ?_
  match j, hj with
  | 0, _ => rfl
  | 1, _ => rfl
  | 2, _ => rfl
  | 3, _ => rfl
  | 4, _ => rfl
  | 5, _ => rfl
end Go.Proofs.YtloclimoffhbhaaDoor.PSca
