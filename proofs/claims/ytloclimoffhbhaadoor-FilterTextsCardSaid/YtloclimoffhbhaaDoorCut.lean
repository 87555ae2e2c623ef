/- Words cut: the document's own Cut answers as the program's. No condition of its own. -/
import Derived.Test.YtloclimoffhbhaaDoorNum
import Derived.Lib.IndexBytes
import Derived.Test.YtloclimoffhbhaaDoorPFxx1
import Derived.Test.YtloclimoffhbhaaDoorPFxx6
namespace Go.Proofs.YtloclimoffhbhaaDoor.Text
open Go Go.RowKit Go.Proofs.YtloclimoffhbhaaDoor.PFx Go.Proofs.YtloclimoffhbhaaDoorW.PrintWords Go.Proofs.YtloclimoffhbhaaDoorW.PrintLast Go.Proofs.YtloclimoffhbhaaDoorW.PrintMore Go.Proofs.YtloclimoffhbhaaDoor.Bits
set_option linter.unusedVariables false

/-! ### Cut -/
theorem cut_go (s : ByteArray) (hs : s.size < 100000) (c : UInt8) (k : Nat) : ∀ (d p : Nat), p + d = s.size → crossbuckref03_Cut.l0 (k + d + 1) s (c.toNat : Int) p =
    if Lib.indexByte (s.data.toList.drop p) c = -1 then some (⟨#[]⟩, ⟨#[]⟩, false) else some (s.extract 0 (p + (Lib.indexByte (s.data.toList.drop p) c).toNat), s.extract (p + (Lib.indexByte (s.data.toList.drop p) c).toNat + 1) s.size, true) := by
  intro d
  induction d with
  | zero =>
    intro p h
    rw [crossbuckref03_Cut.l0, if_neg (by omega), drop_end s p (by omega), Lib.indexByte, if_pos rfl]
  | succ d ih =>
    intro p h
    have hp : p < s.size := by omega
    have c1 : (p : Int) < (s.size : Int) := by omega
    have c0 : (0 : Int) ≤ (p : Int) := by omega
    have c2 : (p : Int) ≤ (s.size : Int) := by omega
    have c3 : ((p + 1 : Nat) : Int) ≤ (s.size : Int) := by omega
    have c4 : (0 : Int) ≤ ((p + 1 : Nat) : Int) := by omega
    have ih' := ih (p + 1) (by omega)
    have ew := w64n (n := p) (by omega)
    have hge := Lib.indexByte_ge (s.data.toList.drop (p + 1)) c
    rw [show k + (d + 1) + 1 = (k + d + 1) + 1 from rfl, crossbuckref03_Cut.l0, if_pos c1, if_pos c0, bt_eq s p hp, drop_at s p hp, ew]
    clear ew
    by_cases e : s[p] = c
    · have hi : Lib.indexByte (s[p] :: s.data.toList.drop (p + 1)) c = 0 := by rw [Lib.indexByte, if_pos (beq_iff_eq.2 e)]
      rw [if_pos (by rw [e]), if_pos c2, if_pos c4, if_pos c3, hi, if_neg (by decide)]
      rfl
    · have e' : ¬ ((s[p].toNat : Int) = (c.toNat : Int)) := fun h => e (UInt8.toNat_inj.1 (by omega))
      rw [if_neg e', ih']
      by_cases g : Lib.indexByte (s.data.toList.drop (p + 1)) c = -1
      · have hi : Lib.indexByte (s[p] :: s.data.toList.drop (p + 1)) c = -1 := by rw [Lib.indexByte, if_neg (by simpa using e), if_pos (beq_iff_eq.2 g)]
        rw [if_pos g, hi, if_pos rfl]
      · have hi : Lib.indexByte (s[p] :: s.data.toList.drop (p + 1)) c = Lib.indexByte (s.data.toList.drop (p + 1)) c + 1 := by rw [Lib.indexByte, if_neg (by simpa using e), if_neg (by simpa using g)]
        rw [if_neg g, hi, if_neg (by omega)]
        have : (Lib.indexByte (s.data.toList.drop (p + 1)) c + 1).toNat = (Lib.indexByte (s.data.toList.drop (p + 1)) c).toNat + 1 := by omega
        rw [this, show p + 1 + (Lib.indexByte (s.data.toList.drop (p + 1)) c).toNat = p + ((Lib.indexByte (s.data.toList.drop (p + 1)) c).toNat + 1) by omega]
/-- Both cuts at once: what the program's takes, or none. -/
theorem cut_both (s : ByteArray) (hs : s.size ≤ 300) (c : UInt8) (k : Nat) :
    (∃ a b, strings_Cut.f s ⟨#[c]⟩ = some (a, b, true) ∧ crossbuckref03_Cut.f (k + 700) s (c.toNat : Int) = some (a, b, true) ∧ a.size ≤ 300 ∧ b.size ≤ 300) ∨
    (∃ a b a' b', strings_Cut.f s ⟨#[c]⟩ = some (a, b, false) ∧ crossbuckref03_Cut.f (k + 700) s (c.toNat : Int) = some (a', b', false)) := by
  have h := cut_go s (by omega) c (k + 699 - s.size) s.size 0 (by omega)
  rw [show k + 699 - s.size + s.size + 1 = k + 700 by omega, List.drop_zero] at h
  have hge := Lib.indexByte_ge s.data.toList c
  unfold crossbuckref03_Cut.f
  rw [show (0 : Int) = ((0 : Nat) : Int) from rfl, h]
  have hf : strings_Cut.f s ⟨#[c]⟩ = some (⟨(Lib.cut s.data.toList [c]).1.toArray⟩, ⟨(Lib.cut s.data.toList [c]).2.1.toArray⟩, (Lib.cut s.data.toList [c]).2.2) := by
    unfold strings_Cut.f
    rw [if_pos (by omega)]
  rw [hf]
  unfold Lib.cut
  rw [Lib.index_one]
  by_cases g : Lib.indexByte s.data.toList c = -1
  · right
    rw [if_pos g, g, if_neg (by decide)]
    exact ⟨_, _, _, _, rfl, rfl⟩
  · left
    rw [if_neg g, if_pos (by omega)]
    refine ⟨_, _, rfl, ?_, ?_, ?_⟩
    · congr 1
      refine Prod.ext ?_ (Prod.ext ?_ rfl)
      · apply ByteArray.ext
        apply Array.toList_inj.mp
        rw [Lib.extract_from_zero]
        simp
      · apply ByteArray.ext
        apply Array.toList_inj.mp
        rw [Lib.extract_to_end]
        simp
    · rw [Hand.lit_size, List.length_take]
      have : s.data.toList.length = s.size := by simp
      omega
    · rw [Hand.lit_size, List.length_drop]
      have : s.data.toList.length = s.size := by simp
      omega
end Go.Proofs.YtloclimoffhbhaaDoor.Text
