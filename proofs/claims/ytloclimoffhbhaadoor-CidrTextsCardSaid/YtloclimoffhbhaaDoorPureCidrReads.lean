/- crossbucklaw03.CidrReads answers true for every text. No condition of its own. -/
import Derived.Test.YtloclimoffhbhaaDoorSplit
import Derived.Test.YtloclimoffhbhaaDoorFactsRt
import Derived.Test.YtloclimoffhbhaaDoorPTxtx4
namespace Go.Proofs.YtloclimoffhbhaaDoor.Pure
open Go Go.RowKit Go.Proofs.YtloclimoffhbhaaDoor.PTxt Go.Proofs.YtloclimoffhbhaaDoorW.PrintWords Go.Proofs.YtloclimoffhbhaaDoorW.PrintLast Go.Proofs.YtloclimoffhbhaaDoorW.PrintMore Go.Proofs.YtloclimoffhbhaaDoor.Bits Go.Proofs.YtloclimoffhbhaaDoor.Text Go.Proofs.YtloclimoffhbhaaDoor.Facts
set_option linter.unusedVariables false

theorem awake03 (k : Nat) : crossbucklaw03_awake.f (k + 100) = some true := by
  induction k with
  | zero => decide +kernel
  | succ k ih => rw [show k + 1 + 100 = (k + 100) + 1 by omega]; exact crossbucklaw03_awake.mono _ _ ih

theorem parse_both (s : ByteArray) (hs : s.size ≤ 300) (K : Nat) : ∃ r, cidr_Parse.f (K + 705) s = some r ∧ crossbuckref03_Parse.f (K + 705) s = some r := by
  unfold cidr_Parse.f crossbuckref03_Parse.f
  have e47 : (((47 : UInt8).toNat : Nat) : Int) = 47 := rfl
  rcases cut_both s hs 47 (K + 5) with ⟨a, b, h1, h2, ha, hb⟩ | ⟨a, b, a', b', h1, h2⟩
  · rw [e47, show K + 5 + 700 = K + 705 by omega] at h2
    rw [h1, h2, Option.bind_some, Option.bind_some, if_pos rfl, if_pos rfl]
    obtain ⟨r, g1, _, g3⟩ := addr_both a ha (K + 700)
    obtain ⟨r', g1', g2, _⟩ := addr_both a ha K
    have hr : r' = r := by
      have m : ∀ j, hdr_ParseAddr.f (K + 5 + j) a = some r' := by
        intro j
        induction j with
        | zero => exact g1'
        | succ j ih => exact hdr_ParseAddr.mono _ _ _ ih
      have := m 700
      rw [show K + 5 + 700 = K + 700 + 5 by omega, g1] at this
      exact (Option.some.inj this).symm
    rw [hr] at g2
    rw [show K + 705 = K + 700 + 5 by omega, g1]
    rw [show K + 700 + 5 = K + 705 by omega, g2, Option.bind_some, Option.bind_some]
    by_cases c : r.2 = 0
    · rw [if_pos c, if_pos c]
      have hn := number_eq b hb 32 (K + 5)
      rw [show K + 5 + 700 = K + 705 by omega] at hn
      rw [hn]
      rcases hv : hdr_Number.f b 32 with _ | n
      · unfold hdr_Number.f at hv; cases hv
      rw [Option.bind_some, Option.bind_some]
      by_cases e : n.2 = 0
      · obtain ⟨q0, q1⟩ := g3 c
        rw [if_pos e, if_pos e, tright_eq q0 q1, refRight_eq (by omega) q0 q1, Option.bind_some]
        cases rightB r.1 n.1 <;> exact ⟨_, rfl, rfl⟩
      · rw [if_neg e, if_neg e]; exact ⟨_, rfl, rfl⟩
    · rw [if_neg c, if_neg c]; exact ⟨_, rfl, rfl⟩
  · rw [e47, show K + 5 + 700 = K + 705 by omega] at h2
    rw [h1, h2, Option.bind_some, Option.bind_some, if_neg Bool.false_ne_true, if_neg Bool.false_ne_true]
    exact ⟨_, rfl, rfl⟩
theorem range_both (s : ByteArray) (hs : s.size ≤ 300) (K : Nat) : ∃ r, cidr_ParseRange.f s = some r ∧ crossbuckref03_ParseRange.f (K + 705) s = some r := by
  unfold cidr_ParseRange.f crossbuckref03_ParseRange.f
  have e45 : (((45 : UInt8).toNat : Nat) : Int) = 45 := rfl
  rcases cut_both s hs 45 (K + 5) with ⟨a, b, h1, h2, ha, hb⟩ | ⟨a, b, a', b', h1, h2⟩
  · rw [e45, show K + 5 + 700 = K + 705 by omega] at h2
    have ea := number_eq a ha 65535 (K + 5)
    have eb := number_eq b hb 65535 (K + 5)
    rw [show K + 5 + 700 = K + 705 by omega] at ea eb
    rw [h1, h2, Option.bind_some, Option.bind_some, if_pos rfl, if_pos rfl]
    simp only [ea, eb]
    rcases hv : hdr_Number.f a 65535 with _ | n
    · unfold hdr_Number.f at hv; cases hv
    rcases hw : hdr_Number.f b 65535 with _ | m
    · unfold hdr_Number.f at hw; cases hw
    simp only [Option.bind_some]
    by_cases c : n.2 = 0
    · rw [if_pos c]
      by_cases d : m.2 = 0
      · rw [if_pos d]
        by_cases g : n.1 > m.1
        · rw [if_pos g]; exact ⟨_, rfl, rfl⟩
        · rw [if_neg g]; exact ⟨_, rfl, rfl⟩
      · rw [if_neg d]; exact ⟨_, rfl, rfl⟩
    · rw [if_neg c]; exact ⟨_, rfl, rfl⟩
  · rw [e45, show K + 5 + 700 = K + 705 by omega] at h2
    rw [h1, h2, Option.bind_some, Option.bind_some, if_neg Bool.false_ne_true, if_neg Bool.false_ne_true]
    exact ⟨_, rfl, rfl⟩

theorem CidrReads (s : ByteArray) (ws : s.size ≤ 140737488351232) : ∃ k, crossbucklaw03_CidrReads.f k s = some true := by
  refine ⟨0 + 705, ?_⟩
  unfold crossbucklaw03_CidrReads.f
  have aw : crossbucklaw03_awake.f (0 + 705) = some true := awake03 605
  by_cases c : (s.size : Int) > 200
  · rw [if_pos c, aw]; rfl
  · obtain ⟨r, h1, h2⟩ := parse_both s (by omega) 0
    obtain ⟨q, h3, h4⟩ := range_both s (by omega) 0
    rw [if_neg c, h1, h2, h3, h4, aw]
    simp
end Go.Proofs.YtloclimoffhbhaaDoor.Pure
