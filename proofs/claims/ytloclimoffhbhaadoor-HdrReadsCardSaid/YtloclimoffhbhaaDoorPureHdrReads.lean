/- crossbucklaw02.HdrReads answers true for every text and bound. No condition of its own. -/
import Derived.Test.YtloclimoffhbhaaDoorHdrText
import Derived.Test.YtloclimoffhbhaaDoorPHdmx6
namespace Go.Proofs.YtloclimoffhbhaaDoor.Pure
open Go Go.RowKit Go.Proofs.YtloclimoffhbhaaDoor.PHdm Go.Proofs.YtloclimoffhbhaaDoorW.PrintWords Go.Proofs.YtloclimoffhbhaaDoorW.PrintLast Go.Proofs.YtloclimoffhbhaaDoorW.PrintMore Go.Proofs.YtloclimoffhbhaaDoor.Bits Go.Proofs.YtloclimoffhbhaaDoor.Text Go.Proofs.YtloclimoffhbhaaDoor.Dec
set_option linter.unusedVariables false

theorem reads_tail {s : ByteArray} (hs : s.size ≤ 300) (m : Int) : crossbucklaw02_HdrReads.j0 (705 + 1 + 1) s m false = some true := by
  rw [crossbucklaw02_HdrReads.j0, if_neg (by decide)]
  obtain ⟨r, g1, g2, _⟩ := addr_same hs 1
  rw [show 705 + 1 = 1 + 705 from rfl, g1, g2, Option.bind_some, Option.bind_some, if_pos rfl, bne_self_eq_false, show 1 + 705 = 705 + 1 from rfl, crossbucklaw02_HdrReads.j1, if_neg (by decide)]
  have hn := number_eq s hs (wrap64 m) 5
  rw [show 5 + 700 = 705 from rfl] at hn
  rw [hn]
  rcases hv : hdr_Number.f s (wrap64 m) with _ | n
  · unfold hdr_Number.f at hv; cases hv
  rw [Option.bind_some, Option.bind_some, show (705 : Nat) = 699 + 6 from rfl, awake02 699, Option.bind_some, if_pos rfl, if_pos rfl, beq_self_eq_true]
theorem HdrReads : crossbucklaw02_HdrReads.Pure := by
  intro s m ws wm
  refine ⟨705 + 1 + 1, ?_⟩
  unfold crossbucklaw02_HdrReads.f
  by_cases c : (s.size : Int) > 300
  · rw [if_pos c, show 705 + 1 + 1 = 701 + 6 from rfl, awake02 701, Option.bind_some]
  · have hs : s.size ≤ 300 := by omega
    rw [if_neg c]
    obtain ⟨r, g1, g2, g3⟩ := parse_both hs 2
    rw [show 705 + 1 + 1 = 2 + 705 from rfl, g1, g2, Option.bind_some, Option.bind_some, if_pos rfl, if_neg (by simp)]
    have ht := reads_tail hs m
    by_cases e : r.2.2.2.2.2 = 0
    · rw [if_pos e, g3 e, Option.bind_some, bne_self_eq_false]
      exact ht
    · rw [if_neg e]
      exact ht
end Go.Proofs.YtloclimoffhbhaaDoor.Pure
