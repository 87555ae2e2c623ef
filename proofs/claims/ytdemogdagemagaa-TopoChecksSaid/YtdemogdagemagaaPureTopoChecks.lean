/- crossbucklaw05.TopoChecks answers true for every topology, device and port: as numbers. No condition of its own. -/
import Derived.Test.YtdemogdagemagaaTopo
import Derived.Test.YtdemogdagemagaaPTcx10
namespace Go.Proofs.Ytdemogdagemagaa.Pure
open Go Go.RowKit Go.Proofs.Ytdemogdagemagaa.PTc Go.Proofs.YtdemogdagemagaaW.PrintWords Go.Proofs.YtdemogdagemagaaW.PrintLast Go.Proofs.YtdemogdagemagaaW.PrintMore Go.Proofs.Ytdemogdagemagaa.Facts
set_option linter.unusedVariables false
theorem TopoChecks (ps : List Int) (ls : List S39) (acs : List S52) (dev port : Int) (g0 : ∀ p ∈ ps, (Lit.int .i64 p).wf = true)
    (g1 : ∀ p ∈ ls, (Lit.int .i64 p.f0).wf = true ∧ (Lit.int .i64 p.f1).wf = true ∧ (Lit.int .i64 p.f2).wf = true ∧ (Lit.int .i64 p.f3).wf = true) (g2 : AcesGood acs)
    (w1 : (Lit.int .i64 dev).wf = true) (w2 : (Lit.int .i64 port).wf = true) : ∃ k, crossbucklaw05_TopoChecks.f k ps ls acs dev port = some true := by
  refine Ev.rounds ?_
  unfold crossbucklaw05_TopoChecks.f
  rw [light_eq]
  simp only [Option.bind_some]
  by_cases c : ps.length ≤ 40 ∧ ls.length ≤ 100 ∧ acs.length ≤ 60
  · obtain ⟨c1, c2, c3⟩ := c
    simp only [decide_eq_true (show ps.length ≤ 40 ∧ ls.length ≤ 100 ∧ acs.length ≤ 60 from ⟨c1, c2, c3⟩), if_true]
    refine Ev.bind awake05_ev ?_
    simp only [if_true]
    refine Ev.bind (tCheck_ev ps ls acs (by omega) g2.bd) (Ev.bind (rCheck_ev ps ls acs (by omega) (by omega) (by omega) g2.bd) ?_)
    simp only [if_true]
    refine Ev.bind (tPort_ev ps ls acs dev port) (Ev.bind (rPort_ev ps ls acs dev port) ?_)
    simp only [beq_self_eq_true]
    exact Ev.now _
  · simp only [decide_eq_false c, Bool.false_eq_true, if_false]
    exact Ev.bind awake05_ev (Ev.now _)
end Go.Proofs.Ytdemogdagemagaa.Pure
