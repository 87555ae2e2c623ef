/- crossbucklaw25.ScriptChanges answers true for every change: as numbers. No condition of its own. -/
import Derived.Test.YtloclimoffhbhaaDoorSemi
import Derived.Test.YtloclimoffhbhaaDoorPSchx9
namespace Go.Proofs.YtloclimoffhbhaaDoor.Pure
open Go Go.RowKit Go.Proofs.YtloclimoffhbhaaDoor.PSch Go.Proofs.YtloclimoffhbhaaDoorW.PrintWords Go.Proofs.YtloclimoffhbhaaDoorW.PrintLast Go.Proofs.YtloclimoffhbhaaDoorW.PrintMore Go.Proofs.YtloclimoffhbhaaDoor.Facts Go.Proofs.YtloclimoffhbhaaDoor.Scr
set_option linter.unusedVariables false
set_option linter.unusedSimpArgs false
theorem u32b {a : Int} (h : (Lit.int .u32 a).wf = true) : 0 ≤ a ∧ a < 4294967296 := by
  simp [Lit.wf, IntKind.min, IntKind.max, IntKind.signed, IntKind.bits] at h
  exact ⟨by omega, by omega⟩
theorem ScriptChanges (a0 : Bool) (a1 a2 a3 a4 a5 a6 : Int) (w1 : (Lit.int .i64 a1).wf = true) (w2 : (Lit.int .i64 a2).wf = true) (w3 : (Lit.int .u32 a3).wf = true) (w4 : (Lit.int .i64 a4).wf = true) (w5 : (Lit.int .i64 a5).wf = true) (w6 : (Lit.int .i64 a6).wf = true) :
    ∃ k, crossbucklaw25_ScriptChanges.f k a0 a1 a2 a3 a4 a5 a6 = some true := by
  refine Ev.rounds ?_
  let c : S46 := ⟨a0, ⟨a1, a2, ⟨a3, a4⟩, a5, a6⟩⟩
  have hb : bdC c := u32b w3
  unfold crossbucklaw25_ScriptChanges.f
  refine Ev.bind (rightL_ev [c] (by simp) (by intro x hx; simp at hx; subst hx; exact hb) 0 0 0 0 0 0 0 0 0 0 0 0 0) ?_
  simp only [List.all_cons, List.all_nil, Bool.and_true, List.length_cons, List.length_nil, show decide (0 < 0 + 1) = true from rfl]
  by_cases hr : rightC c = true
  · simp only [if_pos hr]
    refine Ev.bind (print_ev hb hr) (Ev.bind (read_ev hb hr) (Ev.bind awake25_ev ?_))
    simp only [if_true]
    refine Ev.bind (ref_ev hb hr) ?_
    simp only [if_true]
    have e : crossbucklaw25_sameChange.f (backC c).f0 (backC c).f1.f0 (backC c).f1.f1 (backC c).f1.f2.f0 (backC c).f1.f2.f1 (backC c).f1.f3 (backC c).f1.f4 a0 a1 a2 a3 a4 a5 a6 = some true := by
      unfold crossbucklaw25_sameChange.f backC
      by_cases hd : c.f0 = true
      · rw [if_pos hd]
        have : a0 = true := hd
        subst this
        simp [c]
      · rw [if_neg hd]
        simp [c]
    rw [e]
    exact Ev.now _
  · simp only [if_neg hr]
    exact Ev.bind awake25_ev (Ev.now _)
end Go.Proofs.YtloclimoffhbhaaDoor.Pure
