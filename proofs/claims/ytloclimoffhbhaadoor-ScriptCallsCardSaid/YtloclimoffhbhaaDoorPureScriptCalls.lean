/- crossbucklaw25.ScriptCalls answers true: the walk shows it whole, for addresses of 32 bits and ports of 16. No condition of its own. -/
import Derived.Test.YtloclimoffhbhaaDoorPScax201
namespace Go.Proofs.YtloclimoffhbhaaDoor.Pure
open Go Go.RowKit Go.Proofs.YtloclimoffhbhaaDoor.PSca Go.Proofs.YtloclimoffhbhaaDoor.Scr
set_option linter.unusedVariables false
theorem u32b {a : Int} (h : (Lit.int .u32 a).wf = true) : 0 ≤ a ∧ a < 4294967296 := by
  simp [Lit.wf, IntKind.min, IntKind.max, IntKind.signed, IntKind.bits] at h
  exact ⟨by omega, by omega⟩
theorem u16b {a : Int} (h : (Lit.int .u16 a).wf = true) : 0 ≤ a ∧ a ≤ 65535 := by
  simp [Lit.wf, IntKind.min, IntKind.max, IntKind.signed, IntKind.bits] at h
  exact ⟨by omega, by omega⟩
theorem ScriptCalls (a0 : Int) (l : List S46) (a2 a3 a4 a5 a6 a7 a8 a9 a10 a11 a12 a13 a14 : Int) (w0 : (Lit.int .i64 a0).wf = true)
    (wl : ∀ q ∈ l, (Lit.int .i64 q.f1.f0).wf = true ∧ (Lit.int .i64 q.f1.f1).wf = true ∧ (Lit.int .u32 q.f1.f2.f0).wf = true ∧ (Lit.int .i64 q.f1.f2.f1).wf = true ∧ (Lit.int .i64 q.f1.f3).wf = true ∧ (Lit.int .i64 q.f1.f4).wf = true)
    (w2 : (Lit.int .i64 a2).wf = true) (w3 : (Lit.int .i64 a3).wf = true) (w4 : (Lit.int .i64 a4).wf = true) (w5 : (Lit.int .u32 a5).wf = true) (w6 : (Lit.int .i64 a6).wf = true) (w7 : (Lit.int .u32 a7).wf = true) (w8 : (Lit.int .i64 a8).wf = true) (w9 : (Lit.int .i64 a9).wf = true)
    (w10 : (Lit.int .u16 a10).wf = true) (w11 : (Lit.int .u16 a11).wf = true) (w12 : (Lit.int .u16 a12).wf = true) (w13 : (Lit.int .u16 a13).wf = true) (w14 : (Lit.int .i64 a14).wf = true) : crossbucklaw25_ScriptCalls.f a0 l a2 a3 a4 a5 a6 a7 a8 a9 a10 a11 a12 a13 a14 = some true := by
  unfold crossbucklaw25_ScriptCalls.f
  rw [if_pos]
  rw [Bool.and_eq_true]
  exact ⟨List.all_eq_true.2 (fun q hq => bdB_iff.2 (u32b (wl q hq).2.2.1)), (bdFB_iff (a6 := a6) (a8 := a8) (a9 := a9)).2 ⟨u32b w5, u32b w7, u16b w10, u16b w11, u16b w12, u16b w13⟩⟩
end Go.Proofs.YtloclimoffhbhaaDoor.Pure
