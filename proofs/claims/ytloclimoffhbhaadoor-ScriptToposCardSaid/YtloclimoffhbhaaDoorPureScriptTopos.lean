/- crossbucklaw25.ScriptTopos answers true: the walk shows it whole, for addresses of 32 bits, ports of 16, a place of 8. No condition of its own. -/
import Derived.Test.YtloclimoffhbhaaDoorPStox202
namespace Go.Proofs.YtloclimoffhbhaaDoor.Pure
open Go Go.RowKit Go.Proofs.YtloclimoffhbhaaDoor.PSto Go.Proofs.YtloclimoffhbhaaDoor.Scr
set_option linter.unusedVariables false
theorem u32b {a : Int} (h : (Lit.int .u32 a).wf = true) : 0 ≤ a ∧ a < 4294967296 := by
  simp [Lit.wf, IntKind.min, IntKind.max, IntKind.signed, IntKind.bits] at h
  exact ⟨by omega, by omega⟩
theorem u16b {a : Int} (h : (Lit.int .u16 a).wf = true) : 0 ≤ a ∧ a ≤ 65535 := by
  simp [Lit.wf, IntKind.min, IntKind.max, IntKind.signed, IntKind.bits] at h
  exact ⟨by omega, by omega⟩
theorem u8b {a : Int} (h : (Lit.int .u8 a).wf = true) : 0 ≤ a ∧ a ≤ 255 := by
  simp [Lit.wf, IntKind.min, IntKind.max, IntKind.signed, IntKind.bits] at h
  exact ⟨by omega, by omega⟩
theorem ScriptTopos (P : List Int) (L : List S133) (A : List S130) (a : Int) (wP : ∀ p ∈ P, (Lit.int .i64 p).wf = true) (wL : ∀ p ∈ L, (Lit.int .i64 p.f0).wf = true ∧ (Lit.int .i64 p.f1).wf = true ∧ (Lit.int .i64 p.f2).wf = true ∧ (Lit.int .i64 p.f3).wf = true)
    (wA : ∀ p ∈ A, (Lit.int .i64 p.f0).wf = true ∧ (Lit.int .i64 p.f1).wf = true ∧ (Lit.int .u32 p.f4.f0.f0).wf = true ∧ (Lit.int .i64 p.f4.f0.f1).wf = true ∧ (Lit.int .u32 p.f4.f1.f0).wf = true ∧ (Lit.int .i64 p.f4.f1.f1).wf = true ∧ (Lit.int .i64 p.f4.f2).wf = true ∧ (Lit.int .u16 p.f4.f3.f0).wf = true ∧ (Lit.int .u16 p.f4.f3.f1).wf = true ∧ (Lit.int .u16 p.f4.f4.f0).wf = true ∧ (Lit.int .u16 p.f4.f4.f1).wf = true)
    (wa : (Lit.int .u8 a).wf = true) : crossbucklaw25_ScriptTopos.f P L A a = some true := by
  unfold crossbucklaw25_ScriptTopos.f
  rw [if_pos]
  rw [Bool.and_eq_true]
  refine ⟨List.all_eq_true.2 (fun x hx => bdAB_iff.2 ?_), decide_eq_true (u8b wa)⟩
  obtain ⟨_, _, h1, _, h2, _, _, h3, h4, h5, h6⟩ := wA x hx
  exact ⟨u32b h1, u32b h2, u16b h3, u16b h4, u16b h5, u16b h6⟩
end Go.Proofs.YtloclimoffhbhaaDoor.Pure
