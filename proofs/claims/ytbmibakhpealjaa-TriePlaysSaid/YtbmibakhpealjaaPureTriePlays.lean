/- crossbucklaw10.TriePlays answers true: the walk shows it whole, for addresses of 32 bits. No condition of its own. -/
import Derived.Test.YtbmibakhpealjaaPTrx56
namespace Go.Proofs.Ytbmibakhpealjaa.Pure
open Go Go.RowKit Go.Proofs.Ytbmibakhpealjaa.PTr
set_option linter.unusedVariables false
theorem wf_u32 {a : Int} (h : (Lit.int .u32 a).wf = true) : 0 ≤ a ∧ a < 2 ^ 32 := by
  simp [Lit.wf, IntKind.min, IntKind.max, IntKind.signed, IntKind.bits] at h
  have e : (2 : Int) ^ 32 = 4294967296 := rfl
  rw [e]
  exact ⟨by omega, by omega⟩
theorem wf_u8 {a : Int} (h : (Lit.int .u8 a).wf = true) : 0 ≤ a ∧ a < 2 ^ 8 := by
  simp [Lit.wf, IntKind.min, IntKind.max, IntKind.signed, IntKind.bits] at h
  have e : (2 : Int) ^ 8 = 256 := rfl
  rw [e]
  exact ⟨by omega, by omega⟩
theorem u32_bd {a : Int} (h : (Lit.int .u32 a).wf = true) : 0 ≤ a ∧ a < 4294967296 := by
  have := wf_u32 h
  have e : (2 : Int) ^ 32 = 4294967296 := rfl
  rw [e] at this
  exact this
theorem u8_bd {a : Int} (h : (Lit.int .u8 a).wf = true) : 0 ≤ a ∧ a < 256 := by
  have := wf_u8 h
  have e : (2 : Int) ^ 8 = 256 := rfl
  rw [e] at this
  exact this
theorem TriePlays (l0 : List S35) (a1 : Int) (a2_0 : Int) (a2_1 : Int) (w0 : ∀ q ∈ l0, (Lit.int .u32 q.f1.f0).wf = true ∧ (Lit.int .i64 q.f1.f1).wf = true ∧ (Lit.int .i64 q.f2).wf = true) (w1 : (Lit.int .u32 a1).wf = true) (w2_0 : (Lit.int .u32 a2_0).wf = true) (w2_1 : (Lit.int .i64 a2_1).wf = true) : crossbucklaw10_TriePlays.f l0 a1 a2_0 a2_1 = some true := by
  unfold crossbucklaw10_TriePlays.f
  rw [if_pos ⟨fun o ho => u32_bd (w0 o ho).1, (u32_bd w1).1, (u32_bd w1).2, (u32_bd w2_0).1, (u32_bd w2_0).2⟩]
end Go.Proofs.Ytbmibakhpealjaa.Pure
