/- crossbucklaw04.FilterParts answers true for every filter and header. No condition of its own. -/
import Derived.Test.YtloclimoffhbhaaDoorPartsF
import Derived.Test.YtloclimoffhbhaaDoorPFqx8
namespace Go.Proofs.YtloclimoffhbhaaDoor.Pure
open Go Go.RowKit Go.Proofs.YtloclimoffhbhaaDoor.PFq Go.Proofs.YtloclimoffhbhaaDoor.Facts
set_option linter.unusedVariables false
theorem FilterParts (a0 a1 a2 a3 a4 a5 a6 a7 a8 h0 h1 h2 h3 h4 : Int)
    (w0 : (Lit.int .u32 a0).wf = true) (w1 : (Lit.int .i64 a1).wf = true) (w2 : (Lit.int .u32 a2).wf = true) (w3 : (Lit.int .i64 a3).wf = true) (w4 : (Lit.int .i64 a4).wf = true)
    (w5 : (Lit.int .u16 a5).wf = true) (w6 : (Lit.int .u16 a6).wf = true) (w7 : (Lit.int .u16 a7).wf = true) (w8 : (Lit.int .u16 a8).wf = true)
    (x0 : (Lit.int .u32 h0).wf = true) (x1 : (Lit.int .u32 h1).wf = true) (x2 : (Lit.int .u8 h2).wf = true) (x3 : (Lit.int .u16 h3).wf = true) (x4 : (Lit.int .u16 h4).wf = true) :
    ∃ k, crossbucklaw04_FilterParts.f k a0 a1 a2 a3 a4 a5 a6 a7 a8 h0 h1 h2 h3 h4 = some true := by
  refine ⟨0, ?_⟩
  unfold crossbucklaw04_FilterParts.f
  rw [if_pos]
  exact ⟨⟨u32_bd w0, u32_bd w2, u16_bd w5, u16_bd w6, u16_bd w7, u16_bd w8⟩, ⟨u32_bd x0, u32_bd x1, u8_bd x2, u16_bd x3, u16_bd x4⟩⟩
end Go.Proofs.YtloclimoffhbhaaDoor.Pure
