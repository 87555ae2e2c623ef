/- crossbucklaw02.HdrTexts answers true for every header. No condition of its own. -/
import Derived.Test.YtloclimoffhbhaaDoorHdrText
import Derived.Test.YtloclimoffhbhaaDoorPHdmx3
namespace Go.Proofs.YtloclimoffhbhaaDoor.Pure
open Go Go.RowKit Go.Proofs.YtloclimoffhbhaaDoor.PHdm Go.Proofs.YtloclimoffhbhaaDoorW.PrintWords Go.Proofs.YtloclimoffhbhaaDoorW.PrintLast Go.Proofs.YtloclimoffhbhaaDoorW.PrintMore Go.Proofs.YtloclimoffhbhaaDoor.Bits Go.Proofs.YtloclimoffhbhaaDoor.Text Go.Proofs.YtloclimoffhbhaaDoor.Dec
set_option linter.unusedVariables false

theorem HdrTexts (a0 a1 a2 a3 a4 : Int) (w0 : (Lit.int .u32 a0).wf = true) (w1 : (Lit.int .u32 a1).wf = true) (w2 : (Lit.int .u8 a2).wf = true) (w3 : (Lit.int .u16 a3).wf = true) (w4 : (Lit.int .u16 a4).wf = true) :
    ∃ k, crossbucklaw02_HdrTexts.f k a0 a1 a2 a3 a4 = some true := by
  have h0 := wf_u32 w0
  have h1 := wf_u32 w1
  have h2 := wf_u8 w2
  have h3 := wf_u16 w3
  have h4 := wf_u16 w4
  have e32 : (2 : Int) ^ 32 = 4294967296 := rfl
  have e16 : (2 : Int) ^ 16 = 65536 := rfl
  have e8 : (2 : Int) ^ 8 = 256 := rfl
  rw [e32] at h0 h1
  rw [e8] at h2
  rw [e16] at h3 h4
  obtain ⟨a, rfl⟩ := Int.eq_ofNat_of_zero_le h0.1
  obtain ⟨b, rfl⟩ := Int.eq_ofNat_of_zero_le h1.1
  obtain ⟨p, rfl⟩ := Int.eq_ofNat_of_zero_le h2.1
  obtain ⟨q, rfl⟩ := Int.eq_ofNat_of_zero_le h3.1
  obtain ⟨r, rfl⟩ := Int.eq_ofNat_of_zero_le h4.1
  refine ⟨1 + 5, ?_⟩
  have ea : hdr_Addr.f (1 + 5) (a : Int) = some (B (addrT a)) := addr_print 1 a (by omega)
  have er : crossbuckref02_Addr.f (1 + 5) (a : Int) = some (B (addrT a)) := addr_ref 1 a (by omega)
  unfold crossbucklaw02_HdrTexts.f
  rw [hdr_print 1 (by omega) (by omega) (by omega) (by omega) (by omega), Option.bind_some, hdr_read 1 (by omega) (by omega) (by omega) (by omega) (by omega), Option.bind_some, ea, Option.bind_some, addrT_read 1 a (by omega), Option.bind_some, awake02 0, Option.bind_some, if_pos rfl,
    hdr_ref 1 (by omega) (by omega) (by omega) (by omega) (by omega), Option.bind_some, if_pos rfl, if_pos rfl, if_pos (by simp), if_pos rfl, if_pos rfl, Option.bind_some, er, Option.bind_some, beq_self_eq_true]
end Go.Proofs.YtloclimoffhbhaaDoor.Pure
