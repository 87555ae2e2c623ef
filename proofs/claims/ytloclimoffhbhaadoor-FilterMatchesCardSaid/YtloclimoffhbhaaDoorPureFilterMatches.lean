/- crossbucklaw04.FilterMatches answers true for every filter and header: as numbers. No condition of its own. -/
import Derived.Test.YtloclimoffhbhaaDoorFactsG
import Derived.Test.YtloclimoffhbhaaDoorAwake04
import Derived.Test.YtloclimoffhbhaaDoorDec
import Derived.Test.YtloclimoffhbhaaDoorPFmx6
namespace Go.Proofs.YtloclimoffhbhaaDoor.Pure
open Go Go.RowKit Go.Proofs.YtloclimoffhbhaaDoor.PFm Go.Proofs.YtloclimoffhbhaaDoorW.PrintWords Go.Proofs.YtloclimoffhbhaaDoorW.PrintLast Go.Proofs.YtloclimoffhbhaaDoorW.PrintMore Go.Proofs.YtloclimoffhbhaaDoor.Bits Go.Proofs.YtloclimoffhbhaaDoor.Facts Go.Proofs.YtloclimoffhbhaaDoor.Dec
set_option linter.unusedVariables false

theorem u32_bd {a : Int} (h : (Lit.int .u32 a).wf = true) : 0 ≤ a ∧ a < 4294967296 := by
  have := wf_u32 h
  have e : (2 : Int) ^ 32 = 4294967296 := rfl
  rw [e] at this
  exact this
theorem u16_bd {a : Int} (h : (Lit.int .u16 a).wf = true) : 0 ≤ a ∧ a < 65536 := by
  have := wf_u16 h
  have e : (2 : Int) ^ 16 = 65536 := rfl
  rw [e] at this
  exact this
theorem u8_bd {a : Int} (h : (Lit.int .u8 a).wf = true) : 0 ≤ a ∧ a < 256 := by
  have := wf_u8 h
  have e : (2 : Int) ^ 8 = 256 := rfl
  rw [e] at this
  exact this
theorem FilterMatches (a0 a1 a2 a3 a4 a5 a6 a7 a8 h0 h1 h2 h3 h4 : Int)
    (w0 : (Lit.int .u32 a0).wf = true) (w1 : (Lit.int .i64 a1).wf = true) (w2 : (Lit.int .u32 a2).wf = true) (w3 : (Lit.int .i64 a3).wf = true) (w4 : (Lit.int .i64 a4).wf = true)
    (w5 : (Lit.int .u16 a5).wf = true) (w6 : (Lit.int .u16 a6).wf = true) (w7 : (Lit.int .u16 a7).wf = true) (w8 : (Lit.int .u16 a8).wf = true)
    (x0 : (Lit.int .u32 h0).wf = true) (x1 : (Lit.int .u32 h1).wf = true) (x2 : (Lit.int .u8 h2).wf = true) (x3 : (Lit.int .u16 h3).wf = true) (x4 : (Lit.int .u16 h4).wf = true) :
    ∃ k, crossbucklaw04_FilterMatches.f k a0 a1 a2 a3 a4 a5 a6 a7 a8 h0 h1 h2 h3 h4 = some true := by
  let f : Flt := ⟨a0, a1, a2, a3, a4, a5, a6, a7, a8⟩
  let h : Hdr := ⟨h0, h1, h2, h3, h4⟩
  let all : Flt := ⟨0, 0, 0, 0, -1, 0, 65535, 0, 65535⟩
  have hf : f.bd := ⟨u32_bd w0, u32_bd w2, u16_bd w5, u16_bd w6, u16_bd w7, u16_bd w8⟩
  have hh : h.bd := ⟨u32_bd x0, u32_bd x1, u8_bd x2, u16_bd x3, u16_bd x4⟩
  have ha : all.bd := ⟨⟨by decide, by decide⟩, ⟨by decide, by decide⟩, ⟨by decide, by decide⟩, ⟨by decide, by decide⟩, ⟨by decide, by decide⟩, ⟨by decide, by decide⟩⟩
  refine ⟨199 + 1, ?_⟩
  have e1 : filter_Check.f (199 + 1) a0 a1 a2 a3 a4 a5 a6 a7 a8 = some (checkV f) := tcheck_eq (f := f) (by omega) hf
  have e2 : ∀ k, 33 ≤ k → crossbuckref04_Check.f k a0 a1 a2 a3 a4 a5 a6 a7 a8 = some (checkV f) := fun k hk => check_eq (f := f) hk hf
  have e3 : filter_Match.f 0 0 0 0 (-1) 0 65535 0 65535 h0 h1 h2 h3 h4 = some (matchB all h) := tmatch_eq (f := all) (h := h) ha hh (by decide) (by decide) (by decide) (by decide)
  have e4 : matchB all h = true := by
    obtain ⟨⟨p0, p1⟩, ⟨q0, q1⟩, _, ⟨r0, r1⟩, ⟨s0, s1⟩⟩ := hh
    have z : sz 0 = 4294967296 := by decide
    have hd : ∀ x : Int, 0 ≤ x → x < 4294967296 → hasB 0 0 x = true := by
      intro x y0 y1
      rw [hasB_iff, z]
      omega
    show (((-1 : Int) == -1 || (-1 : Int) == h2) && (decide ((0 : Int) ≤ h3) && decide (h3 ≤ 65535)) && (decide ((0 : Int) ≤ h4) && decide (h4 ≤ 65535)) && (hasB 0 0 h0 && hasB 0 0 h1)) = true
    rw [hd h0 p0 p1, hd h1 q0 q1, decide_eq_true r0, decide_eq_true (show h3 ≤ 65535 by have : h3 < 65536 := r1; omega), decide_eq_true s0, decide_eq_true (show h4 ≤ 65535 by have : h4 < 65536 := s1; omega)]
    rfl
  have e5 : filter_Check.f (199 + 1) 0 0 0 0 (-1) 0 65535 0 65535 = some 0 := (tcheck_eq (f := all) (by omega) ha).trans (by decide)
  unfold crossbucklaw04_FilterMatches.f
  rw [e1, Option.bind_some, e2 _ (by omega), Option.bind_some, if_pos rfl]
  unfold filter_All.f
  simp only [Option.bind_some]
  rw [e3, e4, Option.bind_some, if_pos rfl, e5, Option.bind_some, crossbucklaw04_FilterMatches.j0, if_neg (by decide), awake04 (by omega), Option.bind_some, if_pos rfl, e2 _ (by omega), Option.bind_some]
  by_cases c : checkV f = 0
  · obtain ⟨r1, r2, _⟩ := checkV_zero.1 c
    obtain ⟨b0, b1, _⟩ := rightB_iff.1 r1
    obtain ⟨c0, c1, _⟩ := rightB_iff.1 r2
    have e6 : filter_Match.f a0 a1 a2 a3 a4 a5 a6 a7 a8 h0 h1 h2 h3 h4 = some (matchB f h) := tmatch_eq (f := f) (h := h) hf hh b0 b1 c0 c1
    have e7 : crossbuckref04_Match.f 199 a0 a1 a2 a3 a4 a5 a6 a7 a8 h0 h1 h2 h3 h4 = some (matchB f h) := match_eq (f := f) (h := h) (by omega) hf hh b0 b1 c0 c1
    rw [if_pos c, e6, Option.bind_some, e7, Option.bind_some, beq_self_eq_true]
  · rw [if_neg c]
end Go.Proofs.YtloclimoffhbhaaDoor.Pure
