/- crossbucklaw04.FilterTexts answers true for every filter and text. No condition of its own. -/
import Derived.Test.YtloclimoffhbhaaDoorFilterText
import Derived.Test.YtloclimoffhbhaaDoorFactsK
import Derived.Test.YtloclimoffhbhaaDoorPFxx11
namespace Go.Proofs.YtloclimoffhbhaaDoor.Pure
open Go Go.RowKit Go.Proofs.YtloclimoffhbhaaDoor.PFx Go.Proofs.YtloclimoffhbhaaDoorW.PrintWords Go.Proofs.YtloclimoffhbhaaDoorW.PrintLast Go.Proofs.YtloclimoffhbhaaDoorW.PrintMore Go.Proofs.YtloclimoffhbhaaDoor.Bits Go.Proofs.YtloclimoffhbhaaDoor.Text Go.Proofs.YtloclimoffhbhaaDoor.Dec Go.Proofs.YtloclimoffhbhaaDoor.Facts
set_option linter.unusedVariables false

theorem u32_bd {a : Int} (h : (Lit.int .u32 a).wf = true) : 0 ≤ a ∧ a < 4294967296 := by
  have := wf_u32 h
  have e : (2 : Int) ^ 32 = 4294967296 := rfl
  rw [e] at this
  exact this
theorem u16_bd {a : Int} (h : (Lit.int .u16 a).wf = true) : 0 ≤ a ∧ a < 65536 := by
  have := wf_u16 h
  have e : (2 : Int) ^ 16 = 65536 := rfl
  rw [e] at this
  exact this
theorem texts_tail (f : Flt) (hf : f.bd) : crossbucklaw04_FilterTexts.j0 (706 + 2) false f.da f.db f.sa f.sb f.pr f.sl f.sh f.dl f.dh = some true := by
  rw [crossbucklaw04_FilterTexts.j0, if_neg (by decide), check_eq (by omega) hf, Option.bind_some]
  by_cases c : checkV f = 0
  · obtain ⟨r1, r2, p0, p1, l1, l2⟩ := checkV_zero.1 c
    obtain ⟨b0, b1, _⟩ := rightB_iff.1 r1
    obtain ⟨d0, d1, _⟩ := rightB_iff.1 r2
    obtain ⟨⟨u0, u1⟩, ⟨v0, v1⟩, ⟨x0, x1⟩, ⟨y0, y1⟩, ⟨z0, z1⟩, ⟨t0, t1⟩⟩ := hf
    rw [if_pos c]
    clear c
    obtain ⟨da, db, sa, sb, pr, sl, sh, dl, dh⟩ := f
    simp only at *
    obtain ⟨a, rfl⟩ := Int.eq_ofNat_of_zero_le u0
    obtain ⟨b, rfl⟩ := Int.eq_ofNat_of_zero_le b0
    obtain ⟨c, rfl⟩ := Int.eq_ofNat_of_zero_le v0
    obtain ⟨d, rfl⟩ := Int.eq_ofNat_of_zero_le d0
    obtain ⟨e, rfl⟩ := Int.eq_ofNat_of_zero_le x0
    obtain ⟨f, rfl⟩ := Int.eq_ofNat_of_zero_le y0
    obtain ⟨g, rfl⟩ := Int.eq_ofNat_of_zero_le z0
    obtain ⟨h, rfl⟩ := Int.eq_ofNat_of_zero_le t0
    have e1 := flt_print 701 (a := a) (b := b) (c := c) (d := d) (e := e) (f := f) (g := g) (h := h) (p := pr) (by omega) (by omega) (by omega) (by omega) p0 p1 (by omega) (by omega) (by omega) (by omega)
    have e2 := flt_ref 701 (a := a) (b := b) (c := c) (d := d) (e := e) (f := f) (g := g) (h := h) (p := pr) (by omega) (by omega) (by omega) (by omega) p0 p1 (by omega) (by omega) (by omega) (by omega)
    have e3 := flt_read 702 (a := a) (b := b) (c := c) (d := d) (e := e) (f := f) (g := g) (h := h) (p := pr) (by omega) (by omega) (by omega) (by omega) p0 p1 (by omega) (by omega) (by omega) (by omega) r1 r2 (by omega) (by omega)
    rw [show 706 + 1 = 701 + 6 from rfl, e1, Option.bind_some, show 701 + 6 = 702 + 5 from rfl, e3, Option.bind_some, awake04 (by omega), Option.bind_some, if_pos rfl, show 702 + 5 = 701 + 6 from rfl, e2, Option.bind_some, if_pos rfl, if_pos rfl]
    simp
  · rw [if_neg c, awake04 (by omega), Option.bind_some]
theorem FilterTexts (a0 a1 a2 a3 a4 a5 a6 a7 a8 : Int) (s : ByteArray)
    (w0 : (Lit.int .u32 a0).wf = true) (w1 : (Lit.int .i64 a1).wf = true) (w2 : (Lit.int .u32 a2).wf = true) (w3 : (Lit.int .i64 a3).wf = true) (w4 : (Lit.int .i64 a4).wf = true)
    (w5 : (Lit.int .u16 a5).wf = true) (w6 : (Lit.int .u16 a6).wf = true) (w7 : (Lit.int .u16 a7).wf = true) (w8 : (Lit.int .u16 a8).wf = true) (ws : s.size ≤ 140737488351232) :
    ∃ k, crossbucklaw04_FilterTexts.f k a0 a1 a2 a3 a4 a5 a6 a7 a8 s = some true := by
  refine ⟨2 + 706, ?_⟩
  unfold crossbucklaw04_FilterTexts.f
  by_cases c : (s.size : Int) > 300
  · rw [if_pos c, awake04 (by omega), Option.bind_some]
  · have hs : s.size ≤ 300 := by omega
    have hf : Flt.bd ⟨a0, a1, a2, a3, a4, a5, a6, a7, a8⟩ := ⟨u32_bd w0, u32_bd w2, u16_bd w5, u16_bd w6, u16_bd w7, u16_bd w8⟩
    have ht := texts_tail ⟨a0, a1, a2, a3, a4, a5, a6, a7, a8⟩ hf
    rw [if_neg c]
    obtain ⟨r, g1, g2, g3⟩ := fparse_both hs 2
    rw [g1, g2, Option.bind_some, Option.bind_some, if_pos rfl, if_neg (by simp)]
    by_cases e : r.2.2.2.2.2.2.2.2.2 = 0
    · rw [if_pos e, g3 e, Option.bind_some, bne_self_eq_false]
      exact ht
    · rw [if_neg e]
      exact ht
end Go.Proofs.YtloclimoffhbhaaDoor.Pure
