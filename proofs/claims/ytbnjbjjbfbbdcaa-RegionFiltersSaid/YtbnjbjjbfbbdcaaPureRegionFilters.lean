/- crossbucklaw16.RegionFilters answers true for every shift, filter and header: as numbers. No condition of its own. -/
import Derived.Test.YtbnjbjjbfbbdcaaFactsR
import Derived.Test.YtbnjbjjbfbbdcaaFactsC
import Derived.Test.YtbnjbjjbfbbdcaaFactsF
import Derived.Test.YtbnjbjjbfbbdcaaPAllx23
import Derived.Test.YtbnjbjjbfbbdcaaPAllx25
namespace Go.Proofs.Ytbnjbjjbfbbdcaa.Pure
open Go Go.RowKit Go.Proofs.Ytbnjbjjbfbbdcaa.PAll Go.Proofs.YtbnjbjjbfbbdcaaW.PrintWords Go.Proofs.YtbnjbjjbfbbdcaaW.PrintLast Go.Proofs.YtbnjbjjbfbbdcaaW.PrintMore Go.Proofs.Ytbnjbjjbfbbdcaa.Bits Go.Proofs.Ytbnjbjjbfbbdcaa.Facts

theorem part_out {k : Nat} {s i : Int} {f : Flt} (hk : 1 ≤ k) (h : i < 0 ∨ cnt s ≤ i) : region_Part.f k s i f.da f.db f.sa f.sb f.pr f.sl f.sh f.dl f.dh = some (0, 0, 0, 0, 0, 0, 0, 0, 0, false) := by
  obtain ⟨k, rfl⟩ : ∃ m, k = m + 1 := ⟨k - 1, by omega⟩
  unfold region_Part.f
  rw [prefix_out h]
  simp only [Option.bind_some]
  by_cases c : i < 0
  · rw [if_pos c, region_Part.j0, if_pos rfl]
  · rw [if_neg c, count_eq]
    simp only [Option.bind_some]
    rw [if_pos (by omega), region_Part.j0, if_pos rfl]

/-- What a region has of a filter: the region's own addresses, or the filter's. -/
theorem part_in {k : Nat} {s i : Int} {f : Flt} (hk : 1 ≤ k) (hs : okS s) (h0 : 0 ≤ i) (h1 : i < cnt s) (hf : f.bd) (d0 : 0 ≤ f.db) (d1 : f.db ≤ 32) :
    region_Part.f k s i f.da f.db f.sa f.sb f.pr f.sl f.sh f.dl f.dh = some (if meetB (i * sz s) s f.da f.db = true then (if withB (i * sz s) s f.da f.db = true then (i * sz s, s, f.sa, f.sb, f.pr, f.sl, f.sh, f.dl, f.dh, true) else (f.da, f.db, f.sa, f.sb, f.pr, f.sl, f.sh, f.dl, f.dh, true)) else (0, 0, 0, 0, 0, 0, 0, 0, 0, false)) := by
  obtain ⟨k, rfl⟩ : ∃ m, k = m + 1 := ⟨k - 1, by omega⟩
  have hz := sz_pos s
  have hm := cnt_sz hs
  have hb : i * sz s < 4294967296 := by
    have := Int.mul_lt_mul_of_pos_right h1 hz
    omega
  have hb0 : 0 ≤ i * sz s := Int.mul_nonneg h0 (by omega)
  obtain ⟨a0, a1⟩ := hf.1
  have hs' := hs.1
  have hs2 := hs.2
  unfold region_Part.f
  rw [prefix_in h0 h1]
  simp only [Option.bind_some]
  rw [if_neg (by omega), count_eq]
  simp only [Option.bind_some]
  rw [if_neg (by omega), meet_eq hs' (by omega) d0 d1 hb0 hb a0 a1]
  simp only [Option.bind_some]
  rw [region_Part.j0]
  cases meetB (i * sz s) s f.da f.db with
  | false => rfl
  | true =>
    rw [if_neg (by decide), within_eq d0 d1 hb0 hb a0 a1, if_pos rfl]
    simp only [Option.bind_some]
    cases withB (i * sz s) s f.da f.db with
    | true => rfl
    | false => rfl

/-- The filter with the region's own addresses. -/
def cutF (f : Flt) (a b : Int) : Flt := ⟨a, b, f.sa, f.sb, f.pr, f.sl, f.sh, f.dl, f.dh⟩

theorem filters_loop (s : Int) (f : Flt) (h : Hdr) (hs : okS s) (hf : f.bd) (hh : h.bd) (hc : checkV f = 0) (d : Nat) : ∀ (k : Nat) (x : Int), 0 ≤ x → x + d = cnt s → 2 * d + 60 < k →
    crossbucklaw16_RegionFilters.l0 k s (cnt s) x f.da f.db f.sa f.sb f.pr f.sl f.sh f.dl f.dh h.dst h.src h.pr h.sp h.dp = some true := by
  induction d with
  | zero =>
    intro k x hx0 hx hk
    obtain ⟨k, rfl⟩ : ∃ m, k = m + 1 := ⟨k - 1, by omega⟩
    have hl := cnt_le s
    rw [crossbucklaw16_RegionFilters.l0, if_neg (by omega), part_out (by omega) (.inl (by omega)), part_out (by omega) (.inr (by omega)), awake16]
    rfl
  | succ d ih =>
    intro k x hx0 hx hk
    obtain ⟨k, rfl⟩ : ∃ m, k = m + 2 := ⟨k - 2, by omega⟩
    obtain ⟨r1, r2, p0, p1, q1, q2⟩ := checkV_zero.1 hc
    obtain ⟨db0, db1, _⟩ := rightB_iff.1 r1
    obtain ⟨sb0, sb1, _⟩ := rightB_iff.1 r2
    have hl := cnt_le s
    have hz := sz_pos s
    have hm := cnt_sz hs
    have hb : x * sz s < 4294967296 := by
      have := Int.mul_lt_mul_of_pos_right (show x < cnt s by omega) hz
      omega
    have hb0 : 0 ≤ x * sz s := Int.mul_nonneg hx0 (by omega)
    have hs0 := hs.1
    have hs1 := hs.2
    have hnext : crossbucklaw16_RegionFilters.l0 k s (cnt s) (wrap64 (x + 1)) f.da f.db f.sa f.sb f.pr f.sl f.sh f.dl f.dh h.dst h.src h.pr h.sp h.dp = some true := by
      rw [wrap64_id _ (by omega) (by omega)]
      exact ih k (x + 1) (by omega) (by omega) (by omega)
    have hj : ∀ (ok b : Bool) (g : Flt), (ok = true → checkV g = 0 ∧ g.bd ∧ (0 ≤ g.db ∧ g.db ≤ 32) ∧ (0 ≤ g.sb ∧ g.sb ≤ 32) ∧ matchB g h = b) → (ok = false → b = false ∧ g = ⟨0, 0, 0, 0, 0, 0, 0, 0, 0⟩) →
        crossbucklaw16_RegionFilters.j2 (k + 1) s ok b (cnt s) x f.da f.db f.sa f.sb f.pr f.sl f.sh f.dl f.dh h.dst h.src h.pr h.sp h.dp g.da g.db g.sa g.sb g.pr g.sl g.sh g.dl g.dh = some true := by
      intro ok b g h1 h2
      rw [crossbucklaw16_RegionFilters.j2]
      cases ok with
      | true =>
        obtain ⟨e1, e2, ⟨e3, e4⟩, ⟨e5, e6⟩, e7⟩ := h1 rfl
        rw [if_pos rfl, check_eq (by omega) e2, e1]
        simp only [Option.bind_some]
        rw [if_pos trivial, match_eq (by omega) e2 hh e3 e4 e5 e6, e7]
        simp only [Option.bind_some]
        rw [if_neg (by simp)]
        exact hnext
      | false =>
        obtain ⟨rfl, rfl⟩ := h2 rfl
        rw [if_neg (by decide), if_neg (by decide), if_neg (by decide)]
        exact hnext
    obtain ⟨i0, i1⟩ := hh.1
    rw [crossbucklaw16_RegionFilters.l0, if_pos (by omega), part_in (by omega) hs hx0 (by omega) hf db0 db1]
    simp only [Option.bind_some]
    rw [ref16Index_eq i0 i1]
    simp only [Option.bind_some]
    rw [idx_ok hs, match_eq (by omega) hf hh db0 db1 sb0 sb1]
    simp only [Option.bind_some]
    have hreg : hasB (x * sz s) s h.dst = (x == h.dst / sz s) := has_idx s x h.dst
    -- what the answer must be: whether the header is of this region, and passes
    have key : ∀ b : Bool, b = (x == h.dst / sz s && matchB f h) → ∀ t : Int × Int × Int × Int × Int × Int × Int × Int × Int × Bool, t = (if meetB (x * sz s) s f.da f.db = true then (if withB (x * sz s) s f.da f.db = true then (x * sz s, s, f.sa, f.sb, f.pr, f.sl, f.sh, f.dl, f.dh, true) else (f.da, f.db, f.sa, f.sb, f.pr, f.sl, f.sh, f.dl, f.dh, true)) else (0, 0, 0, 0, 0, 0, 0, 0, 0, false)) →
        crossbucklaw16_RegionFilters.j2 (k + 1) s t.2.2.2.2.2.2.2.2.2 b (cnt s) x f.da f.db f.sa f.sb f.pr f.sl f.sh f.dl f.dh h.dst h.src h.pr h.sp h.dp t.1 t.2.1 t.2.2.1 t.2.2.2.1 t.2.2.2.2.1 t.2.2.2.2.2.1 t.2.2.2.2.2.2.1 t.2.2.2.2.2.2.2.1 t.2.2.2.2.2.2.2.2.1 = some true := by
      intro b hb' t ht
      by_cases cm : meetB (x * sz s) s f.da f.db = true
      · rw [if_pos cm] at ht
        by_cases cw : withB (x * sz s) s f.da f.db = true
        · rw [if_pos cw] at ht
          subst ht
          refine hj true b (cutF f (x * sz s) s) (fun _ => ⟨?_, ?_, ⟨hs0, by show s ≤ 32; omega⟩, ⟨sb0, sb1⟩, ?_⟩) (fun h => by cases h)
          · exact checkV_zero.2 ⟨rightB_iff.2 ⟨hs0, by show s ≤ 32; omega, Int.mul_emod_left ..⟩, r2, p0, p1, q1, q2⟩
          · exact ⟨⟨hb0, hb⟩, hf.2⟩
          · show (restB f h && (hasB (x * sz s) s h.dst && hasB f.sa f.sb h.src)) = b
            rw [hb', hreg]
            unfold matchB
            cases e : (x == h.dst / sz s) with
            | false => simp
            | true =>
              have hd : hasB f.da f.db h.dst = true := by
                unfold withB at cw
                simp only [Bool.and_eq_true, decide_eq_true_iff] at cw
                exact has_nest cw.1 (by omega) cw.2 (by rw [hreg, e])
              rw [hd]; simp
        · rw [if_neg cw] at ht
          subst ht
          refine hj true b f (fun _ => ⟨hc, hf, ⟨db0, db1⟩, ⟨sb0, sb1⟩, ?_⟩) (fun h => by cases h)
          rw [hb']
          cases e : matchB f h with
          | false => simp
          | true =>
            have hd : hasB f.da f.db h.dst = true := by
              unfold matchB at e
              simp only [Bool.and_eq_true] at e
              exact e.2.1
            have hw : s ≤ f.db ∧ hasB (x * sz s) s f.da = true := by
              rcases meetB_iff.1 cm with ⟨c1, c2⟩ | c
              · exact absurd (show withB (x * sz s) s f.da f.db = true by unfold withB; simp [c1, c2]) cw
              · exact c
            have := has_nest hw.1 db1 hw.2 hd
            rw [hreg] at this
            rw [this]; rfl
      · rw [if_neg cm] at ht
        subst ht
        refine hj false b ⟨0, 0, 0, 0, 0, 0, 0, 0, 0⟩ (fun h => by cases h) (fun _ => ⟨?_, rfl⟩)
        rw [hb']
        cases e : (x == h.dst / sz s) with
        | false => rfl
        | true =>
          cases e2 : matchB f h with
          | false => rfl
          | true =>
            unfold matchB at e2
            simp only [Bool.and_eq_true] at e2
            exact absurd (meet_common (by omega) db1 (by rw [hreg, e]) e2.2.1) cm
    by_cases c : x = h.dst / sz s
    · rw [if_pos c]
      exact key _ (by rw [beq_iff_eq.2 c]; rfl) _ rfl
    · rw [if_neg c]
      exact key _ (by rw [beq_eq_false_iff_ne.2 c]; rfl) _ rfl

theorem fil_u32 {a : Int} (h : (Lit.int .u32 a).wf = true) : 0 ≤ a ∧ a < 4294967296 := by
  simp [Lit.wf, IntKind.min, IntKind.max, IntKind.signed, IntKind.bits] at h
  exact ⟨by omega, by omega⟩
theorem fil_u16 {a : Int} (h : (Lit.int .u16 a).wf = true) : 0 ≤ a ∧ a < 65536 := by
  simp [Lit.wf, IntKind.min, IntKind.max, IntKind.signed, IntKind.bits] at h
  exact ⟨by omega, by omega⟩
theorem fil_u8 {a : Int} (h : (Lit.int .u8 a).wf = true) : 0 ≤ a ∧ a < 256 := by
  simp [Lit.wf, IntKind.min, IntKind.max, IntKind.signed, IntKind.bits] at h
  exact ⟨by omega, by omega⟩

theorem RegionFilters (s da db sa sb pr sl sh dl dh hd hs hp hsp hdp : Int) (_ : (Lit.int .i64 s).wf = true) (w0 : (Lit.int .u32 da).wf = true) (_ : (Lit.int .i64 db).wf = true) (w2 : (Lit.int .u32 sa).wf = true) (_ : (Lit.int .i64 sb).wf = true) (_ : (Lit.int .i64 pr).wf = true)
    (w5 : (Lit.int .u16 sl).wf = true) (w6 : (Lit.int .u16 sh).wf = true) (w7 : (Lit.int .u16 dl).wf = true) (w8 : (Lit.int .u16 dh).wf = true) (x0 : (Lit.int .u32 hd).wf = true) (x1 : (Lit.int .u32 hs).wf = true) (x2 : (Lit.int .u8 hp).wf = true) (x3 : (Lit.int .u16 hsp).wf = true) (x4 : (Lit.int .u16 hdp).wf = true) :
    ∃ k, crossbucklaw16_RegionFilters.f k s da db sa sb pr sl sh dl dh hd hs hp hsp hdp = some true := by
  have hf : (⟨da, db, sa, sb, pr, sl, sh, dl, dh⟩ : Flt).bd := ⟨fil_u32 w0, fil_u32 w2, fil_u16 w5, fil_u16 w6, fil_u16 w7, fil_u16 w8⟩
  have hh : (⟨hd, hs, hp, hsp, hdp⟩ : Hdr).bd := ⟨fil_u32 x0, fil_u32 x1, fil_u8 x2, fil_u16 x3, fil_u16 x4⟩
  refine ⟨102, ?_⟩
  have hT : ∀ k, crossbucklaw16_RegionFilters.j0 (k + 1) s true da db sa sb pr sl sh dl dh hd hs hp hsp hdp = some true := by
    intro k
    rw [crossbucklaw16_RegionFilters.j0, if_pos rfl, awake16]; rfl
  unfold crossbucklaw16_RegionFilters.f
  have e := check_eq (k := 102) (by omega) hf
  simp only at e
  rw [e]
  simp only [Option.bind_some]
  by_cases c : checkV ⟨da, db, sa, sb, pr, sl, sh, dl, dh⟩ = 0
  · rw [if_pos c, ref16Count_eq]
    simp only [Option.bind_some]
    by_cases o : okS s
    · have := cnt_pos o
      have hl := cnt_le s
      rw [beq_eq_false_iff_ne.2 (by omega), crossbucklaw16_RegionFilters.j0, if_neg (by decide), ref16Count_eq]
      simp only [Option.bind_some]
      exact filters_loop s _ _ o hf hh c (cnt s).toNat 101 0 (by omega) (by omega) (by omega)
    · rw [cnt_zero o]
      exact hT 101
  · rw [if_neg c]
    exact hT 101
end Go.Proofs.Ytbnjbjjbfbbdcaa.Pure
