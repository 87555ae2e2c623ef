/- The law RegionFilters: its row, out of its walk and the plain statement Pure.RegionFilters. No condition of its own. -/
import Derived.Test.YtbnjbjjbfbbdcaaRows
import Derived.Test.YtbnjbjjbfbbdcaaRead
import Derived.Test.YtbnjbjjbfbbdcaaPAllx25
import Derived.Test.YtbnjbjjbfbbdcaaPureRegionFilters
import Derived.WalkKit
import Derived.ProofKit
import Derived.OpenShut
import Derived.ShutString
import Derived.ChangeOld
import Derived.Below
import Derived.SizedLaws
import Derived.Lib.SmallJoins
namespace Go.Proofs.Ytbnjbjjbfbbdcaa.regionFilters
open Go.ChangeShapes Go.WideShapes Go.ChangeAt Go.RowKit Go.Proofs.Ytbnjbjjbfbbdcaa.PAll Go.Proofs.YtbnjbjjbfbbdcaaW.PrintWords
open Go.ChangeMaps (open_string shut_string)
set_option linter.unusedVariables false
theorem own : ownKnob Try.prog.godebug = none := by kernel_rfl
theorem laidOut : laidOutB Try.prog = true := by kernel_rfl
theorem cells_37 {H : Type} {enc : TypeId × Value → H} {w : World} {base : Nat} {spare : Nat → Bool} {held : Bool} {fuel : Nat} {cs : List Value} {x : DataW H × List MemPlace} (h : DataW.trod enc Try.prog w base spare held fuel 37 cs = some x) :
    ∃ (a_0 : Int) (a_1 : Int), cs = [.int .u32 a_0, .int .i64 a_1] ∧ (Lit.int .u32 a_0).wf = true ∧ (Lit.int .i64 a_1).wf = true := by
  obtain ⟨ys, m, _, _, hlen, hyl, hf⟩ := DataW.trod_struct Try.underlying37 h
  have hlen2 : cs.length = 2 := hlen
  match ys, hyl with
  | [y0, y1], _ =>
    have g0 : DataW.trod enc Try.prog w base spare held m 32 ((cs.drop 0).take 1) = some y0 := hf 0 _ rfl
    obtain ⟨a_0, e0, _, wa_0⟩ := DataW.trod_int Try.underlying32 g0
    have g1 : DataW.trod enc Try.prog w base spare held m 3 ((cs.drop 1).take 1) = some y1 := hf 1 _ rfl
    obtain ⟨a_1, e1, _, wa_1⟩ := DataW.trod_int Try.underlying3 g1
    match cs, hlen2 with
    | [z0, z1], _ =>
      simp at e0
      simp at e1
      obtain rfl := e0
      obtain rfl := e1
      exact ⟨a_0, a_1, rfl, wa_0, wa_1⟩
theorem cells_24 {H : Type} {enc : TypeId × Value → H} {w : World} {base : Nat} {spare : Nat → Bool} {held : Bool} {fuel : Nat} {cs : List Value} {x : DataW H × List MemPlace} (h : DataW.trod enc Try.prog w base spare held fuel 24 cs = some x) :
    ∃ (a_0 : Int) (a_1 : Int), cs = [.int .u16 a_0, .int .u16 a_1] ∧ (Lit.int .u16 a_0).wf = true ∧ (Lit.int .u16 a_1).wf = true := by
  obtain ⟨ys, m, _, _, hlen, hyl, hf⟩ := DataW.trod_struct Try.underlying24 h
  have hlen2 : cs.length = 2 := hlen
  match ys, hyl with
  | [y0, y1], _ =>
    have g0 : DataW.trod enc Try.prog w base spare held m 22 ((cs.drop 0).take 1) = some y0 := hf 0 _ rfl
    obtain ⟨a_0, e0, _, wa_0⟩ := DataW.trod_int Try.underlying22 g0
    have g1 : DataW.trod enc Try.prog w base spare held m 22 ((cs.drop 1).take 1) = some y1 := hf 1 _ rfl
    obtain ⟨a_1, e1, _, wa_1⟩ := DataW.trod_int Try.underlying22 g1
    match cs, hlen2 with
    | [z0, z1], _ =>
      simp at e0
      simp at e1
      obtain rfl := e0
      obtain rfl := e1
      exact ⟨a_0, a_1, rfl, wa_0, wa_1⟩
theorem cells_49 {H : Type} {enc : TypeId × Value → H} {w : World} {base : Nat} {spare : Nat → Bool} {held : Bool} {fuel : Nat} {cs : List Value} {x : DataW H × List MemPlace} (h : DataW.trod enc Try.prog w base spare held fuel 49 cs = some x) :
    ∃ (a_0_0 : Int) (a_0_1 : Int) (a_1_0 : Int) (a_1_1 : Int) (a_2 : Int) (a_3_0 : Int) (a_3_1 : Int) (a_4_0 : Int) (a_4_1 : Int), cs = [.int .u32 a_0_0, .int .i64 a_0_1, .int .u32 a_1_0, .int .i64 a_1_1, .int .i64 a_2, .int .u16 a_3_0, .int .u16 a_3_1, .int .u16 a_4_0, .int .u16 a_4_1] ∧ (Lit.int .u32 a_0_0).wf = true ∧ (Lit.int .i64 a_0_1).wf = true ∧ (Lit.int .u32 a_1_0).wf = true ∧ (Lit.int .i64 a_1_1).wf = true ∧ (Lit.int .i64 a_2).wf = true ∧ (Lit.int .u16 a_3_0).wf = true ∧ (Lit.int .u16 a_3_1).wf = true ∧ (Lit.int .u16 a_4_0).wf = true ∧ (Lit.int .u16 a_4_1).wf = true := by
  obtain ⟨ys, m, _, _, hlen, hyl, hf⟩ := DataW.trod_struct Try.underlying49 h
  have hlen2 : cs.length = 9 := hlen
  match ys, hyl with
  | [y0, y1, y2, y3, y4], _ =>
    have g0 : DataW.trod enc Try.prog w base spare held m 37 ((cs.drop 0).take 2) = some y0 := hf 0 _ rfl
    obtain ⟨a_0_0, a_0_1, e0, wa_0_0, wa_0_1⟩ := cells_37 g0
    have g1 : DataW.trod enc Try.prog w base spare held m 37 ((cs.drop 2).take 2) = some y1 := hf 1 _ rfl
    obtain ⟨a_1_0, a_1_1, e1, wa_1_0, wa_1_1⟩ := cells_37 g1
    have g2 : DataW.trod enc Try.prog w base spare held m 3 ((cs.drop 4).take 1) = some y2 := hf 2 _ rfl
    obtain ⟨a_2, e2, _, wa_2⟩ := DataW.trod_int Try.underlying3 g2
    have g3 : DataW.trod enc Try.prog w base spare held m 24 ((cs.drop 5).take 2) = some y3 := hf 3 _ rfl
    obtain ⟨a_3_0, a_3_1, e3, wa_3_0, wa_3_1⟩ := cells_24 g3
    have g4 : DataW.trod enc Try.prog w base spare held m 24 ((cs.drop 7).take 2) = some y4 := hf 4 _ rfl
    obtain ⟨a_4_0, a_4_1, e4, wa_4_0, wa_4_1⟩ := cells_24 g4
    match cs, hlen2 with
    | [z0, z1, z2, z3, z4, z5, z6, z7, z8], _ =>
      simp at e0
      simp at e1
      simp at e2
      simp at e3
      simp at e4
      obtain ⟨rfl, rfl⟩ := e0
      obtain ⟨rfl, rfl⟩ := e1
      obtain rfl := e2
      obtain ⟨rfl, rfl⟩ := e3
      obtain ⟨rfl, rfl⟩ := e4
      exact ⟨a_0_0, a_0_1, a_1_0, a_1_1, a_2, a_3_0, a_3_1, a_4_0, a_4_1, rfl, wa_0_0, wa_0_1, wa_1_0, wa_1_1, wa_2, wa_3_0, wa_3_1, wa_4_0, wa_4_1⟩
theorem cells_51 {H : Type} {enc : TypeId × Value → H} {w : World} {base : Nat} {spare : Nat → Bool} {held : Bool} {fuel : Nat} {cs : List Value} {x : DataW H × List MemPlace} (h : DataW.trod enc Try.prog w base spare held fuel 51 cs = some x) :
    ∃ (a_0 : Int) (a_1 : Int) (a_2 : Int) (a_3 : Int) (a_4 : Int), cs = [.int .u32 a_0, .int .u32 a_1, .int .u8 a_2, .int .u16 a_3, .int .u16 a_4] ∧ (Lit.int .u32 a_0).wf = true ∧ (Lit.int .u32 a_1).wf = true ∧ (Lit.int .u8 a_2).wf = true ∧ (Lit.int .u16 a_3).wf = true ∧ (Lit.int .u16 a_4).wf = true := by
  obtain ⟨ys, m, _, _, hlen, hyl, hf⟩ := DataW.trod_struct Try.underlying51 h
  have hlen2 : cs.length = 5 := hlen
  match ys, hyl with
  | [y0, y1, y2, y3, y4], _ =>
    have g0 : DataW.trod enc Try.prog w base spare held m 32 ((cs.drop 0).take 1) = some y0 := hf 0 _ rfl
    obtain ⟨a_0, e0, _, wa_0⟩ := DataW.trod_int Try.underlying32 g0
    have g1 : DataW.trod enc Try.prog w base spare held m 32 ((cs.drop 1).take 1) = some y1 := hf 1 _ rfl
    obtain ⟨a_1, e1, _, wa_1⟩ := DataW.trod_int Try.underlying32 g1
    have g2 : DataW.trod enc Try.prog w base spare held m 5 ((cs.drop 2).take 1) = some y2 := hf 2 _ rfl
    obtain ⟨a_2, e2, _, wa_2⟩ := DataW.trod_int Try.underlying5 g2
    have g3 : DataW.trod enc Try.prog w base spare held m 22 ((cs.drop 3).take 1) = some y3 := hf 3 _ rfl
    obtain ⟨a_3, e3, _, wa_3⟩ := DataW.trod_int Try.underlying22 g3
    have g4 : DataW.trod enc Try.prog w base spare held m 22 ((cs.drop 4).take 1) = some y4 := hf 4 _ rfl
    obtain ⟨a_4, e4, _, wa_4⟩ := DataW.trod_int Try.underlying22 g4
    match cs, hlen2 with
    | [z0, z1, z2, z3, z4], _ =>
      simp at e0
      simp at e1
      simp at e2
      simp at e3
      simp at e4
      obtain rfl := e0
      obtain rfl := e1
      obtain rfl := e2
      obtain rfl := e3
      obtain rfl := e4
      exact ⟨a_0, a_1, a_2, a_3, a_4, rfl, wa_0, wa_1, wa_2, wa_3, wa_4⟩
set_option maxRecDepth 100000 in
theorem lifted (os : Os) (started : os.Started) (H : Type) (enc : TypeId × Value → H) :
    ReturnsInHanded {} Try.checked os 8 .any (Rows.regionFiltersSpec.pre6 enc Try.prog Try.f8 Rows.regionFiltersRow.domain false) (Rows.regionFiltersSpec.post enc Try.prog Try.f8 false true false false) := by
  refine returnsInHanded_of_change_sized (C := Try.checked) own started (by kernel_rfl) Try.func8
    (ChangeSpec.witness6 (enc := enc) (C := Try.checked) false ⟨#[], #[.int .i64 0, .agg #[.int .u32 0, .int .i64 0, .int .u32 0, .int .i64 0, .int .i64 0, .int .u16 0, .int .u16 0, .int .u16 0, .int .u16 0], .agg #[.int .u32 0, .int .u32 0, .int .u8 0, .int .u16 0, .int .u16 0]], []⟩ 8 (by kernel_rfl) (by kernel_rfl) (by kernel_rfl) (by kernel_rfl)) ?_
  intro W base args ds gs before hval0 hW hcnd hsz0 _
  have hsz : (DataW.weightsEach Try.prog (Try.f8.params.toList ++ Rows.regionFiltersSpec.plain.varTypes Try.prog) (ds ++ gs)).all (· ≤ reachBytes) = true := hsz0
  have hval : ∀ (j : Nat) t v, Try.f8.params[j]? = some t → args[j]? = some v → Value.okWide Try.prog W .any base t v := hval0
  have hW' := hW
  obtain ⟨p, q, hA0, hV, rfl, hfz, hnd⟩ := hW
  have hA : DataW.TrodAll enc Try.prog W 0 (fun _ => true) true Try.f8.params.toList args.toList ds p := hA0
  rw [Try.params8] at hA hval hsz
  obtain ⟨v0, vs0, d0, ds0, p0, q0, hargs, rfl, rfl, h0, r0⟩ := trodAll_cons hA
  obtain ⟨v1, vs1, d1, ds1, p1, q1, rfl, rfl, rfl, h1, r1⟩ := trodAll_cons r0
  obtain ⟨v2, vs2, d2, ds2, p2, q2, rfl, rfl, rfl, h2, r2⟩ := trodAll_cons r1
  obtain ⟨rfl, rfl, rfl⟩ := trodAll_nil r2
  obtain rfl : args = #[v0, v1, v2] := by cases args; simp_all
  obtain ⟨rfl, rfl⟩ := trodVars_none hV
  have k0 := h0
  have lt0 : ∀ x ∈ p0, x.block < W.heap.size := by obtain ⟨m, hm⟩ := k0; exact DataW.trod_lt m _ _ _ hm
  have k1 := h1
  have lt1 : ∀ x ∈ p1, x.block < W.heap.size := by obtain ⟨m, hm⟩ := k1; exact DataW.trod_lt m _ _ _ hm
  have k2 := h2
  have lt2 : ∀ x ∈ p2, x.block < W.heap.size := by obtain ⟨m, hm⟩ := k2; exact DataW.trod_lt m _ _ _ hm
  obtain ⟨a0, rfl, _, _, w0⟩ := open_int Try.underlying3 (hval 0 3 v0 rfl rfl) h0
  obtain ⟨cs1, rfl, _⟩ := okWide_struct Try.underlying49 (hval 1 49 v1 rfl rfl)
  obtain ⟨fuel1, hf1⟩ := h1
  obtain ⟨a1_0_0, a1_0_1, a1_1_0, a1_1_1, a1_2, a1_3_0, a1_3_1, a1_4_0, a1_4_1, ce1, wa1_0_0, wa1_0_1, wa1_1_0, wa1_1_1, wa1_2, wa1_3_0, wa1_3_1, wa1_4_0, wa1_4_1⟩ := cells_49 hf1
  obtain rfl : cs1 = #[.int .u32 a1_0_0, .int .i64 a1_0_1, .int .u32 a1_1_0, .int .i64 a1_1_1, .int .i64 a1_2, .int .u16 a1_3_0, .int .u16 a1_3_1, .int .u16 a1_4_0, .int .u16 a1_4_1] := by cases cs1; simpa [Value.cells] using ce1
  obtain ⟨cs2, rfl, _⟩ := okWide_struct Try.underlying51 (hval 2 51 v2 rfl rfl)
  obtain ⟨fuel2, hf2⟩ := h2
  obtain ⟨a2_0, a2_1, a2_2, a2_3, a2_4, ce2, wa2_0, wa2_1, wa2_2, wa2_3, wa2_4⟩ := cells_51 hf2
  obtain rfl : cs2 = #[.int .u32 a2_0, .int .u32 a2_1, .int .u8 a2_2, .int .u16 a2_3, .int .u16 a2_4] := by cases cs2; simpa [Value.cells] using ce2
  obtain ⟨k, hk⟩ := Pure.RegionFilters a0 a1_0_0 a1_0_1 a1_1_0 a1_1_1 a1_2 a1_3_0 a1_3_1 a1_4_0 a1_4_1 a2_0 a2_1 a2_2 a2_3 a2_4 w0 wa1_0_0 wa1_0_1 wa1_1_0 wa1_1_1 wa1_2 wa1_3_0 wa1_3_1 wa1_4_0 wa1_4_1 wa2_0 wa2_1 wa2_2 wa2_3 wa2_4
  refine (crossbucklaw16_RegionFilters.calls k a0 a1_0_0 a1_0_1 a1_1_0 a1_1_1 a1_2 a1_3_0 a1_3_1 a1_4_0 a1_4_1 a2_0 a2_1 a2_2 a2_3 a2_4 true W hk (Aside0.mk rfl)).mono fun e W' ⟨he, bel0⟩ => ?_
  have bel : Below W.heap.size W W' := bel0
  subst he
  exact ⟨_, rfl, _, _, _, [], _, [], hW', trodAll_mk1 (shut_bool Try.underlying4 _), (trodAll_cons_mk (Below.trod laidOut (by kernel_rfl) (of_decide_eq_true (by kernel_rfl)) k0 bel lt0) (trodAll_cons_mk (Below.trod laidOut (by kernel_rfl) (of_decide_eq_true (by kernel_rfl)) k1 bel lt1) (trodAll_cons_mk (Below.trod laidOut (by kernel_rfl) (of_decide_eq_true (by kernel_rfl)) k2 bel lt2) trodAll_mk0))), rfl, bel.frame _, fun h => by cases h⟩
theorem over : Rows.regionFiltersRow.holds Try.pinned (OpenSpec.ofChange Rows.regionFiltersSpec) :=
  OpenClaim.holds_of_wide 8 Try.f8 rfl rfl rfl rfl rfl rfl rfl ⟨rfl, rfl, rfl, rfl, rfl⟩ rfl rfl rfl rfl rfl (by kernel_rfl) Try.func8 (by kernel_rfl)
    (of_decide_eq_true (by kernel_rfl)) (by unfold Func.isWrapper; first | (rw [if_pos (by decide +kernel)]; kernel_rfl) | (rw [if_neg (by decide +kernel)]; exact ⟨rfl, rfl⟩))
    (fun os started H enc _ => lifted os started H enc)
theorem proved : Rows.RegionFiltersSaid := over
#print axioms proved
end Go.Proofs.Ytbnjbjjbfbbdcaa.regionFilters
namespace Go.Proofs.Ytbnjbjjbfbbdcaa
/-- The row, under a short name, for the claim. -/
theorem regionFilters_holds : Rows.RegionFiltersSaid := regionFilters.proved
end Go.Proofs.Ytbnjbjjbfbbdcaa
