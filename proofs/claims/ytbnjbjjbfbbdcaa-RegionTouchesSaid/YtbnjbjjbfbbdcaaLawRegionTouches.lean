/- The law RegionTouches: its row, out of its walk and the plain statement Pure.RegionTouches. No condition of its own. -/
import Derived.Test.YtbnjbjjbfbbdcaaRows
import Derived.Test.YtbnjbjjbfbbdcaaRead
import Derived.Test.YtbnjbjjbfbbdcaaPAllx32
import Derived.Test.YtbnjbjjbfbbdcaaPureRegionTouches
import Derived.WalkKit
import Derived.ProofKit
import Derived.OpenShut
import Derived.ShutString
import Derived.ChangeOld
import Derived.Below
import Derived.SizedLaws
import Derived.Lib.SmallJoins
namespace Go.Proofs.Ytbnjbjjbfbbdcaa.regionTouches
open Go.ChangeShapes Go.WideShapes Go.ChangeAt Go.RowKit Go.Proofs.Ytbnjbjjbfbbdcaa.PAll Go.Proofs.YtbnjbjjbfbbdcaaW.PrintWords
open Go.ChangeMaps (open_string shut_string)
set_option linter.unusedVariables false
theorem own : ownKnob Try.prog.godebug = none := by kernel_rfl
theorem laidOut : laidOutB Try.prog = true := by kernel_rfl
theorem cells_37 {H : Type} {enc : TypeId × Value → H} {w : World} {base : Nat} {spare : Nat → Bool} {held : Bool} {fuel : Nat} {cs : List Value} {x : DataW H × List MemPlace} (h : DataW.trod enc Try.prog w base spare held fuel 37 cs = some x) :
    ∃ (a_0 : Int) (a_1 : Int), cs = [.int .u32 a_0, .int .i64 a_1] ∧ (Lit.int .u32 a_0).wf = true ∧ (Lit.int .i64 a_1).wf = true := by
  obtain ⟨ys, m, _, _, hlen, hyl, hf⟩ := DataW.trod_struct Try.underlying37 h
  have hlen2 : cs.length = 2 := hlen
  match ys, hyl with
  | [y0, y1], _ =>
    have g0 : DataW.trod enc Try.prog w base spare held m 32 ((cs.drop 0).take 1) = some y0 := hf 0 _ rfl
    obtain ⟨a_0, e0, _, wa_0⟩ := DataW.trod_int Try.underlying32 g0
    have g1 : DataW.trod enc Try.prog w base spare held m 3 ((cs.drop 1).take 1) = some y1 := hf 1 _ rfl
    obtain ⟨a_1, e1, _, wa_1⟩ := DataW.trod_int Try.underlying3 g1
    match cs, hlen2 with
    | [z0, z1], _ =>
      simp at e0
      simp at e1
      obtain rfl := e0
      obtain rfl := e1
      exact ⟨a_0, a_1, rfl, wa_0, wa_1⟩
theorem el_37 {H : Type} {enc : TypeId × Value → H} {w : World} {base : Nat} {spare : Nat → Bool} {held : Bool} (n : Nat) (cs : List Value) (x : DataW H × List MemPlace) (h : DataW.trod enc Try.prog w base spare held n 37 cs = some x) :
    ∃ p : S37, k37.K w p cs ∧ ((Lit.int .u32 p.f0).wf = true ∧ (Lit.int .i64 p.f1).wf = true) := by
  obtain ⟨a_0, a_1, rfl, wa_0, wa_1⟩ := cells_37 h
  exact ⟨⟨a_0, a_1⟩, k37_mk w _, wa_0, wa_1⟩
theorem rd_57 {H : Type} {enc : TypeId × Value → H} {w : World} {base : Nat} {spare : Nat → Bool} {held : Bool} {fuel n c : Nat} {A : Option Addr} {x : DataW H × List MemPlace} (h : DataW.trod enc Try.prog w base spare held fuel 57 [.slice A n c] = some x) :
    ∃ l : List (S37), l.length = n ∧ n ≤ c ∧ Kd.C k37 w A n l ∧ ∀ p ∈ l, (Lit.int .u32 p.f0).wf = true ∧ (Lit.int .i64 p.f1).wf = true := by
  haveI : Inhabited S37 := ⟨z37⟩
  exact Read.reads_slice k37 (fun p => (Lit.int .u32 p.f0).wf = true ∧ (Lit.int .i64 p.f1).wf = true) Try.underlying57 (by kernel_rfl) el_37 h
set_option maxRecDepth 100000 in
theorem lifted (os : Os) (started : os.Started) (H : Type) (enc : TypeId × Value → H) :
    ReturnsInHanded {} Try.checked os 9 .any (Rows.regionTouchesSpec.pre6 enc Try.prog Try.f9 Rows.regionTouchesRow.domain false) (Rows.regionTouchesSpec.post enc Try.prog Try.f9 false true false false) := by
  refine returnsInHanded_of_change_sized (C := Try.checked) own started (by kernel_rfl) Try.func9
    (ChangeSpec.witness6 (enc := enc) (C := Try.checked) false ⟨#[], #[.int .i64 0, .slice none 0 0], []⟩ 8 (by kernel_rfl) (by kernel_rfl) (by kernel_rfl) (by kernel_rfl)) ?_
  intro W base args ds gs before hval0 hW hcnd hsz0 _
  have hsz : (DataW.weightsEach Try.prog (Try.f9.params.toList ++ Rows.regionTouchesSpec.plain.varTypes Try.prog) (ds ++ gs)).all (· ≤ reachBytes) = true := hsz0
  have hval : ∀ (j : Nat) t v, Try.f9.params[j]? = some t → args[j]? = some v → Value.okWide Try.prog W .any base t v := hval0
  have hW' := hW
  obtain ⟨p, q, hA0, hV, rfl, hfz, hnd⟩ := hW
  have hA : DataW.TrodAll enc Try.prog W 0 (fun _ => true) true Try.f9.params.toList args.toList ds p := hA0
  rw [Try.params9] at hA hval hsz
  obtain ⟨v0, vs0, d0, ds0, p0, q0, hargs, rfl, rfl, h0, r0⟩ := trodAll_cons hA
  obtain ⟨v1, vs1, d1, ds1, p1, q1, rfl, rfl, rfl, h1, r1⟩ := trodAll_cons r0
  obtain ⟨rfl, rfl, rfl⟩ := trodAll_nil r1
  obtain rfl : args = #[v0, v1] := by cases args; simp_all
  obtain ⟨rfl, rfl⟩ := trodVars_none hV
  have k0 := h0
  have lt0 : ∀ x ∈ p0, x.block < W.heap.size := by obtain ⟨m, hm⟩ := k0; exact DataW.trod_lt m _ _ _ hm
  have k1 := h1
  have lt1 : ∀ x ∈ p1, x.block < W.heap.size := by obtain ⟨m, hm⟩ := k1; exact DataW.trod_lt m _ _ _ hm
  obtain ⟨a0, rfl, _, _, w0⟩ := open_int Try.underlying3 (hval 0 3 v0 rfl rfl) h0
  obtain ⟨A1, n1, c1, rfl⟩ := okWide_slice Try.underlying57 (hval 1 57 v1 rfl rfl)
  obtain ⟨fuel1, hf1⟩ := h1
  obtain ⟨l1, ln1, hc1, hr1, w1⟩ := rd_57 (by simpa [Value.cells] using hf1)
  subst ln1
  obtain ⟨k, hk⟩ := Pure.RegionTouches a0 l1 w0 w1
  refine (crossbucklaw16_RegionTouches.calls k a0 _ _ l1 true W hr1 hc1 hk (Aside0.mk rfl)).mono fun e W' ⟨he, bel0⟩ => ?_
  have bel : Below W.heap.size W W' := bel0
  subst he
  exact ⟨_, rfl, _, _, _, [], _, [], hW', trodAll_mk1 (shut_bool Try.underlying4 _), (trodAll_cons_mk (Below.trod laidOut (by kernel_rfl) (of_decide_eq_true (by kernel_rfl)) k0 bel lt0) (trodAll_cons_mk (Below.trod laidOut (by kernel_rfl) (of_decide_eq_true (by kernel_rfl)) k1 bel lt1) trodAll_mk0)), rfl, bel.frame _, fun h => by cases h⟩
theorem over : Rows.regionTouchesRow.holds Try.pinned (OpenSpec.ofChange Rows.regionTouchesSpec) :=
  OpenClaim.holds_of_wide 9 Try.f9 rfl rfl rfl rfl rfl rfl rfl ⟨rfl, rfl, rfl, rfl, rfl⟩ rfl rfl rfl rfl rfl (by kernel_rfl) Try.func9 (by kernel_rfl)
    (of_decide_eq_true (by kernel_rfl)) (by unfold Func.isWrapper; first | (rw [if_pos (by decide +kernel)]; kernel_rfl) | (rw [if_neg (by decide +kernel)]; exact ⟨rfl, rfl⟩))
    (fun os started H enc _ => lifted os started H enc)
theorem proved : Rows.RegionTouchesSaid := over
#print axioms proved
end Go.Proofs.Ytbnjbjjbfbbdcaa.regionTouches
namespace Go.Proofs.Ytbnjbjjbfbbdcaa
/-- The row, under a short name, for the claim. -/
theorem regionTouches_holds : Rows.RegionTouchesSaid := regionTouches.proved
end Go.Proofs.Ytbnjbjjbfbbdcaa
