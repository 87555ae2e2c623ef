/- The law WideTurns: its row, out of its walk and the plain statement Pure.WideTurns. No condition of its own. -/
import Derived.Test.YthifgehpiodkcaaRows
import Derived.Test.YthifgehpiodkcaaRead
import Derived.Test.YthifgehpiodkcaaPWTx21
import Derived.Test.YthifgehpiodkcaaPureWideTurns
import Derived.WalkKit
import Derived.ProofKit
import Derived.OpenShut
import Derived.ShutString
import Derived.ChangeOld
import Derived.Below
import Derived.SizedLaws
import Derived.Lib.SmallJoins
namespace Go.Proofs.Ythifgehpiodkcaa.wideTurns
open Go.ChangeShapes Go.WideShapes Go.ChangeAt Go.RowKit Go.Proofs.Ythifgehpiodkcaa.PWT Go.Proofs.YthifgehpiodkcaaW.PrintWords
open Go.ChangeMaps (open_string shut_string)
set_option linter.unusedVariables false
set_option maxRecDepth 100000
theorem own : ownKnob Try.prog.godebug = none := by kernel_rfl
theorem laidOut : laidOutB Try.prog = true := by kernel_rfl
theorem cells_24 {H : Type} {enc : TypeId × Value → H} {w : World} {base : Nat} {spare : Nat → Bool} {held : Bool} {fuel : Nat} {cs : List Value} {x : DataW H × List MemPlace} (h : DataW.trod enc Try.prog w base spare held fuel 24 cs = some x) :
    ∃ (a_0 : Int) (a_1 : Int), cs = [.int .u64 a_0, .int .u64 a_1] ∧ (Lit.int .u64 a_0).wf = true ∧ (Lit.int .u64 a_1).wf = true := by
  obtain ⟨ys, m, _, _, hlen, hyl, hf⟩ := DataW.trod_struct Try.underlying24 h
  have hlen2 : cs.length = 2 := hlen.trans (by kernel_rfl)
  match ys, hyl with
  | [y0, y1], _ =>
    have g0 : DataW.trod enc Try.prog w base spare held m 22 ((cs.drop 0).take 1) = some y0 := hf 0 _ rfl
    obtain ⟨a_0, e0, _, wa_0⟩ := DataW.trod_int Try.underlying22 g0
    have g1 : DataW.trod enc Try.prog w base spare held m 22 ((cs.drop 1).take 1) = some y1 := hf 1 _ rfl
    obtain ⟨a_1, e1, _, wa_1⟩ := DataW.trod_int Try.underlying22 g1
    match cs, hlen2 with
    | [z0, z1], _ =>
      simp at e0
      simp at e1
      obtain rfl := e0
      obtain rfl := e1
      exact ⟨a_0, a_1, rfl, wa_0, wa_1⟩
set_option maxRecDepth 100000 in
theorem lifted (os : Os) (started : os.Started) (H : Type) (enc : TypeId × Value → H) :
    ReturnsInHanded {} Try.checked os 6 .any (Rows.wideTurnsSpec.pre6 enc Try.prog Try.f6 Rows.wideTurnsRow.domain false) (Rows.wideTurnsSpec.post enc Try.prog Try.f6 false true false false) := by
  refine returnsInHanded_of_change_sized (C := Try.checked) own started (by kernel_rfl) Try.func6
    (ChangeSpec.witness6 (enc := enc) (C := Try.checked) false ⟨#[], #[.agg #[.int .u64 0, .int .u64 0], .agg #[.int .u64 0, .int .u64 0], .agg #[.int .u64 0, .int .u64 0]], []⟩ 8 (by kernel_rfl) (by kernel_rfl) (by kernel_rfl) (by kernel_rfl)) ?_
  intro W base args ds gs before hval0 hW hcnd hsz0 _
  have hsz : (DataW.weightsEach Try.prog (Try.f6.params.toList ++ Rows.wideTurnsSpec.plain.varTypes Try.prog) (ds ++ gs)).all (· ≤ reachBytes) = true := hsz0
  have hval : ∀ (j : Nat) t v, Try.f6.params[j]? = some t → args[j]? = some v → Value.okWide Try.prog W .any base t v := hval0
  have hW' := hW
  obtain ⟨p, q, hA0, hV, rfl, hfz, hnd⟩ := hW
  have hA : DataW.TrodAll enc Try.prog W 0 (fun _ => true) true Try.f6.params.toList args.toList ds p := hA0
  rw [Try.params6] at hA hval hsz
  obtain ⟨v0, vs0, d0, ds0, p0, q0, hargs, rfl, rfl, h0, r0⟩ := trodAll_cons hA
  obtain ⟨v1, vs1, d1, ds1, p1, q1, rfl, rfl, rfl, h1, r1⟩ := trodAll_cons r0
  obtain ⟨v2, vs2, d2, ds2, p2, q2, rfl, rfl, rfl, h2, r2⟩ := trodAll_cons r1
  obtain ⟨rfl, rfl, rfl⟩ := trodAll_nil r2
  obtain rfl : args = #[v0, v1, v2] := by cases args; simp_all
  obtain ⟨rfl, rfl⟩ := trodVars_none hV
  have k0 := h0
  have lt0 : ∀ x ∈ p0, x.block < W.heap.size := by obtain ⟨m, hm⟩ := k0; exact DataW.trod_lt m _ _ _ hm
  have k1 := h1
  have lt1 : ∀ x ∈ p1, x.block < W.heap.size := by obtain ⟨m, hm⟩ := k1; exact DataW.trod_lt m _ _ _ hm
  have k2 := h2
  have lt2 : ∀ x ∈ p2, x.block < W.heap.size := by obtain ⟨m, hm⟩ := k2; exact DataW.trod_lt m _ _ _ hm
  obtain ⟨cs0, rfl, _⟩ := okWide_struct Try.underlying24 (hval 0 24 v0 rfl rfl)
  obtain ⟨fuel0, hf0⟩ := h0
  obtain ⟨a0_0, a0_1, ce0, wa0_0, wa0_1⟩ := cells_24 hf0
  obtain rfl : cs0 = #[.int .u64 a0_0, .int .u64 a0_1] := by cases cs0; simpa [Value.cells] using ce0
  obtain ⟨cs1, rfl, _⟩ := okWide_struct Try.underlying24 (hval 1 24 v1 rfl rfl)
  obtain ⟨fuel1, hf1⟩ := h1
  obtain ⟨a1_0, a1_1, ce1, wa1_0, wa1_1⟩ := cells_24 hf1
  obtain rfl : cs1 = #[.int .u64 a1_0, .int .u64 a1_1] := by cases cs1; simpa [Value.cells] using ce1
  obtain ⟨cs2, rfl, _⟩ := okWide_struct Try.underlying24 (hval 2 24 v2 rfl rfl)
  obtain ⟨fuel2, hf2⟩ := h2
  obtain ⟨a2_0, a2_1, ce2, wa2_0, wa2_1⟩ := cells_24 hf2
  obtain rfl : cs2 = #[.int .u64 a2_0, .int .u64 a2_1] := by cases cs2; simpa [Value.cells] using ce2
  obtain ⟨k, hk⟩ := Pure.WideTurns a0_0 a0_1 a1_0 a1_1 a2_0 a2_1 wa0_0 wa0_1 wa1_0 wa1_1 wa2_0 wa2_1
  refine (crossbucklaw01_WideTurns.calls k a0_0 a0_1 a1_0 a1_1 a2_0 a2_1 true W hk (Aside0.mk rfl)).mono fun e W' ⟨he, bel0⟩ => ?_
  have bel : Below W.heap.size W W' := bel0
  subst he
  exact ⟨_, rfl, _, _, _, [], _, [], hW', trodAll_mk1 (shut_bool Try.underlying4 _), (trodAll_cons_mk (Below.trod laidOut (by kernel_rfl) (of_decide_eq_true (by kernel_rfl)) k0 bel lt0) (trodAll_cons_mk (Below.trod laidOut (by kernel_rfl) (of_decide_eq_true (by kernel_rfl)) k1 bel lt1) (trodAll_cons_mk (Below.trod laidOut (by kernel_rfl) (of_decide_eq_true (by kernel_rfl)) k2 bel lt2) trodAll_mk0))), rfl, bel.frame _, fun h => by cases h⟩
theorem over : Rows.wideTurnsRow.holds Try.pinned (OpenSpec.ofChange Rows.wideTurnsSpec) :=
  OpenClaim.holds_of_wide 6 Try.f6 rfl rfl rfl rfl rfl rfl rfl ⟨rfl, rfl, rfl, rfl, rfl⟩ rfl rfl rfl rfl rfl (by kernel_rfl) Try.func6 (by kernel_rfl)
    (of_decide_eq_true (by kernel_rfl)) (by unfold Func.isWrapper; first | (rw [if_pos (by decide +kernel)]; kernel_rfl) | (rw [if_neg (by decide +kernel)]; exact ⟨rfl, rfl⟩))
    (fun os started H enc _ => lifted os started H enc)
theorem proved : Rows.WideTurnsSaid := over
#print axioms proved
end Go.Proofs.Ythifgehpiodkcaa.wideTurns
namespace Go.Proofs.Ythifgehpiodkcaa
/-- The row, under a short name, for the claim. -/
theorem wideTurns_holds : Rows.WideTurnsSaid := wideTurns.proved
end Go.Proofs.Ythifgehpiodkcaa
