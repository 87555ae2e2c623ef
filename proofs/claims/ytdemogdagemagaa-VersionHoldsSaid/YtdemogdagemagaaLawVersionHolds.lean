/- The law VersionHolds: its row, out of its walk and the plain statement Pure.VersionHolds. No condition of its own. -/
import Derived.Test.YtdemogdagemagaaRows
import Derived.Test.YtdemogdagemagaaRead
import Derived.Test.YtdemogdagemagaaPVcx4
import Derived.Test.YtdemogdagemagaaPureVersionHolds
import Derived.WalkKit
import Derived.ProofKit
import Derived.OpenShut
import Derived.ShutString
import Derived.ChangeOld
import Derived.Below
import Derived.SizedLaws
import Derived.Lib.SmallJoins
namespace Go.Proofs.Ytdemogdagemagaa.versionHolds
open Go.ChangeShapes Go.WideShapes Go.ChangeAt Go.RowKit Go.Proofs.Ytdemogdagemagaa.PVc Go.Proofs.YtdemogdagemagaaW.PrintWords
open Go.ChangeMaps (open_string shut_string)
set_option linter.unusedVariables false
set_option maxRecDepth 100000
theorem own : ownKnob Try.prog.godebug = none := by kernel_rfl
theorem laidOut : laidOutB Try.prog = true := by kernel_rfl
theorem el_5 {H : Type} {enc : TypeId × Value → H} {w : World} {base : Nat} {spare : Nat → Bool} {held : Bool} (n : Nat) (cs : List Value) (x : DataW H × List MemPlace) (h : DataW.trod enc Try.prog w base spare held n 5 cs = some x) :
    ∃ p : Int, (Kd.int .u8).K w p cs ∧ ((Lit.int .u8 p).wf = true) := by
  obtain ⟨a, e, _, wa⟩ := DataW.trod_int Try.underlying5 h
  exact ⟨a, e, wa⟩
theorem rd_77 {H : Type} {enc : TypeId × Value → H} {w : World} {base : Nat} {spare : Nat → Bool} {held : Bool} {fuel n c : Nat} {A : Option Addr} {x : DataW H × List MemPlace} (h : DataW.trod enc Try.prog w base spare held fuel 77 [.slice A n c] = some x) :
    ∃ l : List Int, l.length = n ∧ n ≤ c ∧ Kd.C (Kd.int .u8) w A n l ∧ ∀ p ∈ l, (Lit.int .u8 p).wf = true := by
  exact Read.reads_slice (Kd.int .u8) (fun p => (Lit.int .u8 p).wf = true) Try.underlying77 (by kernel_rfl) el_5 h
set_option maxRecDepth 100000 in
theorem lifted (os : Os) (started : os.Started) (H : Type) (enc : TypeId × Value → H) :
    ReturnsInHanded {} Try.checked os 8 .any (Rows.versionHoldsSpec.pre6 enc Try.prog Try.f8 Rows.versionHoldsRow.domain false) (Rows.versionHoldsSpec.post enc Try.prog Try.f8 false true false false) := by
  refine returnsInHanded_of_change_sized (C := Try.checked) own started (by kernel_rfl) Try.func8
    (ChangeSpec.witness6 (enc := enc) (C := Try.checked) false ⟨#[], #[.slice none 0 0], []⟩ 8 (by kernel_rfl) (by kernel_rfl) (by kernel_rfl) (by kernel_rfl)) ?_
  intro W base args ds gs before hval0 hW hcnd hsz0 _
  have hsz : (DataW.weightsEach Try.prog (Try.f8.params.toList ++ Rows.versionHoldsSpec.plain.varTypes Try.prog) (ds ++ gs)).all (· ≤ reachBytes) = true := hsz0
  have hval : ∀ (j : Nat) t v, Try.f8.params[j]? = some t → args[j]? = some v → Value.okWide Try.prog W .any base t v := hval0
  have hW' := hW
  obtain ⟨p, q, hA0, hV, rfl, hfz, hnd⟩ := hW
  have hA : DataW.TrodAll enc Try.prog W 0 (fun _ => true) true Try.f8.params.toList args.toList ds p := hA0
  rw [Try.params8] at hA hval hsz
  obtain ⟨v0, vs0, d0, ds0, p0, q0, hargs, rfl, rfl, h0, r0⟩ := trodAll_cons hA
  obtain ⟨rfl, rfl, rfl⟩ := trodAll_nil r0
  obtain rfl : args = #[v0] := by cases args; simp_all
  obtain ⟨rfl, rfl⟩ := trodVars_none hV
  have k0 := h0
  have lt0 : ∀ x ∈ p0, x.block < W.heap.size := by obtain ⟨m, hm⟩ := k0; exact DataW.trod_lt m _ _ _ hm
  obtain ⟨A0, n0, c0, rfl⟩ := okWide_slice Try.underlying77 (hval 0 77 v0 rfl rfl)
  obtain ⟨fuel0, hf0⟩ := h0
  obtain ⟨l0, ln0, hc0, hr0, w0⟩ := rd_77 (by simpa [Value.cells] using hf0)
  subst ln0
  have hk := Pure.VersionHolds l0 w0
  refine (crossbucklaw18_VersionHolds.calls _ _ l0 true W hr0 hc0 hk).mono fun e W' ⟨he, bel0⟩ => ?_
  have bel : Below W.heap.size W W' := bel0
  subst he
  exact ⟨_, rfl, _, _, _, [], _, [], hW', trodAll_mk1 (shut_bool Try.underlying4 _), (trodAll_cons_mk (Below.trod laidOut (by kernel_rfl) (of_decide_eq_true (by kernel_rfl)) k0 bel lt0) trodAll_mk0), rfl, bel.frame _, fun h => by cases h⟩
theorem over : Rows.versionHoldsRow.holds Try.pinned (OpenSpec.ofChange Rows.versionHoldsSpec) :=
  OpenClaim.holds_of_wide 8 Try.f8 rfl rfl rfl rfl rfl rfl rfl ⟨rfl, rfl, rfl, rfl, rfl⟩ rfl rfl rfl rfl rfl (by kernel_rfl) Try.func8 (by kernel_rfl)
    (of_decide_eq_true (by kernel_rfl)) (by unfold Func.isWrapper; first | (rw [if_pos (by decide +kernel)]; kernel_rfl) | (rw [if_neg (by decide +kernel)]; exact ⟨rfl, rfl⟩))
    (fun os started H enc _ => lifted os started H enc)
theorem proved : Rows.VersionHoldsSaid := over
#print axioms proved
end Go.Proofs.Ytdemogdagemagaa.versionHolds
namespace Go.Proofs.Ytdemogdagemagaa
/-- The row, under a short name, for the claim. -/
theorem versionHolds_holds : Rows.VersionHoldsSaid := versionHolds.proved
end Go.Proofs.Ytdemogdagemagaa
