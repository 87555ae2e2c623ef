/- The law HdrTexts: its row, out of its walk and the plain statement Pure.HdrTexts. No condition of its own. -/
import Derived.Test.YtloclimoffhbhaaDoorRows
import Derived.Test.YtloclimoffhbhaaDoorRead
import Derived.Test.YtloclimoffhbhaaDoorPHdmx3
import Derived.Test.YtloclimoffhbhaaDoorPureHdrTexts
import Derived.Test.YtloclimoffhbhaaDoorCards
import Derived.Test.YtloclimoffhbhaaDoorTie
import Derived.Test.YtloclimoffhbhaaDoorCard
import Derived.Test.YtloclimoffhbhaaDoorHead
import Derived.WalkKit
import Derived.ProofKit
import Derived.OpenShut
import Derived.ShutString
import Derived.ChangeOld
import Derived.Below
import Derived.SizedLaws
import Derived.Lib.SmallJoins
import Derived.Deep.DeepHandedRow
import Derived.Lib.LaidTab
namespace Go.Proofs.YtloclimoffhbhaaDoor.hdrTexts
open Go.ChangeShapes Go.WideShapes Go.ChangeAt Go.RowKit Go.Proofs.YtloclimoffhbhaaDoor.PHdm Go.Proofs.YtloclimoffhbhaaDoorW.PrintWords
open Go.ChangeMaps (open_string shut_string)
set_option linter.unusedVariables false
set_option maxRecDepth 100000
theorem own : ownKnob Tryd.prog.godebug = none := by kernel_rfl
theorem laidOut : laidOutB Tryd.prog = true := by kernel_rfl
theorem cells_67 {H : Type} {enc : TypeId × Value → H} {w : World} {base : Nat} {spare : Nat → Bool} {held : Bool} {fuel : Nat} {cs : List Value} {x : DataW H × List MemPlace} (h : DataW.trod enc Tryd.prog w base spare held fuel 67 cs = some x) :
    ∃ (a_0 : Int) (a_1 : Int) (a_2 : Int) (a_3 : Int) (a_4 : Int), cs = [.int .u32 a_0, .int .u32 a_1, .int .u8 a_2, .int .u16 a_3, .int .u16 a_4] ∧ (Lit.int .u32 a_0).wf = true ∧ (Lit.int .u32 a_1).wf = true ∧ (Lit.int .u8 a_2).wf = true ∧ (Lit.int .u16 a_3).wf = true ∧ (Lit.int .u16 a_4).wf = true := by
  obtain ⟨ys, m, _, _, hlen, hyl, hf⟩ := DataW.trod_struct Tryd.underlying67 h
  have hlen2 : cs.length = 5 := hlen.trans (by kernel_rfl)
  match ys, hyl with
  | [y0, y1, y2, y3, y4], _ =>
    have g0 : DataW.trod enc Tryd.prog w base spare held m 40 ((cs.drop 0).take 1) = some y0 := hf 0 _ rfl
    obtain ⟨a_0, e0, _, wa_0⟩ := DataW.trod_int Tryd.underlying40 g0
    have g1 : DataW.trod enc Tryd.prog w base spare held m 40 ((cs.drop 1).take 1) = some y1 := hf 1 _ rfl
    obtain ⟨a_1, e1, _, wa_1⟩ := DataW.trod_int Tryd.underlying40 g1
    have g2 : DataW.trod enc Tryd.prog w base spare held m 5 ((cs.drop 2).take 1) = some y2 := hf 2 _ rfl
    obtain ⟨a_2, e2, _, wa_2⟩ := DataW.trod_int Tryd.underlying5 g2
    have g3 : DataW.trod enc Tryd.prog w base spare held m 51 ((cs.drop 3).take 1) = some y3 := hf 3 _ rfl
    obtain ⟨a_3, e3, _, wa_3⟩ := DataW.trod_int Tryd.underlying51 g3
    have g4 : DataW.trod enc Tryd.prog w base spare held m 51 ((cs.drop 4).take 1) = some y4 := hf 4 _ rfl
    obtain ⟨a_4, e4, _, wa_4⟩ := DataW.trod_int Tryd.underlying51 g4
    match cs, hlen2 with
    | [z0, z1, z2, z3, z4], _ =>
      simp at e0
      simp at e1
      simp at e2
      simp at e3
      simp at e4
      obtain rfl := e0
      obtain rfl := e1
      obtain rfl := e2
      obtain rfl := e3
      obtain rfl := e4
      exact ⟨a_0, a_1, a_2, a_3, a_4, rfl, wa_0, wa_1, wa_2, wa_3, wa_4⟩
theorem contract (H : Type) (enc : TypeId × Value → H) (W : World) (base : Nat) (args : Array Value) (ds gs : List (DataW H)) (before : List MemPlace)
    (hval : ∀ (j : Nat) t v, Tryd.f12.params[j]? = some t → args[j]? = some v → Value.okWide Tryd.prog W .any base t v)
    (hW : DataW.Whole enc Tryd.prog Tryd.f12.params.toList Rows.hdrTextsSpec.vars false W args.toList ds gs before) (hsz : (DataW.weightsEach Tryd.prog (Tryd.f12.params.toList ++ Rows.hdrTextsSpec.plain.varTypes Tryd.prog) (ds ++ gs)).all (· ≤ reachBytes) = true)
    (hL : laidMetH Tryd.prog Rows.hdrTextsRow.laid W) (hsh : W.ShapedOpen Tryd.prog) :
    Calls Tryd.prog 12 args W fun e W' => ∃ v, e = .returned v ∧ Rows.hdrTextsSpec.post enc Tryd.prog Tryd.f12 false true false false W args v W' := by
  have hW' := hW
  obtain ⟨p, q, hA0, hV, rfl, hfz, hnd⟩ := hW
  have hA : DataW.TrodAll enc Tryd.prog W 0 (fun _ => true) true Tryd.f12.params.toList args.toList ds p := hA0
  rw [Tryd.params12] at hA hval hsz
  obtain ⟨v0, vs0, d0, ds0, p0, q0, hargs, rfl, rfl, h0, r0⟩ := trodAll_cons hA
  obtain ⟨rfl, rfl, rfl⟩ := trodAll_nil r0
  obtain rfl : args = #[v0] := by cases args; simp_all
  obtain ⟨rfl, rfl⟩ := trodVars_none hV
  have k0 := h0
  have lt0 : ∀ x ∈ p0, x.block < W.heap.size := by obtain ⟨m, hm⟩ := k0; exact DataW.trod_lt m _ _ _ hm
  obtain ⟨cs0, rfl, _⟩ := okWide_struct Tryd.underlying67 (hval 0 67 v0 rfl rfl)
  obtain ⟨fuel0, hf0⟩ := h0
  obtain ⟨a0_0, a0_1, a0_2, a0_3, a0_4, ce0, wa0_0, wa0_1, wa0_2, wa0_3, wa0_4⟩ := cells_67 hf0
  obtain rfl : cs0 = #[.int .u32 a0_0, .int .u32 a0_1, .int .u8 a0_2, .int .u16 a0_3, .int .u16 a0_4] := by cases cs0; simpa [Value.cells] using ce0
  obtain ⟨k, hk⟩ := Pure.HdrTexts a0_0 a0_1 a0_2 a0_3 a0_4 wa0_0 wa0_1 wa0_2 wa0_3 wa0_4
  have hG : Hand.Good true true W := ⟨fun _ => Hand.max_of hsh, fun _ => Hand.pow_of 2 hL rfl⟩
  refine (crossbucklaw02_HdrTexts.calls k a0_0 a0_1 a0_2 a0_3 a0_4 true W hG hk (Aside0.mk rfl)).mono fun e W' ⟨he, bel0⟩ => ?_
  have bel : Below W.heap.size W W' := bel0
  subst he
  exact ⟨_, rfl, _, _, _, [], _, [], hW', trodAll_mk1 (shut_bool Tryd.underlying4 _), (trodAll_cons_mk (Below.trod laidOut (by kernel_rfl) (of_decide_eq_true (by kernel_rfl)) k0 bel lt0) trodAll_mk0), rfl, bel.frame _, fun h => by cases h⟩
theorem laid_met (os : Os) : laidMet Tryd.prog Rows.hdrTextsRow.laid ((Hand.laidWorld Rows.hdrTextsRow.laid os).forCall (fun _ _ => 0) ⟨#[], #[.agg #[.int .u32 0, .int .u32 0, .int .u8 0, .int .u16 0, .int .u16 0]], []⟩).memory :=
  laidMet_of_run' 8 (by kernel_rfl) (by kernel_rfl)
theorem reads (os : Os) {H : Type} (enc : TypeId × Value → H) : (DataW.whole enc Tryd.prog ((Hand.laidWorld Rows.hdrTextsRow.laid os).forCall (fun _ _ => 0) ⟨#[], #[.agg #[.int .u32 0, .int .u32 0, .int .u8 0, .int .u16 0, .int .u16 0]], []⟩).memory Tryd.f12.params.toList Rows.hdrTextsSpec.vars false (#[.agg #[.int .u32 0, .int .u32 0, .int .u8 0, .int .u16 0, .int .u16 0]] : Array Value).toList 8) = some ((DataW.whole enc Tryd.prog ((Hand.laidWorld Rows.hdrTextsRow.laid os).forCall (fun _ _ => 0) ⟨#[], #[.agg #[.int .u32 0, .int .u32 0, .int .u8 0, .int .u16 0, .int .u16 0]], []⟩).memory Tryd.f12.params.toList Rows.hdrTextsSpec.vars false (#[.agg #[.int .u32 0, .int .u32 0, .int .u8 0, .int .u16 0, .int .u16 0]] : Array Value).toList 8).getD ([], [], [])) := by kernel_rfl
set_option maxRecDepth 100000 in
theorem lifted (os : Os) (started : os.Started) (H : Type) (enc : TypeId × Value → H) (F : Stop.Interp) :
    ReturnsInHanded {} Tryd.checked os 12 .any ((OpenSpec.ofChange Rows.hdrTextsSpec).preRow enc Tryd.prog Tryd.f12 Rows.hdrTextsRow.domain false Rows.hdrTextsRow.laid) (((OpenSpec.ofChange Rows.hdrTextsSpec).at F).post enc Tryd.prog Tryd.f12 false true false false) := by
  refine returnsInHanded_of_row (C := Tryd.checked) (s := OpenSpec.ofChange Rows.hdrTextsSpec) own started (by kernel_rfl) Tryd.func12
    (witness_row_at (enc := enc) (C := Tryd.checked) false (Hand.laidWorld Rows.hdrTextsRow.laid os) #[.agg #[.int .u32 0, .int .u32 0, .int .u8 0, .int .u16 0, .int .u16 0]] rfl (by kernel_rfl) (by kernel_rfl) (by kernel_rfl)
      (OpenSpec.preRow_of_cond 8 (reads os enc) (by kernel_rfl) (fun k hk => by cases hk) (by kernel_rfl) (laid_met os))) ?_
  intro W base args ds gs before hval hW _ _ hsz hL hsh _
  exact contract H enc W base args ds gs before hval hW hsz hL hsh
theorem closed : joinedFacts Tryd.prog 12 Tryd.f12 Rows.hdrTextsSpec Rows.hdrTextsRow = true := by
  unfold joinedFacts
  rw [Head.may, Head.final, Head.make]
  kernel_rfl
theorem said : Rows.HdrTextsSaid :=
  OpenClaim.holds_of_cond 12 Tryd.f12 rfl rfl rfl rfl rfl rfl rfl ⟨rfl, rfl, rfl, rfl, rfl⟩ rfl rfl rfl rfl rfl (by kernel_rfl) Tryd.func12 closed
    (of_decide_eq_true (by kernel_rfl)) (by unfold Func.isWrapper; first | (rw [if_pos (by decide +kernel)]; kernel_rfl) | (rw [if_neg (by decide +kernel)]; exact ⟨rfl, rfl⟩))
    (fun os started H enc _ F => by rw [OpenClaim.pre_eq_preRow]; exact lifted os started H enc F)
theorem plain (f : FuncId) (fn : Func) (hf : Tryd.pinned.checked.prog.funcNamed "crossbuck/crossbucklaw02.HdrTexts" = some f) (hfn : Tryd.pinned.checked.prog.funcs[f]? = some fn) :
    true = Tryd.pinned.checked.prog.looks [] ∧ ∀ (j : Nat) t, fn.params[j]? = some t → Tryd.pinned.checked.prog.wantsStandIn t = false := by
  obtain rfl : f = 12 := Option.some.inj ((show Tryd.prog.funcNamed "crossbuck/crossbucklaw02.HdrTexts" = some 12 by kernel_rfl).symm.trans hf) |>.symm
  obtain rfl : fn = Tryd.f12 := (Option.some.inj (Tryd.func12.symm.trans hfn)).symm
  refine ⟨by kernel_rfl, fun j t ht => ?_⟩
  rw [Tryd.params12] at ht
  obtain rfl : t = 67 := by simpa using Array.mem_of_getElem? ht
  exact (show Tryd.prog.wantsStandIn 67 = false by kernel_rfl)
theorem card : Rows.HdrTextsCardSaid :=
  Claim7.holds_tied_plain_at .later [] _ _ _ _ said (fun _ h => by cases h) (by kernel_rfl) (fun _ h => by cases h) hdrTexts_row_tie rfl ⟨rfl, rfl⟩ Head.main rfl plain (by kernel_rfl)
#print axioms card
end Go.Proofs.YtloclimoffhbhaaDoor.hdrTexts
namespace Go.Proofs.YtloclimoffhbhaaDoor
/-- The card, under a short name, for the claim. -/
theorem hdrTexts_holds : Rows.HdrTextsCardSaid := hdrTexts.card
end Go.Proofs.YtloclimoffhbhaaDoor
