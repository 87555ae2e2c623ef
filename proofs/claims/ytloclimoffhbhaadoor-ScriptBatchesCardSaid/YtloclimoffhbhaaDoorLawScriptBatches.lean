/- The law ScriptBatches: its row, out of its walk and the plain statement Pure.ScriptBatches. No condition of its own. -/
import Derived.Test.YtloclimoffhbhaaDoorRows
import Derived.Test.YtloclimoffhbhaaDoorRead
import Derived.Test.YtloclimoffhbhaaDoorPSbax200
import Derived.Test.YtloclimoffhbhaaDoorPureScriptBatches
import Derived.Test.YtloclimoffhbhaaDoorCards
import Derived.Test.YtloclimoffhbhaaDoorTie
import Derived.Test.YtloclimoffhbhaaDoorCard
import Derived.Test.YtloclimoffhbhaaDoorHead
import Derived.WalkKit
import Derived.ProofKit
import Derived.OpenShut
import Derived.ShutString
import Derived.ChangeOld
import Derived.Below
import Derived.SizedLaws
import Derived.Lib.SmallJoins
import Derived.Deep.DeepHandedRow
import Derived.Lib.LaidTab
namespace Go.Proofs.YtloclimoffhbhaaDoor.scriptBatches
open Go.ChangeShapes Go.WideShapes Go.ChangeAt Go.RowKit Go.Proofs.YtloclimoffhbhaaDoor.PSba Go.Proofs.YtloclimoffhbhaaDoorW.PrintWords
open Go.ChangeMaps (open_string shut_string)
set_option linter.unusedVariables false
set_option maxRecDepth 100000
theorem own : ownKnob Tryd.prog.godebug = none := by kernel_rfl
theorem laidOut : laidOutB Tryd.prog = true := by kernel_rfl
theorem cells_42 {H : Type} {enc : TypeId × Value → H} {w : World} {base : Nat} {spare : Nat → Bool} {held : Bool} {fuel : Nat} {cs : List Value} {x : DataW H × List MemPlace} (h : DataW.trod enc Tryd.prog w base spare held fuel 42 cs = some x) :
    ∃ (a_0 : Int) (a_1 : Int), cs = [.int .u32 a_0, .int .i64 a_1] ∧ (Lit.int .u32 a_0).wf = true ∧ (Lit.int .i64 a_1).wf = true := by
  obtain ⟨ys, m, _, _, hlen, hyl, hf⟩ := DataW.trod_struct Tryd.underlying42 h
  have hlen2 : cs.length = 2 := hlen.trans (by kernel_rfl)
  match ys, hyl with
  | [y0, y1], _ =>
    have g0 : DataW.trod enc Tryd.prog w base spare held m 40 ((cs.drop 0).take 1) = some y0 := hf 0 _ rfl
    obtain ⟨a_0, e0, _, wa_0⟩ := DataW.trod_int Tryd.underlying40 g0
    have g1 : DataW.trod enc Tryd.prog w base spare held m 3 ((cs.drop 1).take 1) = some y1 := hf 1 _ rfl
    obtain ⟨a_1, e1, _, wa_1⟩ := DataW.trod_int Tryd.underlying3 g1
    match cs, hlen2 with
    | [z0, z1], _ =>
      simp at e0
      simp at e1
      obtain rfl := e0
      obtain rfl := e1
      exact ⟨a_0, a_1, rfl, wa_0, wa_1⟩
theorem cells_44 {H : Type} {enc : TypeId × Value → H} {w : World} {base : Nat} {spare : Nat → Bool} {held : Bool} {fuel : Nat} {cs : List Value} {x : DataW H × List MemPlace} (h : DataW.trod enc Tryd.prog w base spare held fuel 44 cs = some x) :
    ∃ (a_0 : Int) (a_1 : Int) (a_2_0 : Int) (a_2_1 : Int) (a_3 : Int) (a_4 : Int), cs = [.int .i64 a_0, .int .i64 a_1, .int .u32 a_2_0, .int .i64 a_2_1, .int .i64 a_3, .int .i64 a_4] ∧ (Lit.int .i64 a_0).wf = true ∧ (Lit.int .i64 a_1).wf = true ∧ (Lit.int .u32 a_2_0).wf = true ∧ (Lit.int .i64 a_2_1).wf = true ∧ (Lit.int .i64 a_3).wf = true ∧ (Lit.int .i64 a_4).wf = true := by
  obtain ⟨ys, m, _, _, hlen, hyl, hf⟩ := DataW.trod_struct Tryd.underlying44 h
  have hlen2 : cs.length = 6 := hlen.trans (by kernel_rfl)
  match ys, hyl with
  | [y0, y1, y2, y3, y4], _ =>
    have g0 : DataW.trod enc Tryd.prog w base spare held m 3 ((cs.drop 0).take 1) = some y0 := hf 0 _ rfl
    obtain ⟨a_0, e0, _, wa_0⟩ := DataW.trod_int Tryd.underlying3 g0
    have g1 : DataW.trod enc Tryd.prog w base spare held m 3 ((cs.drop 1).take 1) = some y1 := hf 1 _ rfl
    obtain ⟨a_1, e1, _, wa_1⟩ := DataW.trod_int Tryd.underlying3 g1
    have g2 : DataW.trod enc Tryd.prog w base spare held m 42 ((cs.drop 2).take 2) = some y2 := hf 2 _ rfl
    obtain ⟨a_2_0, a_2_1, e2, wa_2_0, wa_2_1⟩ := cells_42 g2
    have g3 : DataW.trod enc Tryd.prog w base spare held m 3 ((cs.drop 4).take 1) = some y3 := hf 3 _ rfl
    obtain ⟨a_3, e3, _, wa_3⟩ := DataW.trod_int Tryd.underlying3 g3
    have g4 : DataW.trod enc Tryd.prog w base spare held m 3 ((cs.drop 5).take 1) = some y4 := hf 4 _ rfl
    obtain ⟨a_4, e4, _, wa_4⟩ := DataW.trod_int Tryd.underlying3 g4
    match cs, hlen2 with
    | [z0, z1, z2, z3, z4, z5], _ =>
      simp at e0
      simp at e1
      simp at e2
      simp at e3
      simp at e4
      obtain rfl := e0
      obtain rfl := e1
      obtain ⟨rfl, rfl⟩ := e2
      obtain rfl := e3
      obtain rfl := e4
      exact ⟨a_0, a_1, a_2_0, a_2_1, a_3, a_4, rfl, wa_0, wa_1, wa_2_0, wa_2_1, wa_3, wa_4⟩
theorem cells_46 {H : Type} {enc : TypeId × Value → H} {w : World} {base : Nat} {spare : Nat → Bool} {held : Bool} {fuel : Nat} {cs : List Value} {x : DataW H × List MemPlace} (h : DataW.trod enc Tryd.prog w base spare held fuel 46 cs = some x) :
    ∃ (a_0 : Bool) (a_1_0 : Int) (a_1_1 : Int) (a_1_2_0 : Int) (a_1_2_1 : Int) (a_1_3 : Int) (a_1_4 : Int), cs = [.bool a_0, .int .i64 a_1_0, .int .i64 a_1_1, .int .u32 a_1_2_0, .int .i64 a_1_2_1, .int .i64 a_1_3, .int .i64 a_1_4] ∧ (Lit.int .i64 a_1_0).wf = true ∧ (Lit.int .i64 a_1_1).wf = true ∧ (Lit.int .u32 a_1_2_0).wf = true ∧ (Lit.int .i64 a_1_2_1).wf = true ∧ (Lit.int .i64 a_1_3).wf = true ∧ (Lit.int .i64 a_1_4).wf = true := by
  obtain ⟨ys, m, _, _, hlen, hyl, hf⟩ := DataW.trod_struct Tryd.underlying46 h
  have hlen2 : cs.length = 7 := hlen.trans (by kernel_rfl)
  match ys, hyl with
  | [y0, y1], _ =>
    have g0 : DataW.trod enc Tryd.prog w base spare held m 4 ((cs.drop 0).take 1) = some y0 := hf 0 _ rfl
    obtain ⟨a_0, e0, _⟩ := DataW.trod_bool Tryd.underlying4 g0
    have g1 : DataW.trod enc Tryd.prog w base spare held m 44 ((cs.drop 1).take 6) = some y1 := hf 1 _ rfl
    obtain ⟨a_1_0, a_1_1, a_1_2_0, a_1_2_1, a_1_3, a_1_4, e1, wa_1_0, wa_1_1, wa_1_2_0, wa_1_2_1, wa_1_3, wa_1_4⟩ := cells_44 g1
    match cs, hlen2 with
    | [z0, z1, z2, z3, z4, z5, z6], _ =>
      simp at e0
      simp at e1
      obtain rfl := e0
      obtain ⟨rfl, rfl, rfl, rfl, rfl, rfl⟩ := e1
      exact ⟨a_0, a_1_0, a_1_1, a_1_2_0, a_1_2_1, a_1_3, a_1_4, rfl, wa_1_0, wa_1_1, wa_1_2_0, wa_1_2_1, wa_1_3, wa_1_4⟩
theorem el_46 {H : Type} {enc : TypeId × Value → H} {w : World} {base : Nat} {spare : Nat → Bool} {held : Bool} (n : Nat) (cs : List Value) (x : DataW H × List MemPlace) (h : DataW.trod enc Tryd.prog w base spare held n 46 cs = some x) :
    ∃ p : S46, k46.K w p cs ∧ ((Lit.int .i64 p.f1.f0).wf = true ∧ (Lit.int .i64 p.f1.f1).wf = true ∧ (Lit.int .u32 p.f1.f2.f0).wf = true ∧ (Lit.int .i64 p.f1.f2.f1).wf = true ∧ (Lit.int .i64 p.f1.f3).wf = true ∧ (Lit.int .i64 p.f1.f4).wf = true) := by
  obtain ⟨a_0, a_1_0, a_1_1, a_1_2_0, a_1_2_1, a_1_3, a_1_4, rfl, wa_1_0, wa_1_1, wa_1_2_0, wa_1_2_1, wa_1_3, wa_1_4⟩ := cells_46 h
  exact ⟨⟨a_0, ⟨a_1_0, a_1_1, ⟨a_1_2_0, a_1_2_1⟩, a_1_3, a_1_4⟩⟩, k46_mk w _, wa_1_0, wa_1_1, wa_1_2_0, wa_1_2_1, wa_1_3, wa_1_4⟩
theorem rd_111 {H : Type} {enc : TypeId × Value → H} {w : World} {base : Nat} {spare : Nat → Bool} {held : Bool} {fuel n c : Nat} {A : Option Addr} {x : DataW H × List MemPlace} (h : DataW.trod enc Tryd.prog w base spare held fuel 111 [.slice A n c] = some x) :
    ∃ l : List (S46), l.length = n ∧ n ≤ c ∧ Kd.C k46 w A n l ∧ ∀ p ∈ l, (Lit.int .i64 p.f1.f0).wf = true ∧ (Lit.int .i64 p.f1.f1).wf = true ∧ (Lit.int .u32 p.f1.f2.f0).wf = true ∧ (Lit.int .i64 p.f1.f2.f1).wf = true ∧ (Lit.int .i64 p.f1.f3).wf = true ∧ (Lit.int .i64 p.f1.f4).wf = true := by
  haveI : Inhabited S46 := ⟨z46⟩
  exact Read.reads_slice k46 (fun p => (Lit.int .i64 p.f1.f0).wf = true ∧ (Lit.int .i64 p.f1.f1).wf = true ∧ (Lit.int .u32 p.f1.f2.f0).wf = true ∧ (Lit.int .i64 p.f1.f2.f1).wf = true ∧ (Lit.int .i64 p.f1.f3).wf = true ∧ (Lit.int .i64 p.f1.f4).wf = true) Tryd.underlying111 (by kernel_rfl) el_46 h
theorem contract (H : Type) (enc : TypeId × Value → H) (W : World) (base : Nat) (args : Array Value) (ds gs : List (DataW H)) (before : List MemPlace)
    (hval : ∀ (j : Nat) t v, Tryd.f18.params[j]? = some t → args[j]? = some v → Value.okWide Tryd.prog W .any base t v)
    (hW : DataW.Whole enc Tryd.prog Tryd.f18.params.toList Rows.scriptBatchesSpec.vars false W args.toList ds gs before) (hsz : (DataW.weightsEach Tryd.prog (Tryd.f18.params.toList ++ Rows.scriptBatchesSpec.plain.varTypes Tryd.prog) (ds ++ gs)).all (· ≤ reachBytes) = true)
    (hL : laidMetH Tryd.prog Rows.scriptBatchesRow.laid W) (hsh : W.ShapedOpen Tryd.prog) :
    Calls Tryd.prog 18 args W fun e W' => ∃ v, e = .returned v ∧ Rows.scriptBatchesSpec.post enc Tryd.prog Tryd.f18 false true false false W args v W' := by
  have hW' := hW
  obtain ⟨p, q, hA0, hV, rfl, hfz, hnd⟩ := hW
  have hA : DataW.TrodAll enc Tryd.prog W 0 (fun _ => true) true Tryd.f18.params.toList args.toList ds p := hA0
  rw [Tryd.params18] at hA hval hsz
  obtain ⟨v0, vs0, d0, ds0, p0, q0, hargs, rfl, rfl, h0, r0⟩ := trodAll_cons hA
  obtain ⟨rfl, rfl, rfl⟩ := trodAll_nil r0
  obtain rfl : args = #[v0] := by cases args; simp_all
  obtain ⟨rfl, rfl⟩ := trodVars_none hV
  have k0 := h0
  have lt0 : ∀ x ∈ p0, x.block < W.heap.size := by obtain ⟨m, hm⟩ := k0; exact DataW.trod_lt m _ _ _ hm
  obtain ⟨A0, n0, c0, rfl⟩ := okWide_slice Tryd.underlying111 (hval 0 111 v0 rfl rfl)
  obtain ⟨fuel0, hf0⟩ := h0
  obtain ⟨l0, ln0, hc0, hr0, w0⟩ := rd_111 (by simpa [Value.cells] using hf0)
  subst ln0
  have hk := Pure.ScriptBatches l0 w0
  have hG : Hand.Good true true W := ⟨fun _ => Hand.max_of hsh, fun _ => Hand.pow_of 2 hL rfl⟩
  refine (crossbucklaw25_ScriptBatches.calls _ _ l0 true W hr0 hc0 hG hk).mono fun e W' ⟨he, bel0⟩ => ?_
  have bel : Below W.heap.size W W' := bel0
  subst he
  exact ⟨_, rfl, _, _, _, [], _, [], hW', trodAll_mk1 (shut_bool Tryd.underlying4 _), (trodAll_cons_mk (Below.trod laidOut (by kernel_rfl) (of_decide_eq_true (by kernel_rfl)) k0 bel lt0) trodAll_mk0), rfl, bel.frame _, fun h => by cases h⟩
theorem laid_met (os : Os) : laidMet Tryd.prog Rows.scriptBatchesRow.laid ((Hand.laidWorld Rows.scriptBatchesRow.laid os).forCall (fun _ _ => 0) ⟨#[], #[.slice none 0 0], []⟩).memory :=
  laidMet_of_run' 8 (by kernel_rfl) (by kernel_rfl)
theorem reads (os : Os) {H : Type} (enc : TypeId × Value → H) : (DataW.whole enc Tryd.prog ((Hand.laidWorld Rows.scriptBatchesRow.laid os).forCall (fun _ _ => 0) ⟨#[], #[.slice none 0 0], []⟩).memory Tryd.f18.params.toList Rows.scriptBatchesSpec.vars false (#[.slice none 0 0] : Array Value).toList 8) = some ((DataW.whole enc Tryd.prog ((Hand.laidWorld Rows.scriptBatchesRow.laid os).forCall (fun _ _ => 0) ⟨#[], #[.slice none 0 0], []⟩).memory Tryd.f18.params.toList Rows.scriptBatchesSpec.vars false (#[.slice none 0 0] : Array Value).toList 8).getD ([], [], [])) := by kernel_rfl
set_option maxRecDepth 100000 in
theorem lifted (os : Os) (started : os.Started) (H : Type) (enc : TypeId × Value → H) (F : Stop.Interp) :
    ReturnsInHanded {} Tryd.checked os 18 .any ((OpenSpec.ofChange Rows.scriptBatchesSpec).preRow enc Tryd.prog Tryd.f18 Rows.scriptBatchesRow.domain false Rows.scriptBatchesRow.laid) (((OpenSpec.ofChange Rows.scriptBatchesSpec).at F).post enc Tryd.prog Tryd.f18 false true false false) := by
  refine returnsInHanded_of_row (C := Tryd.checked) (s := OpenSpec.ofChange Rows.scriptBatchesSpec) own started (by kernel_rfl) Tryd.func18
    (witness_row_at (enc := enc) (C := Tryd.checked) false (Hand.laidWorld Rows.scriptBatchesRow.laid os) #[.slice none 0 0] rfl (by kernel_rfl) (by kernel_rfl) (by kernel_rfl)
      (OpenSpec.preRow_of_cond 8 (reads os enc) (by kernel_rfl) (fun k hk => by cases hk) (by kernel_rfl) (laid_met os))) ?_
  intro W base args ds gs before hval hW _ _ hsz hL hsh _
  exact contract H enc W base args ds gs before hval hW hsz hL hsh
theorem closed : joinedFacts Tryd.prog 18 Tryd.f18 Rows.scriptBatchesSpec Rows.scriptBatchesRow = true := by
  unfold joinedFacts
  rw [Head.may, Head.final, Head.make]
  kernel_rfl
theorem said : Rows.ScriptBatchesSaid :=
  OpenClaim.holds_of_cond 18 Tryd.f18 rfl rfl rfl rfl rfl rfl rfl ⟨rfl, rfl, rfl, rfl, rfl⟩ rfl rfl rfl rfl rfl (by kernel_rfl) Tryd.func18 closed
    (of_decide_eq_true (by kernel_rfl)) (by unfold Func.isWrapper; first | (rw [if_pos (by decide +kernel)]; kernel_rfl) | (rw [if_neg (by decide +kernel)]; exact ⟨rfl, rfl⟩))
    (fun os started H enc _ F => by rw [OpenClaim.pre_eq_preRow]; exact lifted os started H enc F)
theorem plain (f : FuncId) (fn : Func) (hf : Tryd.pinned.checked.prog.funcNamed "crossbuck/crossbucklaw25.ScriptBatches" = some f) (hfn : Tryd.pinned.checked.prog.funcs[f]? = some fn) :
    true = Tryd.pinned.checked.prog.looks [] ∧ ∀ (j : Nat) t, fn.params[j]? = some t → Tryd.pinned.checked.prog.wantsStandIn t = false := by
  obtain rfl : f = 18 := Option.some.inj ((show Tryd.prog.funcNamed "crossbuck/crossbucklaw25.ScriptBatches" = some 18 by kernel_rfl).symm.trans hf) |>.symm
  obtain rfl : fn = Tryd.f18 := (Option.some.inj (Tryd.func18.symm.trans hfn)).symm
  refine ⟨by kernel_rfl, fun j t ht => ?_⟩
  rw [Tryd.params18] at ht
  obtain rfl : t = 111 := by simpa using Array.mem_of_getElem? ht
  exact (show Tryd.prog.wantsStandIn 111 = false by kernel_rfl)
theorem card : Rows.ScriptBatchesCardSaid :=
  Claim7.holds_tied_plain_at .later [] _ _ _ _ said (fun _ h => by cases h) (by kernel_rfl) (fun _ h => by cases h) scriptBatches_row_tie rfl ⟨rfl, rfl⟩ Head.main rfl plain (by kernel_rfl)
#print axioms card
end Go.Proofs.YtloclimoffhbhaaDoor.scriptBatches
namespace Go.Proofs.YtloclimoffhbhaaDoor
/-- The card, under a short name, for the claim. -/
theorem scriptBatches_holds : Rows.ScriptBatchesCardSaid := scriptBatches.card
end Go.Proofs.YtloclimoffhbhaaDoor
