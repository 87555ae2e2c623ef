/- The law TriePlays: its row, out of its walk and the plain statement Pure.TriePlays. No condition of its own. -/
import Derived.Test.YtbmibakhpealjaaRows
import Derived.Test.YtbmibakhpealjaaRead
import Derived.Test.YtbmibakhpealjaaPTrx56
import Derived.Test.YtbmibakhpealjaaPureTriePlays
import Derived.WalkKit
import Derived.ProofKit
import Derived.OpenShut
import Derived.ShutString
import Derived.ChangeOld
import Derived.Below
import Derived.SizedLaws
import Derived.Lib.SmallJoins
namespace Go.Proofs.Ytbmibakhpealjaa.triePlays
open Go.ChangeShapes Go.WideShapes Go.ChangeAt Go.RowKit Go.Proofs.Ytbmibakhpealjaa.PTr Go.Proofs.YtbmibakhpealjaaW.PrintWords
open Go.ChangeMaps (open_string shut_string)
set_option linter.unusedVariables false
set_option maxRecDepth 100000
theorem own : ownKnob Try.prog.godebug = none := by kernel_rfl
theorem laidOut : laidOutB Try.prog = true := by kernel_rfl
theorem cells_33 {H : Type} {enc : TypeId × Value → H} {w : World} {base : Nat} {spare : Nat → Bool} {held : Bool} {fuel : Nat} {cs : List Value} {x : DataW H × List MemPlace} (h : DataW.trod enc Try.prog w base spare held fuel 33 cs = some x) :
    ∃ (a_0 : Int) (a_1 : Int), cs = [.int .u32 a_0, .int .i64 a_1] ∧ (Lit.int .u32 a_0).wf = true ∧ (Lit.int .i64 a_1).wf = true := by
  obtain ⟨ys, m, _, _, hlen, hyl, hf⟩ := DataW.trod_struct Try.underlying33 h
  have hlen2 : cs.length = 2 := hlen.trans (by kernel_rfl)
  match ys, hyl with
  | [y0, y1], _ =>
    have g0 : DataW.trod enc Try.prog w base spare held m 31 ((cs.drop 0).take 1) = some y0 := hf 0 _ rfl
    obtain ⟨a_0, e0, _, wa_0⟩ := DataW.trod_int Try.underlying31 g0
    have g1 : DataW.trod enc Try.prog w base spare held m 3 ((cs.drop 1).take 1) = some y1 := hf 1 _ rfl
    obtain ⟨a_1, e1, _, wa_1⟩ := DataW.trod_int Try.underlying3 g1
    match cs, hlen2 with
    | [z0, z1], _ =>
      simp at e0
      simp at e1
      obtain rfl := e0
      obtain rfl := e1
      exact ⟨a_0, a_1, rfl, wa_0, wa_1⟩
theorem cells_35 {H : Type} {enc : TypeId × Value → H} {w : World} {base : Nat} {spare : Nat → Bool} {held : Bool} {fuel : Nat} {cs : List Value} {x : DataW H × List MemPlace} (h : DataW.trod enc Try.prog w base spare held fuel 35 cs = some x) :
    ∃ (a_0 : Bool) (a_1_0 : Int) (a_1_1 : Int) (a_2 : Int), cs = [.bool a_0, .int .u32 a_1_0, .int .i64 a_1_1, .int .i64 a_2] ∧ (Lit.int .u32 a_1_0).wf = true ∧ (Lit.int .i64 a_1_1).wf = true ∧ (Lit.int .i64 a_2).wf = true := by
  obtain ⟨ys, m, _, _, hlen, hyl, hf⟩ := DataW.trod_struct Try.underlying35 h
  have hlen2 : cs.length = 4 := hlen.trans (by kernel_rfl)
  match ys, hyl with
  | [y0, y1, y2], _ =>
    have g0 : DataW.trod enc Try.prog w base spare held m 4 ((cs.drop 0).take 1) = some y0 := hf 0 _ rfl
    obtain ⟨a_0, e0, _⟩ := DataW.trod_bool Try.underlying4 g0
    have g1 : DataW.trod enc Try.prog w base spare held m 33 ((cs.drop 1).take 2) = some y1 := hf 1 _ rfl
    obtain ⟨a_1_0, a_1_1, e1, wa_1_0, wa_1_1⟩ := cells_33 g1
    have g2 : DataW.trod enc Try.prog w base spare held m 3 ((cs.drop 3).take 1) = some y2 := hf 2 _ rfl
    obtain ⟨a_2, e2, _, wa_2⟩ := DataW.trod_int Try.underlying3 g2
    match cs, hlen2 with
    | [z0, z1, z2, z3], _ =>
      simp at e0
      simp at e1
      simp at e2
      obtain rfl := e0
      obtain ⟨rfl, rfl⟩ := e1
      obtain rfl := e2
      exact ⟨a_0, a_1_0, a_1_1, a_2, rfl, wa_1_0, wa_1_1, wa_2⟩
theorem el_35 {H : Type} {enc : TypeId × Value → H} {w : World} {base : Nat} {spare : Nat → Bool} {held : Bool} (n : Nat) (cs : List Value) (x : DataW H × List MemPlace) (h : DataW.trod enc Try.prog w base spare held n 35 cs = some x) :
    ∃ p : S35, k35.K w p cs ∧ ((Lit.int .u32 p.f1.f0).wf = true ∧ (Lit.int .i64 p.f1.f1).wf = true ∧ (Lit.int .i64 p.f2).wf = true) := by
  obtain ⟨a_0, a_1_0, a_1_1, a_2, rfl, wa_1_0, wa_1_1, wa_2⟩ := cells_35 h
  exact ⟨⟨a_0, ⟨a_1_0, a_1_1⟩, a_2⟩, k35_mk w _, wa_1_0, wa_1_1, wa_2⟩
theorem rd_22 {H : Type} {enc : TypeId × Value → H} {w : World} {base : Nat} {spare : Nat → Bool} {held : Bool} {fuel n c : Nat} {A : Option Addr} {x : DataW H × List MemPlace} (h : DataW.trod enc Try.prog w base spare held fuel 22 [.slice A n c] = some x) :
    ∃ l : List (S35), l.length = n ∧ n ≤ c ∧ Kd.C k35 w A n l ∧ ∀ p ∈ l, (Lit.int .u32 p.f1.f0).wf = true ∧ (Lit.int .i64 p.f1.f1).wf = true ∧ (Lit.int .i64 p.f2).wf = true := by
  haveI : Inhabited S35 := ⟨z35⟩
  exact Read.reads_slice k35 (fun p => (Lit.int .u32 p.f1.f0).wf = true ∧ (Lit.int .i64 p.f1.f1).wf = true ∧ (Lit.int .i64 p.f2).wf = true) Try.underlying22 (by kernel_rfl) el_35 h
set_option maxRecDepth 100000 in
theorem lifted (os : Os) (started : os.Started) (H : Type) (enc : TypeId × Value → H) :
    ReturnsInHanded {} Try.checked os 6 .any (Rows.triePlaysSpec.pre6 enc Try.prog Try.f6 Rows.triePlaysRow.domain false) (Rows.triePlaysSpec.post enc Try.prog Try.f6 false true false false) := by
  refine returnsInHanded_of_change_sized (C := Try.checked) own started (by kernel_rfl) Try.func6
    (ChangeSpec.witness6 (enc := enc) (C := Try.checked) false ⟨#[], #[.slice none 0 0, .int .u32 0, .agg #[.int .u32 0, .int .i64 0]], []⟩ 8 (by kernel_rfl) (by kernel_rfl) (by kernel_rfl) (by kernel_rfl)) ?_
  intro W base args ds gs before hval0 hW hcnd hsz0 _
  have hsz : (DataW.weightsEach Try.prog (Try.f6.params.toList ++ Rows.triePlaysSpec.plain.varTypes Try.prog) (ds ++ gs)).all (· ≤ reachBytes) = true := hsz0
  have hval : ∀ (j : Nat) t v, Try.f6.params[j]? = some t → args[j]? = some v → Value.okWide Try.prog W .any base t v := hval0
  have hW' := hW
  obtain ⟨p, q, hA0, hV, rfl, hfz, hnd⟩ := hW
  have hA : DataW.TrodAll enc Try.prog W 0 (fun _ => true) true Try.f6.params.toList args.toList ds p := hA0
  rw [Try.params6] at hA hval hsz
  obtain ⟨v0, vs0, d0, ds0, p0, q0, hargs, rfl, rfl, h0, r0⟩ := trodAll_cons hA
  obtain ⟨v1, vs1, d1, ds1, p1, q1, rfl, rfl, rfl, h1, r1⟩ := trodAll_cons r0
  obtain ⟨v2, vs2, d2, ds2, p2, q2, rfl, rfl, rfl, h2, r2⟩ := trodAll_cons r1
  obtain ⟨rfl, rfl, rfl⟩ := trodAll_nil r2
  obtain rfl : args = #[v0, v1, v2] := by cases args; simp_all
  obtain ⟨rfl, rfl⟩ := trodVars_none hV
  have k0 := h0
  have lt0 : ∀ x ∈ p0, x.block < W.heap.size := by obtain ⟨m, hm⟩ := k0; exact DataW.trod_lt m _ _ _ hm
  have k1 := h1
  have lt1 : ∀ x ∈ p1, x.block < W.heap.size := by obtain ⟨m, hm⟩ := k1; exact DataW.trod_lt m _ _ _ hm
  have k2 := h2
  have lt2 : ∀ x ∈ p2, x.block < W.heap.size := by obtain ⟨m, hm⟩ := k2; exact DataW.trod_lt m _ _ _ hm
  obtain ⟨A0, n0, c0, rfl⟩ := okWide_slice Try.underlying22 (hval 0 22 v0 rfl rfl)
  obtain ⟨fuel0, hf0⟩ := h0
  obtain ⟨l0, ln0, hc0, hr0, w0⟩ := rd_22 (by simpa [Value.cells] using hf0)
  subst ln0
  obtain ⟨a1, rfl, _, _, w1⟩ := open_int Try.underlying31 (hval 1 31 v1 rfl rfl) h1
  obtain ⟨cs2, rfl, _⟩ := okWide_struct Try.underlying33 (hval 2 33 v2 rfl rfl)
  obtain ⟨fuel2, hf2⟩ := h2
  obtain ⟨a2_0, a2_1, ce2, wa2_0, wa2_1⟩ := cells_33 hf2
  obtain rfl : cs2 = #[.int .u32 a2_0, .int .i64 a2_1] := by cases cs2; simpa [Value.cells] using ce2
  have hk := Pure.TriePlays l0 a1 a2_0 a2_1 w0 w1 wa2_0 wa2_1
  refine (crossbucklaw10_TriePlays.calls _ _ l0 a1 a2_0 a2_1 true W hr0 hc0 hk).mono fun e W' ⟨he, bel0⟩ => ?_
  have bel : Below W.heap.size W W' := bel0
  subst he
  exact ⟨_, rfl, _, _, _, [], _, [], hW', trodAll_mk1 (shut_bool Try.underlying4 _), (trodAll_cons_mk (Below.trod laidOut (by kernel_rfl) (of_decide_eq_true (by kernel_rfl)) k0 bel lt0) (trodAll_cons_mk (Below.trod laidOut (by kernel_rfl) (of_decide_eq_true (by kernel_rfl)) k1 bel lt1) (trodAll_cons_mk (Below.trod laidOut (by kernel_rfl) (of_decide_eq_true (by kernel_rfl)) k2 bel lt2) trodAll_mk0))), rfl, bel.frame _, fun h => by cases h⟩
theorem over : Rows.triePlaysRow.holds Try.pinned (OpenSpec.ofChange Rows.triePlaysSpec) :=
  OpenClaim.holds_of_wide 6 Try.f6 rfl rfl rfl rfl rfl rfl rfl ⟨rfl, rfl, rfl, rfl, rfl⟩ rfl rfl rfl rfl rfl (by kernel_rfl) Try.func6 (by kernel_rfl)
    (of_decide_eq_true (by kernel_rfl)) (by unfold Func.isWrapper; first | (rw [if_pos (by decide +kernel)]; kernel_rfl) | (rw [if_neg (by decide +kernel)]; exact ⟨rfl, rfl⟩))
    (fun os started H enc _ => lifted os started H enc)
theorem proved : Rows.TriePlaysSaid := over
#print axioms proved
end Go.Proofs.Ytbmibakhpealjaa.triePlays
namespace Go.Proofs.Ytbmibakhpealjaa
/-- The row, under a short name, for the claim. -/
theorem triePlays_holds : Rows.TriePlaysSaid := triePlays.proved
end Go.Proofs.Ytbmibakhpealjaa
