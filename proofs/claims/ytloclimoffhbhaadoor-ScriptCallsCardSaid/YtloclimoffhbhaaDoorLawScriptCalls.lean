/- The law ScriptCalls: its row, out of its walk and the plain statement Pure.ScriptCalls. No condition of its own. -/
import Derived.Test.YtloclimoffhbhaaDoorRows
import Derived.Test.YtloclimoffhbhaaDoorKinds
import Derived.Test.YtloclimoffhbhaaDoorRead
import Derived.Test.YtloclimoffhbhaaDoorPScax201
import Derived.Test.YtloclimoffhbhaaDoorPureScriptCalls
import Derived.Test.YtloclimoffhbhaaDoorCards
import Derived.Test.YtloclimoffhbhaaDoorTie
import Derived.Test.YtloclimoffhbhaaDoorCard
import Derived.Test.YtloclimoffhbhaaDoorHead
import Derived.WalkKit
import Derived.ProofKit
import Derived.OpenShut
import Derived.ShutString
import Derived.ChangeOld
import Derived.Below
import Derived.SizedLaws
import Derived.Lib.SmallJoins
import Derived.Deep.DeepHandedRow
import Derived.Lib.LaidTab
namespace Go.Proofs.YtloclimoffhbhaaDoor.scriptCalls
open Go.ChangeShapes Go.WideShapes Go.ChangeAt Go.RowKit Go.Proofs.YtloclimoffhbhaaDoor.PSca Go.Proofs.YtloclimoffhbhaaDoorW.PrintWords
open Go.ChangeMaps (open_string shut_string)
set_option linter.unusedVariables false
set_option maxRecDepth 100000
theorem own : ownKnob Tryd.prog.godebug = none := by kernel_rfl
theorem laidOut : laidOutB Tryd.prog = true := by kernel_rfl
theorem cells_42 {H : Type} {enc : TypeId × Value → H} {w : World} {base : Nat} {spare : Nat → Bool} {held : Bool} {fuel : Nat} {cs : List Value} {x : DataW H × List MemPlace} (h : DataW.trod enc Tryd.prog w base spare held fuel 42 cs = some x) :
    ∃ (a_0 : Int) (a_1 : Int), cs = [.int .u32 a_0, .int .i64 a_1] ∧ (Lit.int .u32 a_0).wf = true ∧ (Lit.int .i64 a_1).wf = true := by
  obtain ⟨ys, m, _, _, hlen, hyl, hf⟩ := DataW.trod_struct Tryd.underlying42 h
  have hlen2 : cs.length = 2 := hlen.trans (by kernel_rfl)
  match ys, hyl with
  | [y0, y1], _ =>
    have g0 : DataW.trod enc Tryd.prog w base spare held m 40 ((cs.drop 0).take 1) = some y0 := hf 0 _ rfl
    obtain ⟨a_0, e0, _, wa_0⟩ := DataW.trod_int Tryd.underlying40 g0
    have g1 : DataW.trod enc Tryd.prog w base spare held m 3 ((cs.drop 1).take 1) = some y1 := hf 1 _ rfl
    obtain ⟨a_1, e1, _, wa_1⟩ := DataW.trod_int Tryd.underlying3 g1
    match cs, hlen2 with
    | [z0, z1], _ =>
      simp at e0
      simp at e1
      obtain rfl := e0
      obtain rfl := e1
      exact ⟨a_0, a_1, rfl, wa_0, wa_1⟩
theorem cells_44 {H : Type} {enc : TypeId × Value → H} {w : World} {base : Nat} {spare : Nat → Bool} {held : Bool} {fuel : Nat} {cs : List Value} {x : DataW H × List MemPlace} (h : DataW.trod enc Tryd.prog w base spare held fuel 44 cs = some x) :
    ∃ (a_0 : Int) (a_1 : Int) (a_2_0 : Int) (a_2_1 : Int) (a_3 : Int) (a_4 : Int), cs = [.int .i64 a_0, .int .i64 a_1, .int .u32 a_2_0, .int .i64 a_2_1, .int .i64 a_3, .int .i64 a_4] ∧ (Lit.int .i64 a_0).wf = true ∧ (Lit.int .i64 a_1).wf = true ∧ (Lit.int .u32 a_2_0).wf = true ∧ (Lit.int .i64 a_2_1).wf = true ∧ (Lit.int .i64 a_3).wf = true ∧ (Lit.int .i64 a_4).wf = true := by
  obtain ⟨ys, m, _, _, hlen, hyl, hf⟩ := DataW.trod_struct Tryd.underlying44 h
  have hlen2 : cs.length = 6 := hlen.trans (by kernel_rfl)
  match ys, hyl with
  | [y0, y1, y2, y3, y4], _ =>
    have g0 : DataW.trod enc Tryd.prog w base spare held m 3 ((cs.drop 0).take 1) = some y0 := hf 0 _ rfl
    obtain ⟨a_0, e0, _, wa_0⟩ := DataW.trod_int Tryd.underlying3 g0
    have g1 : DataW.trod enc Tryd.prog w base spare held m 3 ((cs.drop 1).take 1) = some y1 := hf 1 _ rfl
    obtain ⟨a_1, e1, _, wa_1⟩ := DataW.trod_int Tryd.underlying3 g1
    have g2 : DataW.trod enc Tryd.prog w base spare held m 42 ((cs.drop 2).take 2) = some y2 := hf 2 _ rfl
    obtain ⟨a_2_0, a_2_1, e2, wa_2_0, wa_2_1⟩ := cells_42 g2
    have g3 : DataW.trod enc Tryd.prog w base spare held m 3 ((cs.drop 4).take 1) = some y3 := hf 3 _ rfl
    obtain ⟨a_3, e3, _, wa_3⟩ := DataW.trod_int Tryd.underlying3 g3
    have g4 : DataW.trod enc Tryd.prog w base spare held m 3 ((cs.drop 5).take 1) = some y4 := hf 4 _ rfl
    obtain ⟨a_4, e4, _, wa_4⟩ := DataW.trod_int Tryd.underlying3 g4
    match cs, hlen2 with
    | [z0, z1, z2, z3, z4, z5], _ =>
      simp at e0
      simp at e1
      simp at e2
      simp at e3
      simp at e4
      obtain rfl := e0
      obtain rfl := e1
      obtain ⟨rfl, rfl⟩ := e2
      obtain rfl := e3
      obtain rfl := e4
      exact ⟨a_0, a_1, a_2_0, a_2_1, a_3, a_4, rfl, wa_0, wa_1, wa_2_0, wa_2_1, wa_3, wa_4⟩
theorem cells_46 {H : Type} {enc : TypeId × Value → H} {w : World} {base : Nat} {spare : Nat → Bool} {held : Bool} {fuel : Nat} {cs : List Value} {x : DataW H × List MemPlace} (h : DataW.trod enc Tryd.prog w base spare held fuel 46 cs = some x) :
    ∃ (a_0 : Bool) (a_1_0 : Int) (a_1_1 : Int) (a_1_2_0 : Int) (a_1_2_1 : Int) (a_1_3 : Int) (a_1_4 : Int), cs = [.bool a_0, .int .i64 a_1_0, .int .i64 a_1_1, .int .u32 a_1_2_0, .int .i64 a_1_2_1, .int .i64 a_1_3, .int .i64 a_1_4] ∧ (Lit.int .i64 a_1_0).wf = true ∧ (Lit.int .i64 a_1_1).wf = true ∧ (Lit.int .u32 a_1_2_0).wf = true ∧ (Lit.int .i64 a_1_2_1).wf = true ∧ (Lit.int .i64 a_1_3).wf = true ∧ (Lit.int .i64 a_1_4).wf = true := by
  obtain ⟨ys, m, _, _, hlen, hyl, hf⟩ := DataW.trod_struct Tryd.underlying46 h
  have hlen2 : cs.length = 7 := hlen.trans (by kernel_rfl)
  match ys, hyl with
  | [y0, y1], _ =>
    have g0 : DataW.trod enc Tryd.prog w base spare held m 4 ((cs.drop 0).take 1) = some y0 := hf 0 _ rfl
    obtain ⟨a_0, e0, _⟩ := DataW.trod_bool Tryd.underlying4 g0
    have g1 : DataW.trod enc Tryd.prog w base spare held m 44 ((cs.drop 1).take 6) = some y1 := hf 1 _ rfl
    obtain ⟨a_1_0, a_1_1, a_1_2_0, a_1_2_1, a_1_3, a_1_4, e1, wa_1_0, wa_1_1, wa_1_2_0, wa_1_2_1, wa_1_3, wa_1_4⟩ := cells_44 g1
    match cs, hlen2 with
    | [z0, z1, z2, z3, z4, z5, z6], _ =>
      simp at e0
      simp at e1
      obtain rfl := e0
      obtain ⟨rfl, rfl, rfl, rfl, rfl, rfl⟩ := e1
      exact ⟨a_0, a_1_0, a_1_1, a_1_2_0, a_1_2_1, a_1_3, a_1_4, rfl, wa_1_0, wa_1_1, wa_1_2_0, wa_1_2_1, wa_1_3, wa_1_4⟩
theorem el_46 {H : Type} {enc : TypeId × Value → H} {w : World} {base : Nat} {spare : Nat → Bool} {held : Bool} (n : Nat) (cs : List Value) (x : DataW H × List MemPlace) (h : DataW.trod enc Tryd.prog w base spare held n 46 cs = some x) :
    ∃ p : S46, k46.K w p cs ∧ ((Lit.int .i64 p.f1.f0).wf = true ∧ (Lit.int .i64 p.f1.f1).wf = true ∧ (Lit.int .u32 p.f1.f2.f0).wf = true ∧ (Lit.int .i64 p.f1.f2.f1).wf = true ∧ (Lit.int .i64 p.f1.f3).wf = true ∧ (Lit.int .i64 p.f1.f4).wf = true) := by
  obtain ⟨a_0, a_1_0, a_1_1, a_1_2_0, a_1_2_1, a_1_3, a_1_4, rfl, wa_1_0, wa_1_1, wa_1_2_0, wa_1_2_1, wa_1_3, wa_1_4⟩ := cells_46 h
  exact ⟨⟨a_0, ⟨a_1_0, a_1_1, ⟨a_1_2_0, a_1_2_1⟩, a_1_3, a_1_4⟩⟩, k46_mk w _, wa_1_0, wa_1_1, wa_1_2_0, wa_1_2_1, wa_1_3, wa_1_4⟩
theorem rd_111 {H : Type} {enc : TypeId × Value → H} {w : World} {base : Nat} {spare : Nat → Bool} {held : Bool} {fuel n c : Nat} {A : Option Addr} {x : DataW H × List MemPlace} (h : DataW.trod enc Tryd.prog w base spare held fuel 111 [.slice A n c] = some x) :
    ∃ l : List (S46), l.length = n ∧ n ≤ c ∧ Kd.C k46 w A n l ∧ ∀ p ∈ l, (Lit.int .i64 p.f1.f0).wf = true ∧ (Lit.int .i64 p.f1.f1).wf = true ∧ (Lit.int .u32 p.f1.f2.f0).wf = true ∧ (Lit.int .i64 p.f1.f2.f1).wf = true ∧ (Lit.int .i64 p.f1.f3).wf = true ∧ (Lit.int .i64 p.f1.f4).wf = true := by
  haveI : Inhabited S46 := ⟨z46⟩
  exact Read.reads_slice k46 (fun p => (Lit.int .i64 p.f1.f0).wf = true ∧ (Lit.int .i64 p.f1.f1).wf = true ∧ (Lit.int .u32 p.f1.f2.f0).wf = true ∧ (Lit.int .i64 p.f1.f2.f1).wf = true ∧ (Lit.int .i64 p.f1.f3).wf = true ∧ (Lit.int .i64 p.f1.f4).wf = true) Tryd.underlying111 (by kernel_rfl) el_46 h
theorem cells_61 {H : Type} {enc : TypeId × Value → H} {w : World} {base : Nat} {spare : Nat → Bool} {held : Bool} {fuel : Nat} {cs : List Value} {x : DataW H × List MemPlace} (h : DataW.trod enc Tryd.prog w base spare held fuel 61 cs = some x) :
    ∃ (a_0 : Int) (a_1 : Int), cs = [.int .u16 a_0, .int .u16 a_1] ∧ (Lit.int .u16 a_0).wf = true ∧ (Lit.int .u16 a_1).wf = true := by
  obtain ⟨ys, m, _, _, hlen, hyl, hf⟩ := DataW.trod_struct Tryd.underlying61 h
  have hlen2 : cs.length = 2 := hlen.trans (by kernel_rfl)
  match ys, hyl with
  | [y0, y1], _ =>
    have g0 : DataW.trod enc Tryd.prog w base spare held m 51 ((cs.drop 0).take 1) = some y0 := hf 0 _ rfl
    obtain ⟨a_0, e0, _, wa_0⟩ := DataW.trod_int Tryd.underlying51 g0
    have g1 : DataW.trod enc Tryd.prog w base spare held m 51 ((cs.drop 1).take 1) = some y1 := hf 1 _ rfl
    obtain ⟨a_1, e1, _, wa_1⟩ := DataW.trod_int Tryd.underlying51 g1
    match cs, hlen2 with
    | [z0, z1], _ =>
      simp at e0
      simp at e1
      obtain rfl := e0
      obtain rfl := e1
      exact ⟨a_0, a_1, rfl, wa_0, wa_1⟩
theorem cells_77 {H : Type} {enc : TypeId × Value → H} {w : World} {base : Nat} {spare : Nat → Bool} {held : Bool} {fuel : Nat} {cs : List Value} {x : DataW H × List MemPlace} (h : DataW.trod enc Tryd.prog w base spare held fuel 77 cs = some x) :
    ∃ (a_0_0 : Int) (a_0_1 : Int) (a_1_0 : Int) (a_1_1 : Int) (a_2 : Int) (a_3_0 : Int) (a_3_1 : Int) (a_4_0 : Int) (a_4_1 : Int), cs = [.int .u32 a_0_0, .int .i64 a_0_1, .int .u32 a_1_0, .int .i64 a_1_1, .int .i64 a_2, .int .u16 a_3_0, .int .u16 a_3_1, .int .u16 a_4_0, .int .u16 a_4_1] ∧ (Lit.int .u32 a_0_0).wf = true ∧ (Lit.int .i64 a_0_1).wf = true ∧ (Lit.int .u32 a_1_0).wf = true ∧ (Lit.int .i64 a_1_1).wf = true ∧ (Lit.int .i64 a_2).wf = true ∧ (Lit.int .u16 a_3_0).wf = true ∧ (Lit.int .u16 a_3_1).wf = true ∧ (Lit.int .u16 a_4_0).wf = true ∧ (Lit.int .u16 a_4_1).wf = true := by
  obtain ⟨ys, m, _, _, hlen, hyl, hf⟩ := DataW.trod_struct Tryd.underlying77 h
  have hlen2 : cs.length = 9 := hlen.trans (by kernel_rfl)
  match ys, hyl with
  | [y0, y1, y2, y3, y4], _ =>
    have g0 : DataW.trod enc Tryd.prog w base spare held m 42 ((cs.drop 0).take 2) = some y0 := hf 0 _ rfl
    obtain ⟨a_0_0, a_0_1, e0, wa_0_0, wa_0_1⟩ := cells_42 g0
    have g1 : DataW.trod enc Tryd.prog w base spare held m 42 ((cs.drop 2).take 2) = some y1 := hf 1 _ rfl
    obtain ⟨a_1_0, a_1_1, e1, wa_1_0, wa_1_1⟩ := cells_42 g1
    have g2 : DataW.trod enc Tryd.prog w base spare held m 3 ((cs.drop 4).take 1) = some y2 := hf 2 _ rfl
    obtain ⟨a_2, e2, _, wa_2⟩ := DataW.trod_int Tryd.underlying3 g2
    have g3 : DataW.trod enc Tryd.prog w base spare held m 61 ((cs.drop 5).take 2) = some y3 := hf 3 _ rfl
    obtain ⟨a_3_0, a_3_1, e3, wa_3_0, wa_3_1⟩ := cells_61 g3
    have g4 : DataW.trod enc Tryd.prog w base spare held m 61 ((cs.drop 7).take 2) = some y4 := hf 4 _ rfl
    obtain ⟨a_4_0, a_4_1, e4, wa_4_0, wa_4_1⟩ := cells_61 g4
    match cs, hlen2 with
    | [z0, z1, z2, z3, z4, z5, z6, z7, z8], _ =>
      simp at e0
      simp at e1
      simp at e2
      simp at e3
      simp at e4
      obtain ⟨rfl, rfl⟩ := e0
      obtain ⟨rfl, rfl⟩ := e1
      obtain rfl := e2
      obtain ⟨rfl, rfl⟩ := e3
      obtain ⟨rfl, rfl⟩ := e4
      exact ⟨a_0_0, a_0_1, a_1_0, a_1_1, a_2, a_3_0, a_3_1, a_4_0, a_4_1, rfl, wa_0_0, wa_0_1, wa_1_0, wa_1_1, wa_2, wa_3_0, wa_3_1, wa_4_0, wa_4_1⟩
theorem cells_113 {H : Type} {enc : TypeId × Value → H} {w : World} {base : Nat} {spare : Nat → Bool} {held : Bool} {fuel : Nat} {cs : List Value} {x : DataW H × List MemPlace} (h : DataW.trod enc Tryd.prog w base spare held fuel 113 cs = some x) :
    ∃ (a_0 : Int) (a_1 : Int) (a_2 : Int) (a_3_0_0 : Int) (a_3_0_1 : Int) (a_3_1_0 : Int) (a_3_1_1 : Int) (a_3_2 : Int) (a_3_3_0 : Int) (a_3_3_1 : Int) (a_3_4_0 : Int) (a_3_4_1 : Int), cs = [.int .i64 a_0, .int .i64 a_1, .int .i64 a_2, .int .u32 a_3_0_0, .int .i64 a_3_0_1, .int .u32 a_3_1_0, .int .i64 a_3_1_1, .int .i64 a_3_2, .int .u16 a_3_3_0, .int .u16 a_3_3_1, .int .u16 a_3_4_0, .int .u16 a_3_4_1] ∧ (Lit.int .i64 a_0).wf = true ∧ (Lit.int .i64 a_1).wf = true ∧ (Lit.int .i64 a_2).wf = true ∧ (Lit.int .u32 a_3_0_0).wf = true ∧ (Lit.int .i64 a_3_0_1).wf = true ∧ (Lit.int .u32 a_3_1_0).wf = true ∧ (Lit.int .i64 a_3_1_1).wf = true ∧ (Lit.int .i64 a_3_2).wf = true ∧ (Lit.int .u16 a_3_3_0).wf = true ∧ (Lit.int .u16 a_3_3_1).wf = true ∧ (Lit.int .u16 a_3_4_0).wf = true ∧ (Lit.int .u16 a_3_4_1).wf = true := by
  obtain ⟨ys, m, _, _, hlen, hyl, hf⟩ := DataW.trod_struct Tryd.underlying113 h
  have hlen2 : cs.length = 12 := hlen.trans (by kernel_rfl)
  match ys, hyl with
  | [y0, y1, y2, y3], _ =>
    have g0 : DataW.trod enc Tryd.prog w base spare held m 3 ((cs.drop 0).take 1) = some y0 := hf 0 _ rfl
    obtain ⟨a_0, e0, _, wa_0⟩ := DataW.trod_int Tryd.underlying3 g0
    have g1 : DataW.trod enc Tryd.prog w base spare held m 3 ((cs.drop 1).take 1) = some y1 := hf 1 _ rfl
    obtain ⟨a_1, e1, _, wa_1⟩ := DataW.trod_int Tryd.underlying3 g1
    have g2 : DataW.trod enc Tryd.prog w base spare held m 3 ((cs.drop 2).take 1) = some y2 := hf 2 _ rfl
    obtain ⟨a_2, e2, _, wa_2⟩ := DataW.trod_int Tryd.underlying3 g2
    have g3 : DataW.trod enc Tryd.prog w base spare held m 77 ((cs.drop 3).take 9) = some y3 := hf 3 _ rfl
    obtain ⟨a_3_0_0, a_3_0_1, a_3_1_0, a_3_1_1, a_3_2, a_3_3_0, a_3_3_1, a_3_4_0, a_3_4_1, e3, wa_3_0_0, wa_3_0_1, wa_3_1_0, wa_3_1_1, wa_3_2, wa_3_3_0, wa_3_3_1, wa_3_4_0, wa_3_4_1⟩ := cells_77 g3
    match cs, hlen2 with
    | [z0, z1, z2, z3, z4, z5, z6, z7, z8, z9, z10, z11], _ =>
      simp at e0
      simp at e1
      simp at e2
      simp at e3
      obtain rfl := e0
      obtain rfl := e1
      obtain rfl := e2
      obtain ⟨rfl, rfl, rfl, rfl, rfl, rfl, rfl, rfl, rfl⟩ := e3
      exact ⟨a_0, a_1, a_2, a_3_0_0, a_3_0_1, a_3_1_0, a_3_1_1, a_3_2, a_3_3_0, a_3_3_1, a_3_4_0, a_3_4_1, rfl, wa_0, wa_1, wa_2, wa_3_0_0, wa_3_0_1, wa_3_1_0, wa_3_1_1, wa_3_2, wa_3_3_0, wa_3_3_1, wa_3_4_0, wa_3_4_1⟩
theorem cells_115 {H : Type} {enc : TypeId × Value → H} {w : World} {base : Nat} {spare : Nat → Bool} {held : Bool} {fuel : Nat} {cs : List Value} {x : DataW H × List MemPlace} (h : DataW.trod enc Tryd.prog w base spare held fuel 115 cs = some x) :
    ∃ (a_0 : Int) (Aa_1 : Option Addr) (na_1 ca_1 : Nat) (la_1 : List (S46)) (a_2_0 : Int) (a_2_1 : Int) (a_2_2 : Int) (a_2_3_0_0 : Int) (a_2_3_0_1 : Int) (a_2_3_1_0 : Int) (a_2_3_1_1 : Int) (a_2_3_2 : Int) (a_2_3_3_0 : Int) (a_2_3_3_1 : Int) (a_2_3_4_0 : Int) (a_2_3_4_1 : Int) (a_3 : Int), cs = [.int .i64 a_0, .slice Aa_1 na_1 ca_1, .int .i64 a_2_0, .int .i64 a_2_1, .int .i64 a_2_2, .int .u32 a_2_3_0_0, .int .i64 a_2_3_0_1, .int .u32 a_2_3_1_0, .int .i64 a_2_3_1_1, .int .i64 a_2_3_2, .int .u16 a_2_3_3_0, .int .u16 a_2_3_3_1, .int .u16 a_2_3_4_0, .int .u16 a_2_3_4_1, .int .i64 a_3] ∧ (Lit.int .i64 a_0).wf = true ∧ (la_1.length = na_1 ∧ na_1 ≤ ca_1 ∧ Kd.C k46 w Aa_1 na_1 la_1 ∧ ∀ p ∈ la_1, (Lit.int .i64 p.f1.f0).wf = true ∧ (Lit.int .i64 p.f1.f1).wf = true ∧ (Lit.int .u32 p.f1.f2.f0).wf = true ∧ (Lit.int .i64 p.f1.f2.f1).wf = true ∧ (Lit.int .i64 p.f1.f3).wf = true ∧ (Lit.int .i64 p.f1.f4).wf = true) ∧ (Lit.int .i64 a_2_0).wf = true ∧ (Lit.int .i64 a_2_1).wf = true ∧ (Lit.int .i64 a_2_2).wf = true ∧ (Lit.int .u32 a_2_3_0_0).wf = true ∧ (Lit.int .i64 a_2_3_0_1).wf = true ∧ (Lit.int .u32 a_2_3_1_0).wf = true ∧ (Lit.int .i64 a_2_3_1_1).wf = true ∧ (Lit.int .i64 a_2_3_2).wf = true ∧ (Lit.int .u16 a_2_3_3_0).wf = true ∧ (Lit.int .u16 a_2_3_3_1).wf = true ∧ (Lit.int .u16 a_2_3_4_0).wf = true ∧ (Lit.int .u16 a_2_3_4_1).wf = true ∧ (Lit.int .i64 a_3).wf = true := by
  obtain ⟨ys, m, _, _, hlen, hyl, hf⟩ := DataW.trod_struct Tryd.underlying115 h
  have hlen2 : cs.length = 15 := hlen.trans (by kernel_rfl)
  match ys, hyl with
  | [y0, y1, y2, y3], _ =>
    have g0 : DataW.trod enc Tryd.prog w base spare held m 3 ((cs.drop 0).take 1) = some y0 := hf 0 _ rfl
    obtain ⟨a_0, e0, _, wa_0⟩ := DataW.trod_int Tryd.underlying3 g0
    have g1 : DataW.trod enc Tryd.prog w base spare held m 111 ((cs.drop 1).take 1) = some y1 := hf 1 _ rfl
    obtain ⟨Aa_1, na_1, ca_1, e1⟩ := Go.Joins.slice_form Tryd.underlying111 g1
    rw [e1] at g1
    have wa_1 := rd_111 g1
    obtain ⟨la_1, wa_1⟩ := wa_1
    have g2 : DataW.trod enc Tryd.prog w base spare held m 113 ((cs.drop 2).take 12) = some y2 := hf 2 _ rfl
    obtain ⟨a_2_0, a_2_1, a_2_2, a_2_3_0_0, a_2_3_0_1, a_2_3_1_0, a_2_3_1_1, a_2_3_2, a_2_3_3_0, a_2_3_3_1, a_2_3_4_0, a_2_3_4_1, e2, wa_2_0, wa_2_1, wa_2_2, wa_2_3_0_0, wa_2_3_0_1, wa_2_3_1_0, wa_2_3_1_1, wa_2_3_2, wa_2_3_3_0, wa_2_3_3_1, wa_2_3_4_0, wa_2_3_4_1⟩ := cells_113 g2
    have g3 : DataW.trod enc Tryd.prog w base spare held m 3 ((cs.drop 14).take 1) = some y3 := hf 3 _ rfl
    obtain ⟨a_3, e3, _, wa_3⟩ := DataW.trod_int Tryd.underlying3 g3
    match cs, hlen2 with
    | [z0, z1, z2, z3, z4, z5, z6, z7, z8, z9, z10, z11, z12, z13, z14], _ =>
      simp at e0
      simp at e1
      simp at e2
      simp at e3
      obtain rfl := e0
      obtain rfl := e1
      obtain ⟨rfl, rfl, rfl, rfl, rfl, rfl, rfl, rfl, rfl, rfl, rfl, rfl⟩ := e2
      obtain rfl := e3
      exact ⟨a_0, Aa_1, na_1, ca_1, la_1, a_2_0, a_2_1, a_2_2, a_2_3_0_0, a_2_3_0_1, a_2_3_1_0, a_2_3_1_1, a_2_3_2, a_2_3_3_0, a_2_3_3_1, a_2_3_4_0, a_2_3_4_1, a_3, rfl, wa_0, wa_1, wa_2_0, wa_2_1, wa_2_2, wa_2_3_0_0, wa_2_3_0_1, wa_2_3_1_0, wa_2_3_1_1, wa_2_3_2, wa_2_3_3_0, wa_2_3_3_1, wa_2_3_4_0, wa_2_3_4_1, wa_3⟩
theorem contract (H : Type) (enc : TypeId × Value → H) (W : World) (base : Nat) (args : Array Value) (ds gs : List (DataW H)) (before : List MemPlace)
    (hval : ∀ (j : Nat) t v, Tryd.f17.params[j]? = some t → args[j]? = some v → Value.okWide Tryd.prog W .any base t v)
    (hW : DataW.Whole enc Tryd.prog Tryd.f17.params.toList Rows.scriptCallsSpec.vars false W args.toList ds gs before) (hsz : (DataW.weightsEach Tryd.prog (Tryd.f17.params.toList ++ Rows.scriptCallsSpec.plain.varTypes Tryd.prog) (ds ++ gs)).all (· ≤ reachBytes) = true)
    (hL : laidMetH Tryd.prog Rows.scriptCallsRow.laid W) (hsh : W.ShapedOpen Tryd.prog) :
    Calls Tryd.prog 17 args W fun e W' => ∃ v, e = .returned v ∧ Rows.scriptCallsSpec.post enc Tryd.prog Tryd.f17 false true false false W args v W' := by
  have hW' := hW
  obtain ⟨p, q, hA0, hV, rfl, hfz, hnd⟩ := hW
  have hA : DataW.TrodAll enc Tryd.prog W 0 (fun _ => true) true Tryd.f17.params.toList args.toList ds p := hA0
  rw [Tryd.params17] at hA hval hsz
  obtain ⟨v0, vs0, d0, ds0, p0, q0, hargs, rfl, rfl, h0, r0⟩ := trodAll_cons hA
  obtain ⟨rfl, rfl, rfl⟩ := trodAll_nil r0
  obtain rfl : args = #[v0] := by cases args; simp_all
  obtain ⟨rfl, rfl⟩ := trodVars_none hV
  have k0 := h0
  have lt0 : ∀ x ∈ p0, x.block < W.heap.size := by obtain ⟨m, hm⟩ := k0; exact DataW.trod_lt m _ _ _ hm
  obtain ⟨cs0, rfl, _⟩ := okWide_struct Tryd.underlying115 (hval 0 115 v0 rfl rfl)
  obtain ⟨fuel0, hf0⟩ := h0
  obtain ⟨a0_0, Aa0_1, na0_1, ca0_1, la0_1, a0_2_0, a0_2_1, a0_2_2, a0_2_3_0_0, a0_2_3_0_1, a0_2_3_1_0, a0_2_3_1_1, a0_2_3_2, a0_2_3_3_0, a0_2_3_3_1, a0_2_3_4_0, a0_2_3_4_1, a0_3, ce0, wa0_0, wa0_1, wa0_2_0, wa0_2_1, wa0_2_2, wa0_2_3_0_0, wa0_2_3_0_1, wa0_2_3_1_0, wa0_2_3_1_1, wa0_2_3_2, wa0_2_3_3_0, wa0_2_3_3_1, wa0_2_3_4_0, wa0_2_3_4_1, wa0_3⟩ := cells_115 hf0
  obtain rfl : cs0 = #[.int .i64 a0_0, .slice Aa0_1 na0_1 ca0_1, .int .i64 a0_2_0, .int .i64 a0_2_1, .int .i64 a0_2_2, .int .u32 a0_2_3_0_0, .int .i64 a0_2_3_0_1, .int .u32 a0_2_3_1_0, .int .i64 a0_2_3_1_1, .int .i64 a0_2_3_2, .int .u16 a0_2_3_3_0, .int .u16 a0_2_3_3_1, .int .u16 a0_2_3_4_0, .int .u16 a0_2_3_4_1, .int .i64 a0_3] := by cases cs0; simpa [Value.cells] using ce0
  obtain ⟨lna0_1, hca0_1, hra0_1, wa0_1⟩ := wa0_1
  subst lna0_1
  have hk := Pure.ScriptCalls a0_0 la0_1 a0_2_0 a0_2_1 a0_2_2 a0_2_3_0_0 a0_2_3_0_1 a0_2_3_1_0 a0_2_3_1_1 a0_2_3_2 a0_2_3_3_0 a0_2_3_3_1 a0_2_3_4_0 a0_2_3_4_1 a0_3 wa0_0 wa0_1 wa0_2_0 wa0_2_1 wa0_2_2 wa0_2_3_0_0 wa0_2_3_0_1 wa0_2_3_1_0 wa0_2_3_1_1 wa0_2_3_2 wa0_2_3_3_0 wa0_2_3_3_1 wa0_2_3_4_0 wa0_2_3_4_1 wa0_3
  have hG : Hand.Good true true W := ⟨fun _ => Hand.max_of hsh, fun _ => Hand.pow_of 2 hL rfl⟩
  have hK : Kinds W := kinds_of 4 hL rfl
  refine (crossbucklaw25_ScriptCalls.calls a0_0 _ _ la0_1 a0_2_0 a0_2_1 a0_2_2 a0_2_3_0_0 a0_2_3_0_1 a0_2_3_1_0 a0_2_3_1_1 a0_2_3_2 a0_2_3_3_0 a0_2_3_3_1 a0_2_3_4_0 a0_2_3_4_1 a0_3 true W hra0_1 hca0_1 hG hK hk).mono fun e W' ⟨he, bel0⟩ => ?_
  have bel : Below W.heap.size W W' := bel0
  subst he
  exact ⟨_, rfl, _, _, _, [], _, [], hW', trodAll_mk1 (shut_bool Tryd.underlying4 _), (trodAll_cons_mk (Below.trod laidOut (by kernel_rfl) (of_decide_eq_true (by kernel_rfl)) k0 bel lt0) trodAll_mk0), rfl, bel.frame _, fun h => by cases h⟩
theorem laid_met (os : Os) : laidMet Tryd.prog Rows.scriptCallsRow.laid ((Hand.laidWorld Rows.scriptCallsRow.laid os).forCall (fun _ _ => 0) ⟨#[], #[.agg #[.int .i64 0, .slice none 0 0, .int .i64 0, .int .i64 0, .int .i64 0, .int .u32 0, .int .i64 0, .int .u32 0, .int .i64 0, .int .i64 0, .int .u16 0, .int .u16 0, .int .u16 0, .int .u16 0, .int .i64 0]], []⟩).memory :=
  laidMet_of_run' 8 (by kernel_rfl) (by kernel_rfl)
theorem reads (os : Os) {H : Type} (enc : TypeId × Value → H) : (DataW.whole enc Tryd.prog ((Hand.laidWorld Rows.scriptCallsRow.laid os).forCall (fun _ _ => 0) ⟨#[], #[.agg #[.int .i64 0, .slice none 0 0, .int .i64 0, .int .i64 0, .int .i64 0, .int .u32 0, .int .i64 0, .int .u32 0, .int .i64 0, .int .i64 0, .int .u16 0, .int .u16 0, .int .u16 0, .int .u16 0, .int .i64 0]], []⟩).memory Tryd.f17.params.toList Rows.scriptCallsSpec.vars false (#[.agg #[.int .i64 0, .slice none 0 0, .int .i64 0, .int .i64 0, .int .i64 0, .int .u32 0, .int .i64 0, .int .u32 0, .int .i64 0, .int .i64 0, .int .u16 0, .int .u16 0, .int .u16 0, .int .u16 0, .int .i64 0]] : Array Value).toList 8) = some ((DataW.whole enc Tryd.prog ((Hand.laidWorld Rows.scriptCallsRow.laid os).forCall (fun _ _ => 0) ⟨#[], #[.agg #[.int .i64 0, .slice none 0 0, .int .i64 0, .int .i64 0, .int .i64 0, .int .u32 0, .int .i64 0, .int .u32 0, .int .i64 0, .int .i64 0, .int .u16 0, .int .u16 0, .int .u16 0, .int .u16 0, .int .i64 0]], []⟩).memory Tryd.f17.params.toList Rows.scriptCallsSpec.vars false (#[.agg #[.int .i64 0, .slice none 0 0, .int .i64 0, .int .i64 0, .int .i64 0, .int .u32 0, .int .i64 0, .int .u32 0, .int .i64 0, .int .i64 0, .int .u16 0, .int .u16 0, .int .u16 0, .int .u16 0, .int .i64 0]] : Array Value).toList 8).getD ([], [], [])) := by kernel_rfl
set_option maxRecDepth 100000 in
theorem lifted (os : Os) (started : os.Started) (H : Type) (enc : TypeId × Value → H) (F : Stop.Interp) :
    ReturnsInHanded {} Tryd.checked os 17 .any ((OpenSpec.ofChange Rows.scriptCallsSpec).preRow enc Tryd.prog Tryd.f17 Rows.scriptCallsRow.domain false Rows.scriptCallsRow.laid) (((OpenSpec.ofChange Rows.scriptCallsSpec).at F).post enc Tryd.prog Tryd.f17 false true false false) := by
  refine returnsInHanded_of_row (C := Tryd.checked) (s := OpenSpec.ofChange Rows.scriptCallsSpec) own started (by kernel_rfl) Tryd.func17
    (witness_row_at (enc := enc) (C := Tryd.checked) false (Hand.laidWorld Rows.scriptCallsRow.laid os) #[.agg #[.int .i64 0, .slice none 0 0, .int .i64 0, .int .i64 0, .int .i64 0, .int .u32 0, .int .i64 0, .int .u32 0, .int .i64 0, .int .i64 0, .int .u16 0, .int .u16 0, .int .u16 0, .int .u16 0, .int .i64 0]] rfl (by kernel_rfl) (by kernel_rfl) (by kernel_rfl)
      (OpenSpec.preRow_of_cond 8 (reads os enc) (by kernel_rfl) (fun k hk => by cases hk) (by kernel_rfl) (laid_met os))) ?_
  intro W base args ds gs before hval hW _ _ hsz hL hsh _
  exact contract H enc W base args ds gs before hval hW hsz hL hsh
theorem closed : joinedFacts Tryd.prog 17 Tryd.f17 Rows.scriptCallsSpec Rows.scriptCallsRow = true := by
  unfold joinedFacts
  rw [Head.may, Head.final, Head.make]
  kernel_rfl
theorem said : Rows.ScriptCallsSaid :=
  OpenClaim.holds_of_cond 17 Tryd.f17 rfl rfl rfl rfl rfl rfl rfl ⟨rfl, rfl, rfl, rfl, rfl⟩ rfl rfl rfl rfl rfl (by kernel_rfl) Tryd.func17 closed
    (of_decide_eq_true (by kernel_rfl)) (by unfold Func.isWrapper; first | (rw [if_pos (by decide +kernel)]; kernel_rfl) | (rw [if_neg (by decide +kernel)]; exact ⟨rfl, rfl⟩))
    (fun os started H enc _ F => by rw [OpenClaim.pre_eq_preRow]; exact lifted os started H enc F)
theorem plain (f : FuncId) (fn : Func) (hf : Tryd.pinned.checked.prog.funcNamed "crossbuck/crossbucklaw25.ScriptCalls" = some f) (hfn : Tryd.pinned.checked.prog.funcs[f]? = some fn) :
    true = Tryd.pinned.checked.prog.looks [] ∧ ∀ (j : Nat) t, fn.params[j]? = some t → Tryd.pinned.checked.prog.wantsStandIn t = false := by
  obtain rfl : f = 17 := Option.some.inj ((show Tryd.prog.funcNamed "crossbuck/crossbucklaw25.ScriptCalls" = some 17 by kernel_rfl).symm.trans hf) |>.symm
  obtain rfl : fn = Tryd.f17 := (Option.some.inj (Tryd.func17.symm.trans hfn)).symm
  refine ⟨by kernel_rfl, fun j t ht => ?_⟩
  rw [Tryd.params17] at ht
  obtain rfl : t = 115 := by simpa using Array.mem_of_getElem? ht
  exact (show Tryd.prog.wantsStandIn 115 = false by kernel_rfl)
theorem card : Rows.ScriptCallsCardSaid :=
  Claim7.holds_tied_plain_at .later [] _ _ _ _ said (fun _ h => by cases h) (by kernel_rfl) (fun _ h => by cases h) scriptCalls_row_tie rfl ⟨rfl, rfl⟩ Head.main rfl plain (by kernel_rfl)
#print axioms card
end Go.Proofs.YtloclimoffhbhaaDoor.scriptCalls
namespace Go.Proofs.YtloclimoffhbhaaDoor
/-- The card, under a short name, for the claim. -/
theorem scriptCalls_holds : Rows.ScriptCallsCardSaid := scriptCalls.card
end Go.Proofs.YtloclimoffhbhaaDoor
