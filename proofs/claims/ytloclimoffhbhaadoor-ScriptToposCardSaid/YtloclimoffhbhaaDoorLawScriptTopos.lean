/- The law ScriptTopos: its row, out of its walk and the plain statement Pure.ScriptTopos. No condition of its own. -/
import Derived.Test.YtloclimoffhbhaaDoorRows
import Derived.Test.YtloclimoffhbhaaDoorRead
import Derived.Test.YtloclimoffhbhaaDoorPStox202
import Derived.Test.YtloclimoffhbhaaDoorPureScriptTopos
import Derived.Test.YtloclimoffhbhaaDoorCards
import Derived.Test.YtloclimoffhbhaaDoorTie
import Derived.Test.YtloclimoffhbhaaDoorCard
import Derived.Test.YtloclimoffhbhaaDoorHead
import Derived.WalkKit
import Derived.ProofKit
import Derived.OpenShut
import Derived.ShutString
import Derived.ChangeOld
import Derived.Below
import Derived.SizedLaws
import Derived.Lib.SmallJoins
import Derived.Deep.DeepHandedRow
import Derived.Lib.LaidTab
namespace Go.Proofs.YtloclimoffhbhaaDoor.scriptTopos
open Go.ChangeShapes Go.WideShapes Go.ChangeAt Go.RowKit Go.Proofs.YtloclimoffhbhaaDoor.PSto Go.Proofs.YtloclimoffhbhaaDoorW.PrintWords
open Go.ChangeMaps (open_string shut_string)
set_option linter.unusedVariables false
set_option maxRecDepth 100000
theorem own : ownKnob Tryd.prog.godebug = none := by kernel_rfl
theorem laidOut : laidOutB Tryd.prog = true := by kernel_rfl
theorem el_3 {H : Type} {enc : TypeId × Value → H} {w : World} {base : Nat} {spare : Nat → Bool} {held : Bool} (n : Nat) (cs : List Value) (x : DataW H × List MemPlace) (h : DataW.trod enc Tryd.prog w base spare held n 3 cs = some x) :
    ∃ p : Int, (Kd.int .i64).K w p cs ∧ ((Lit.int .i64 p).wf = true) := by
  obtain ⟨a, e, _, wa⟩ := DataW.trod_int Tryd.underlying3 h
  exact ⟨a, e, wa⟩
theorem rd_22 {H : Type} {enc : TypeId × Value → H} {w : World} {base : Nat} {spare : Nat → Bool} {held : Bool} {fuel n c : Nat} {A : Option Addr} {x : DataW H × List MemPlace} (h : DataW.trod enc Tryd.prog w base spare held fuel 22 [.slice A n c] = some x) :
    ∃ l : List Int, l.length = n ∧ n ≤ c ∧ Kd.C (Kd.int .i64) w A n l ∧ ∀ p ∈ l, (Lit.int .i64 p).wf = true := by
  exact Read.reads_slice (Kd.int .i64) (fun p => (Lit.int .i64 p).wf = true) Tryd.underlying22 (by kernel_rfl) el_3 h
theorem cells_133 {H : Type} {enc : TypeId × Value → H} {w : World} {base : Nat} {spare : Nat → Bool} {held : Bool} {fuel : Nat} {cs : List Value} {x : DataW H × List MemPlace} (h : DataW.trod enc Tryd.prog w base spare held fuel 133 cs = some x) :
    ∃ (a_0 : Int) (a_1 : Int) (a_2 : Int) (a_3 : Int), cs = [.int .i64 a_0, .int .i64 a_1, .int .i64 a_2, .int .i64 a_3] ∧ (Lit.int .i64 a_0).wf = true ∧ (Lit.int .i64 a_1).wf = true ∧ (Lit.int .i64 a_2).wf = true ∧ (Lit.int .i64 a_3).wf = true := by
  obtain ⟨ys, m, _, _, hlen, hyl, hf⟩ := DataW.trod_struct Tryd.underlying133 h
  have hlen2 : cs.length = 4 := hlen.trans (by kernel_rfl)
  match ys, hyl with
  | [y0, y1, y2, y3], _ =>
    have g0 : DataW.trod enc Tryd.prog w base spare held m 3 ((cs.drop 0).take 1) = some y0 := hf 0 _ rfl
    obtain ⟨a_0, e0, _, wa_0⟩ := DataW.trod_int Tryd.underlying3 g0
    have g1 : DataW.trod enc Tryd.prog w base spare held m 3 ((cs.drop 1).take 1) = some y1 := hf 1 _ rfl
    obtain ⟨a_1, e1, _, wa_1⟩ := DataW.trod_int Tryd.underlying3 g1
    have g2 : DataW.trod enc Tryd.prog w base spare held m 3 ((cs.drop 2).take 1) = some y2 := hf 2 _ rfl
    obtain ⟨a_2, e2, _, wa_2⟩ := DataW.trod_int Tryd.underlying3 g2
    have g3 : DataW.trod enc Tryd.prog w base spare held m 3 ((cs.drop 3).take 1) = some y3 := hf 3 _ rfl
    obtain ⟨a_3, e3, _, wa_3⟩ := DataW.trod_int Tryd.underlying3 g3
    match cs, hlen2 with
    | [z0, z1, z2, z3], _ =>
      simp at e0
      simp at e1
      simp at e2
      simp at e3
      obtain rfl := e0
      obtain rfl := e1
      obtain rfl := e2
      obtain rfl := e3
      exact ⟨a_0, a_1, a_2, a_3, rfl, wa_0, wa_1, wa_2, wa_3⟩
theorem el_133 {H : Type} {enc : TypeId × Value → H} {w : World} {base : Nat} {spare : Nat → Bool} {held : Bool} (n : Nat) (cs : List Value) (x : DataW H × List MemPlace) (h : DataW.trod enc Tryd.prog w base spare held n 133 cs = some x) :
    ∃ p : S133, k133.K w p cs ∧ ((Lit.int .i64 p.f0).wf = true ∧ (Lit.int .i64 p.f1).wf = true ∧ (Lit.int .i64 p.f2).wf = true ∧ (Lit.int .i64 p.f3).wf = true) := by
  obtain ⟨a_0, a_1, a_2, a_3, rfl, wa_0, wa_1, wa_2, wa_3⟩ := cells_133 h
  exact ⟨⟨a_0, a_1, a_2, a_3⟩, k133_mk w _, wa_0, wa_1, wa_2, wa_3⟩
theorem rd_23 {H : Type} {enc : TypeId × Value → H} {w : World} {base : Nat} {spare : Nat → Bool} {held : Bool} {fuel n c : Nat} {A : Option Addr} {x : DataW H × List MemPlace} (h : DataW.trod enc Tryd.prog w base spare held fuel 23 [.slice A n c] = some x) :
    ∃ l : List (S133), l.length = n ∧ n ≤ c ∧ Kd.C k133 w A n l ∧ ∀ p ∈ l, (Lit.int .i64 p.f0).wf = true ∧ (Lit.int .i64 p.f1).wf = true ∧ (Lit.int .i64 p.f2).wf = true ∧ (Lit.int .i64 p.f3).wf = true := by
  haveI : Inhabited S133 := ⟨z133⟩
  exact Read.reads_slice k133 (fun p => (Lit.int .i64 p.f0).wf = true ∧ (Lit.int .i64 p.f1).wf = true ∧ (Lit.int .i64 p.f2).wf = true ∧ (Lit.int .i64 p.f3).wf = true) Tryd.underlying23 (by kernel_rfl) el_133 h
theorem cells_42 {H : Type} {enc : TypeId × Value → H} {w : World} {base : Nat} {spare : Nat → Bool} {held : Bool} {fuel : Nat} {cs : List Value} {x : DataW H × List MemPlace} (h : DataW.trod enc Tryd.prog w base spare held fuel 42 cs = some x) :
    ∃ (a_0 : Int) (a_1 : Int), cs = [.int .u32 a_0, .int .i64 a_1] ∧ (Lit.int .u32 a_0).wf = true ∧ (Lit.int .i64 a_1).wf = true := by
  obtain ⟨ys, m, _, _, hlen, hyl, hf⟩ := DataW.trod_struct Tryd.underlying42 h
  have hlen2 : cs.length = 2 := hlen.trans (by kernel_rfl)
  match ys, hyl with
  | [y0, y1], _ =>
    have g0 : DataW.trod enc Tryd.prog w base spare held m 40 ((cs.drop 0).take 1) = some y0 := hf 0 _ rfl
    obtain ⟨a_0, e0, _, wa_0⟩ := DataW.trod_int Tryd.underlying40 g0
    have g1 : DataW.trod enc Tryd.prog w base spare held m 3 ((cs.drop 1).take 1) = some y1 := hf 1 _ rfl
    obtain ⟨a_1, e1, _, wa_1⟩ := DataW.trod_int Tryd.underlying3 g1
    match cs, hlen2 with
    | [z0, z1], _ =>
      simp at e0
      simp at e1
      obtain rfl := e0
      obtain rfl := e1
      exact ⟨a_0, a_1, rfl, wa_0, wa_1⟩
theorem cells_61 {H : Type} {enc : TypeId × Value → H} {w : World} {base : Nat} {spare : Nat → Bool} {held : Bool} {fuel : Nat} {cs : List Value} {x : DataW H × List MemPlace} (h : DataW.trod enc Tryd.prog w base spare held fuel 61 cs = some x) :
    ∃ (a_0 : Int) (a_1 : Int), cs = [.int .u16 a_0, .int .u16 a_1] ∧ (Lit.int .u16 a_0).wf = true ∧ (Lit.int .u16 a_1).wf = true := by
  obtain ⟨ys, m, _, _, hlen, hyl, hf⟩ := DataW.trod_struct Tryd.underlying61 h
  have hlen2 : cs.length = 2 := hlen.trans (by kernel_rfl)
  match ys, hyl with
  | [y0, y1], _ =>
    have g0 : DataW.trod enc Tryd.prog w base spare held m 51 ((cs.drop 0).take 1) = some y0 := hf 0 _ rfl
    obtain ⟨a_0, e0, _, wa_0⟩ := DataW.trod_int Tryd.underlying51 g0
    have g1 : DataW.trod enc Tryd.prog w base spare held m 51 ((cs.drop 1).take 1) = some y1 := hf 1 _ rfl
    obtain ⟨a_1, e1, _, wa_1⟩ := DataW.trod_int Tryd.underlying51 g1
    match cs, hlen2 with
    | [z0, z1], _ =>
      simp at e0
      simp at e1
      obtain rfl := e0
      obtain rfl := e1
      exact ⟨a_0, a_1, rfl, wa_0, wa_1⟩
theorem cells_77 {H : Type} {enc : TypeId × Value → H} {w : World} {base : Nat} {spare : Nat → Bool} {held : Bool} {fuel : Nat} {cs : List Value} {x : DataW H × List MemPlace} (h : DataW.trod enc Tryd.prog w base spare held fuel 77 cs = some x) :
    ∃ (a_0_0 : Int) (a_0_1 : Int) (a_1_0 : Int) (a_1_1 : Int) (a_2 : Int) (a_3_0 : Int) (a_3_1 : Int) (a_4_0 : Int) (a_4_1 : Int), cs = [.int .u32 a_0_0, .int .i64 a_0_1, .int .u32 a_1_0, .int .i64 a_1_1, .int .i64 a_2, .int .u16 a_3_0, .int .u16 a_3_1, .int .u16 a_4_0, .int .u16 a_4_1] ∧ (Lit.int .u32 a_0_0).wf = true ∧ (Lit.int .i64 a_0_1).wf = true ∧ (Lit.int .u32 a_1_0).wf = true ∧ (Lit.int .i64 a_1_1).wf = true ∧ (Lit.int .i64 a_2).wf = true ∧ (Lit.int .u16 a_3_0).wf = true ∧ (Lit.int .u16 a_3_1).wf = true ∧ (Lit.int .u16 a_4_0).wf = true ∧ (Lit.int .u16 a_4_1).wf = true := by
  obtain ⟨ys, m, _, _, hlen, hyl, hf⟩ := DataW.trod_struct Tryd.underlying77 h
  have hlen2 : cs.length = 9 := hlen.trans (by kernel_rfl)
  match ys, hyl with
  | [y0, y1, y2, y3, y4], _ =>
    have g0 : DataW.trod enc Tryd.prog w base spare held m 42 ((cs.drop 0).take 2) = some y0 := hf 0 _ rfl
    obtain ⟨a_0_0, a_0_1, e0, wa_0_0, wa_0_1⟩ := cells_42 g0
    have g1 : DataW.trod enc Tryd.prog w base spare held m 42 ((cs.drop 2).take 2) = some y1 := hf 1 _ rfl
    obtain ⟨a_1_0, a_1_1, e1, wa_1_0, wa_1_1⟩ := cells_42 g1
    have g2 : DataW.trod enc Tryd.prog w base spare held m 3 ((cs.drop 4).take 1) = some y2 := hf 2 _ rfl
    obtain ⟨a_2, e2, _, wa_2⟩ := DataW.trod_int Tryd.underlying3 g2
    have g3 : DataW.trod enc Tryd.prog w base spare held m 61 ((cs.drop 5).take 2) = some y3 := hf 3 _ rfl
    obtain ⟨a_3_0, a_3_1, e3, wa_3_0, wa_3_1⟩ := cells_61 g3
    have g4 : DataW.trod enc Tryd.prog w base spare held m 61 ((cs.drop 7).take 2) = some y4 := hf 4 _ rfl
    obtain ⟨a_4_0, a_4_1, e4, wa_4_0, wa_4_1⟩ := cells_61 g4
    match cs, hlen2 with
    | [z0, z1, z2, z3, z4, z5, z6, z7, z8], _ =>
      simp at e0
      simp at e1
      simp at e2
      simp at e3
      simp at e4
      obtain ⟨rfl, rfl⟩ := e0
      obtain ⟨rfl, rfl⟩ := e1
      obtain rfl := e2
      obtain ⟨rfl, rfl⟩ := e3
      obtain ⟨rfl, rfl⟩ := e4
      exact ⟨a_0_0, a_0_1, a_1_0, a_1_1, a_2, a_3_0, a_3_1, a_4_0, a_4_1, rfl, wa_0_0, wa_0_1, wa_1_0, wa_1_1, wa_2, wa_3_0, wa_3_1, wa_4_0, wa_4_1⟩
theorem cells_130 {H : Type} {enc : TypeId × Value → H} {w : World} {base : Nat} {spare : Nat → Bool} {held : Bool} {fuel : Nat} {cs : List Value} {x : DataW H × List MemPlace} (h : DataW.trod enc Tryd.prog w base spare held fuel 130 cs = some x) :
    ∃ (a_0 : Int) (a_1 : Int) (a_2 : Bool) (a_3 : Bool) (a_4_0_0 : Int) (a_4_0_1 : Int) (a_4_1_0 : Int) (a_4_1_1 : Int) (a_4_2 : Int) (a_4_3_0 : Int) (a_4_3_1 : Int) (a_4_4_0 : Int) (a_4_4_1 : Int), cs = [.int .i64 a_0, .int .i64 a_1, .bool a_2, .bool a_3, .int .u32 a_4_0_0, .int .i64 a_4_0_1, .int .u32 a_4_1_0, .int .i64 a_4_1_1, .int .i64 a_4_2, .int .u16 a_4_3_0, .int .u16 a_4_3_1, .int .u16 a_4_4_0, .int .u16 a_4_4_1] ∧ (Lit.int .i64 a_0).wf = true ∧ (Lit.int .i64 a_1).wf = true ∧ (Lit.int .u32 a_4_0_0).wf = true ∧ (Lit.int .i64 a_4_0_1).wf = true ∧ (Lit.int .u32 a_4_1_0).wf = true ∧ (Lit.int .i64 a_4_1_1).wf = true ∧ (Lit.int .i64 a_4_2).wf = true ∧ (Lit.int .u16 a_4_3_0).wf = true ∧ (Lit.int .u16 a_4_3_1).wf = true ∧ (Lit.int .u16 a_4_4_0).wf = true ∧ (Lit.int .u16 a_4_4_1).wf = true := by
  obtain ⟨ys, m, _, _, hlen, hyl, hf⟩ := DataW.trod_struct Tryd.underlying130 h
  have hlen2 : cs.length = 13 := hlen.trans (by kernel_rfl)
  match ys, hyl with
  | [y0, y1, y2, y3, y4], _ =>
    have g0 : DataW.trod enc Tryd.prog w base spare held m 3 ((cs.drop 0).take 1) = some y0 := hf 0 _ rfl
    obtain ⟨a_0, e0, _, wa_0⟩ := DataW.trod_int Tryd.underlying3 g0
    have g1 : DataW.trod enc Tryd.prog w base spare held m 3 ((cs.drop 1).take 1) = some y1 := hf 1 _ rfl
    obtain ⟨a_1, e1, _, wa_1⟩ := DataW.trod_int Tryd.underlying3 g1
    have g2 : DataW.trod enc Tryd.prog w base spare held m 4 ((cs.drop 2).take 1) = some y2 := hf 2 _ rfl
    obtain ⟨a_2, e2, _⟩ := DataW.trod_bool Tryd.underlying4 g2
    have g3 : DataW.trod enc Tryd.prog w base spare held m 4 ((cs.drop 3).take 1) = some y3 := hf 3 _ rfl
    obtain ⟨a_3, e3, _⟩ := DataW.trod_bool Tryd.underlying4 g3
    have g4 : DataW.trod enc Tryd.prog w base spare held m 77 ((cs.drop 4).take 9) = some y4 := hf 4 _ rfl
    obtain ⟨a_4_0_0, a_4_0_1, a_4_1_0, a_4_1_1, a_4_2, a_4_3_0, a_4_3_1, a_4_4_0, a_4_4_1, e4, wa_4_0_0, wa_4_0_1, wa_4_1_0, wa_4_1_1, wa_4_2, wa_4_3_0, wa_4_3_1, wa_4_4_0, wa_4_4_1⟩ := cells_77 g4
    match cs, hlen2 with
    | [z0, z1, z2, z3, z4, z5, z6, z7, z8, z9, z10, z11, z12], _ =>
      simp at e0
      simp at e1
      simp at e2
      simp at e3
      simp at e4
      obtain rfl := e0
      obtain rfl := e1
      obtain rfl := e2
      obtain rfl := e3
      obtain ⟨rfl, rfl, rfl, rfl, rfl, rfl, rfl, rfl, rfl⟩ := e4
      exact ⟨a_0, a_1, a_2, a_3, a_4_0_0, a_4_0_1, a_4_1_0, a_4_1_1, a_4_2, a_4_3_0, a_4_3_1, a_4_4_0, a_4_4_1, rfl, wa_0, wa_1, wa_4_0_0, wa_4_0_1, wa_4_1_0, wa_4_1_1, wa_4_2, wa_4_3_0, wa_4_3_1, wa_4_4_0, wa_4_4_1⟩
theorem el_130 {H : Type} {enc : TypeId × Value → H} {w : World} {base : Nat} {spare : Nat → Bool} {held : Bool} (n : Nat) (cs : List Value) (x : DataW H × List MemPlace) (h : DataW.trod enc Tryd.prog w base spare held n 130 cs = some x) :
    ∃ p : S130, k130.K w p cs ∧ ((Lit.int .i64 p.f0).wf = true ∧ (Lit.int .i64 p.f1).wf = true ∧ (Lit.int .u32 p.f4.f0.f0).wf = true ∧ (Lit.int .i64 p.f4.f0.f1).wf = true ∧ (Lit.int .u32 p.f4.f1.f0).wf = true ∧ (Lit.int .i64 p.f4.f1.f1).wf = true ∧ (Lit.int .i64 p.f4.f2).wf = true ∧ (Lit.int .u16 p.f4.f3.f0).wf = true ∧ (Lit.int .u16 p.f4.f3.f1).wf = true ∧ (Lit.int .u16 p.f4.f4.f0).wf = true ∧ (Lit.int .u16 p.f4.f4.f1).wf = true) := by
  obtain ⟨a_0, a_1, a_2, a_3, a_4_0_0, a_4_0_1, a_4_1_0, a_4_1_1, a_4_2, a_4_3_0, a_4_3_1, a_4_4_0, a_4_4_1, rfl, wa_0, wa_1, wa_4_0_0, wa_4_0_1, wa_4_1_0, wa_4_1_1, wa_4_2, wa_4_3_0, wa_4_3_1, wa_4_4_0, wa_4_4_1⟩ := cells_130 h
  exact ⟨⟨a_0, a_1, a_2, a_3, ⟨⟨a_4_0_0, a_4_0_1⟩, ⟨a_4_1_0, a_4_1_1⟩, a_4_2, ⟨a_4_3_0, a_4_3_1⟩, ⟨a_4_4_0, a_4_4_1⟩⟩⟩, k130_mk w _, wa_0, wa_1, wa_4_0_0, wa_4_0_1, wa_4_1_0, wa_4_1_1, wa_4_2, wa_4_3_0, wa_4_3_1, wa_4_4_0, wa_4_4_1⟩
theorem rd_24 {H : Type} {enc : TypeId × Value → H} {w : World} {base : Nat} {spare : Nat → Bool} {held : Bool} {fuel n c : Nat} {A : Option Addr} {x : DataW H × List MemPlace} (h : DataW.trod enc Tryd.prog w base spare held fuel 24 [.slice A n c] = some x) :
    ∃ l : List (S130), l.length = n ∧ n ≤ c ∧ Kd.C k130 w A n l ∧ ∀ p ∈ l, (Lit.int .i64 p.f0).wf = true ∧ (Lit.int .i64 p.f1).wf = true ∧ (Lit.int .u32 p.f4.f0.f0).wf = true ∧ (Lit.int .i64 p.f4.f0.f1).wf = true ∧ (Lit.int .u32 p.f4.f1.f0).wf = true ∧ (Lit.int .i64 p.f4.f1.f1).wf = true ∧ (Lit.int .i64 p.f4.f2).wf = true ∧ (Lit.int .u16 p.f4.f3.f0).wf = true ∧ (Lit.int .u16 p.f4.f3.f1).wf = true ∧ (Lit.int .u16 p.f4.f4.f0).wf = true ∧ (Lit.int .u16 p.f4.f4.f1).wf = true := by
  haveI : Inhabited S130 := ⟨z130⟩
  exact Read.reads_slice k130 (fun p => (Lit.int .i64 p.f0).wf = true ∧ (Lit.int .i64 p.f1).wf = true ∧ (Lit.int .u32 p.f4.f0.f0).wf = true ∧ (Lit.int .i64 p.f4.f0.f1).wf = true ∧ (Lit.int .u32 p.f4.f1.f0).wf = true ∧ (Lit.int .i64 p.f4.f1.f1).wf = true ∧ (Lit.int .i64 p.f4.f2).wf = true ∧ (Lit.int .u16 p.f4.f3.f0).wf = true ∧ (Lit.int .u16 p.f4.f3.f1).wf = true ∧ (Lit.int .u16 p.f4.f4.f0).wf = true ∧ (Lit.int .u16 p.f4.f4.f1).wf = true) Tryd.underlying24 (by kernel_rfl) el_130 h
theorem cells_26 {H : Type} {enc : TypeId × Value → H} {w : World} {base : Nat} {spare : Nat → Bool} {held : Bool} {fuel : Nat} {cs : List Value} {x : DataW H × List MemPlace} (h : DataW.trod enc Tryd.prog w base spare held fuel 26 cs = some x) :
    ∃ (Aa_0 : Option Addr) (na_0 ca_0 : Nat) (la_0 : List Int) (Aa_1 : Option Addr) (na_1 ca_1 : Nat) (la_1 : List (S133)) (Aa_2 : Option Addr) (na_2 ca_2 : Nat) (la_2 : List (S130)), cs = [.slice Aa_0 na_0 ca_0, .slice Aa_1 na_1 ca_1, .slice Aa_2 na_2 ca_2] ∧ (la_0.length = na_0 ∧ na_0 ≤ ca_0 ∧ Kd.C (Kd.int .i64) w Aa_0 na_0 la_0 ∧ ∀ p ∈ la_0, (Lit.int .i64 p).wf = true) ∧ (la_1.length = na_1 ∧ na_1 ≤ ca_1 ∧ Kd.C k133 w Aa_1 na_1 la_1 ∧ ∀ p ∈ la_1, (Lit.int .i64 p.f0).wf = true ∧ (Lit.int .i64 p.f1).wf = true ∧ (Lit.int .i64 p.f2).wf = true ∧ (Lit.int .i64 p.f3).wf = true) ∧ (la_2.length = na_2 ∧ na_2 ≤ ca_2 ∧ Kd.C k130 w Aa_2 na_2 la_2 ∧ ∀ p ∈ la_2, (Lit.int .i64 p.f0).wf = true ∧ (Lit.int .i64 p.f1).wf = true ∧ (Lit.int .u32 p.f4.f0.f0).wf = true ∧ (Lit.int .i64 p.f4.f0.f1).wf = true ∧ (Lit.int .u32 p.f4.f1.f0).wf = true ∧ (Lit.int .i64 p.f4.f1.f1).wf = true ∧ (Lit.int .i64 p.f4.f2).wf = true ∧ (Lit.int .u16 p.f4.f3.f0).wf = true ∧ (Lit.int .u16 p.f4.f3.f1).wf = true ∧ (Lit.int .u16 p.f4.f4.f0).wf = true ∧ (Lit.int .u16 p.f4.f4.f1).wf = true) := by
  obtain ⟨ys, m, _, _, hlen, hyl, hf⟩ := DataW.trod_struct Tryd.underlying26 h
  have hlen2 : cs.length = 3 := hlen.trans (by kernel_rfl)
  match ys, hyl with
  | [y0, y1, y2], _ =>
    have g0 : DataW.trod enc Tryd.prog w base spare held m 22 ((cs.drop 0).take 1) = some y0 := hf 0 _ rfl
    obtain ⟨Aa_0, na_0, ca_0, e0⟩ := Go.Joins.slice_form Tryd.underlying22 g0
    rw [e0] at g0
    have wa_0 := rd_22 g0
    obtain ⟨la_0, wa_0⟩ := wa_0
    have g1 : DataW.trod enc Tryd.prog w base spare held m 23 ((cs.drop 1).take 1) = some y1 := hf 1 _ rfl
    obtain ⟨Aa_1, na_1, ca_1, e1⟩ := Go.Joins.slice_form Tryd.underlying23 g1
    rw [e1] at g1
    have wa_1 := rd_23 g1
    obtain ⟨la_1, wa_1⟩ := wa_1
    have g2 : DataW.trod enc Tryd.prog w base spare held m 24 ((cs.drop 2).take 1) = some y2 := hf 2 _ rfl
    obtain ⟨Aa_2, na_2, ca_2, e2⟩ := Go.Joins.slice_form Tryd.underlying24 g2
    rw [e2] at g2
    have wa_2 := rd_24 g2
    obtain ⟨la_2, wa_2⟩ := wa_2
    match cs, hlen2 with
    | [z0, z1, z2], _ =>
      simp at e0
      simp at e1
      simp at e2
      obtain rfl := e0
      obtain rfl := e1
      obtain rfl := e2
      exact ⟨Aa_0, na_0, ca_0, la_0, Aa_1, na_1, ca_1, la_1, Aa_2, na_2, ca_2, la_2, rfl, wa_0, wa_1, wa_2⟩
theorem contract (H : Type) (enc : TypeId × Value → H) (W : World) (base : Nat) (args : Array Value) (ds gs : List (DataW H)) (before : List MemPlace)
    (hval : ∀ (j : Nat) t v, Tryd.f3.params[j]? = some t → args[j]? = some v → Value.okWide Tryd.prog W .any base t v)
    (hW : DataW.Whole enc Tryd.prog Tryd.f3.params.toList Rows.scriptToposSpec.vars false W args.toList ds gs before) (hsz : (DataW.weightsEach Tryd.prog (Tryd.f3.params.toList ++ Rows.scriptToposSpec.plain.varTypes Tryd.prog) (ds ++ gs)).all (· ≤ reachBytes) = true)
    (hL : laidMetH Tryd.prog Rows.scriptToposRow.laid W) (hsh : W.ShapedOpen Tryd.prog) :
    Calls Tryd.prog 3 args W fun e W' => ∃ v, e = .returned v ∧ Rows.scriptToposSpec.post enc Tryd.prog Tryd.f3 false true false false W args v W' := by
  have hW' := hW
  obtain ⟨p, q, hA0, hV, rfl, hfz, hnd⟩ := hW
  have hA : DataW.TrodAll enc Tryd.prog W 0 (fun _ => true) true Tryd.f3.params.toList args.toList ds p := hA0
  rw [Tryd.params3] at hA hval hsz
  obtain ⟨v0, vs0, d0, ds0, p0, q0, hargs, rfl, rfl, h0, r0⟩ := trodAll_cons hA
  obtain ⟨v1, vs1, d1, ds1, p1, q1, rfl, rfl, rfl, h1, r1⟩ := trodAll_cons r0
  obtain ⟨rfl, rfl, rfl⟩ := trodAll_nil r1
  obtain rfl : args = #[v0, v1] := by cases args; simp_all
  obtain ⟨rfl, rfl⟩ := trodVars_none hV
  have k0 := h0
  have lt0 : ∀ x ∈ p0, x.block < W.heap.size := by obtain ⟨m, hm⟩ := k0; exact DataW.trod_lt m _ _ _ hm
  have k1 := h1
  have lt1 : ∀ x ∈ p1, x.block < W.heap.size := by obtain ⟨m, hm⟩ := k1; exact DataW.trod_lt m _ _ _ hm
  obtain ⟨cs0, rfl, _⟩ := okWide_struct Tryd.underlying26 (hval 0 26 v0 rfl rfl)
  obtain ⟨fuel0, hf0⟩ := h0
  obtain ⟨Aa0_0, na0_0, ca0_0, la0_0, Aa0_1, na0_1, ca0_1, la0_1, Aa0_2, na0_2, ca0_2, la0_2, ce0, wa0_0, wa0_1, wa0_2⟩ := cells_26 hf0
  obtain rfl : cs0 = #[.slice Aa0_0 na0_0 ca0_0, .slice Aa0_1 na0_1 ca0_1, .slice Aa0_2 na0_2 ca0_2] := by cases cs0; simpa [Value.cells] using ce0
  obtain ⟨lna0_0, hca0_0, hra0_0, wa0_0⟩ := wa0_0
  subst lna0_0
  obtain ⟨lna0_1, hca0_1, hra0_1, wa0_1⟩ := wa0_1
  subst lna0_1
  obtain ⟨lna0_2, hca0_2, hra0_2, wa0_2⟩ := wa0_2
  subst lna0_2
  obtain ⟨a1, rfl, _, _, w1⟩ := open_int Tryd.underlying5 (hval 1 5 v1 rfl rfl) h1
  have hk := Pure.ScriptTopos la0_0 la0_1 la0_2 a1 wa0_0 wa0_1 wa0_2 w1
  have hG : Hand.Good true true W := ⟨fun _ => Hand.max_of hsh, fun _ => Hand.pow_of 2 hL rfl⟩
  refine (crossbucklaw25_ScriptTopos.calls _ _ la0_0 _ _ la0_1 _ _ la0_2 a1 true W hra0_0 hca0_0 hra0_1 hca0_1 hra0_2 hca0_2 hG hk).mono fun e W' ⟨he, bel0⟩ => ?_
  have bel : Below W.heap.size W W' := bel0
  subst he
  exact ⟨_, rfl, _, _, _, [], _, [], hW', trodAll_mk1 (shut_bool Tryd.underlying4 _), (trodAll_cons_mk (Below.trod laidOut (by kernel_rfl) (of_decide_eq_true (by kernel_rfl)) k0 bel lt0) (trodAll_cons_mk (Below.trod laidOut (by kernel_rfl) (of_decide_eq_true (by kernel_rfl)) k1 bel lt1) trodAll_mk0)), rfl, bel.frame _, fun h => by cases h⟩
theorem laid_met (os : Os) : laidMet Tryd.prog Rows.scriptToposRow.laid ((Hand.laidWorld Rows.scriptToposRow.laid os).forCall (fun _ _ => 0) ⟨#[], #[.agg #[.slice none 0 0, .slice none 0 0, .slice none 0 0], .int .u8 0], []⟩).memory :=
  laidMet_of_run' 8 (by kernel_rfl) (by kernel_rfl)
theorem reads (os : Os) {H : Type} (enc : TypeId × Value → H) : (DataW.whole enc Tryd.prog ((Hand.laidWorld Rows.scriptToposRow.laid os).forCall (fun _ _ => 0) ⟨#[], #[.agg #[.slice none 0 0, .slice none 0 0, .slice none 0 0], .int .u8 0], []⟩).memory Tryd.f3.params.toList Rows.scriptToposSpec.vars false (#[.agg #[.slice none 0 0, .slice none 0 0, .slice none 0 0], .int .u8 0] : Array Value).toList 8) = some ((DataW.whole enc Tryd.prog ((Hand.laidWorld Rows.scriptToposRow.laid os).forCall (fun _ _ => 0) ⟨#[], #[.agg #[.slice none 0 0, .slice none 0 0, .slice none 0 0], .int .u8 0], []⟩).memory Tryd.f3.params.toList Rows.scriptToposSpec.vars false (#[.agg #[.slice none 0 0, .slice none 0 0, .slice none 0 0], .int .u8 0] : Array Value).toList 8).getD ([], [], [])) := by kernel_rfl
set_option maxRecDepth 100000 in
theorem lifted (os : Os) (started : os.Started) (H : Type) (enc : TypeId × Value → H) (F : Stop.Interp) :
    ReturnsInHanded {} Tryd.checked os 3 .any ((OpenSpec.ofChange Rows.scriptToposSpec).preRow enc Tryd.prog Tryd.f3 Rows.scriptToposRow.domain false Rows.scriptToposRow.laid) (((OpenSpec.ofChange Rows.scriptToposSpec).at F).post enc Tryd.prog Tryd.f3 false true false false) := by
  refine returnsInHanded_of_row (C := Tryd.checked) (s := OpenSpec.ofChange Rows.scriptToposSpec) own started (by kernel_rfl) Tryd.func3
    (witness_row_at (enc := enc) (C := Tryd.checked) false (Hand.laidWorld Rows.scriptToposRow.laid os) #[.agg #[.slice none 0 0, .slice none 0 0, .slice none 0 0], .int .u8 0] rfl (by kernel_rfl) (by kernel_rfl) (by kernel_rfl)
      (OpenSpec.preRow_of_cond 8 (reads os enc) (by kernel_rfl) (fun k hk => by cases hk) (by kernel_rfl) (laid_met os))) ?_
  intro W base args ds gs before hval hW _ _ hsz hL hsh _
  exact contract H enc W base args ds gs before hval hW hsz hL hsh
theorem closed : joinedFacts Tryd.prog 3 Tryd.f3 Rows.scriptToposSpec Rows.scriptToposRow = true := by
  unfold joinedFacts
  rw [Head.may, Head.final, Head.make]
  kernel_rfl
theorem said : Rows.ScriptToposSaid :=
  OpenClaim.holds_of_cond 3 Tryd.f3 rfl rfl rfl rfl rfl rfl rfl ⟨rfl, rfl, rfl, rfl, rfl⟩ rfl rfl rfl rfl rfl (by kernel_rfl) Tryd.func3 closed
    (of_decide_eq_true (by kernel_rfl)) (by unfold Func.isWrapper; first | (rw [if_pos (by decide +kernel)]; kernel_rfl) | (rw [if_neg (by decide +kernel)]; exact ⟨rfl, rfl⟩))
    (fun os started H enc _ F => by rw [OpenClaim.pre_eq_preRow]; exact lifted os started H enc F)
theorem plain (f : FuncId) (fn : Func) (hf : Tryd.pinned.checked.prog.funcNamed "crossbuck/crossbucklaw25.ScriptTopos" = some f) (hfn : Tryd.pinned.checked.prog.funcs[f]? = some fn) :
    true = Tryd.pinned.checked.prog.looks [] ∧ ∀ (j : Nat) t, fn.params[j]? = some t → Tryd.pinned.checked.prog.wantsStandIn t = false := by
  obtain rfl : f = 3 := Option.some.inj ((show Tryd.prog.funcNamed "crossbuck/crossbucklaw25.ScriptTopos" = some 3 by kernel_rfl).symm.trans hf) |>.symm
  obtain rfl : fn = Tryd.f3 := (Option.some.inj (Tryd.func3.symm.trans hfn)).symm
  refine ⟨by kernel_rfl, fun j t ht => ?_⟩
  rw [Tryd.params3] at ht
  have hm : t = 26 ∨ t = 5 := by simpa using Array.mem_of_getElem? ht
  rcases hm with rfl | rfl
  · exact (show Tryd.prog.wantsStandIn 26 = false by kernel_rfl)
  · exact (show Tryd.prog.wantsStandIn 5 = false by kernel_rfl)
theorem card : Rows.ScriptToposCardSaid :=
  Claim7.holds_tied_plain_at .later [] _ _ _ _ said (fun _ h => by cases h) (by kernel_rfl) (fun _ h => by cases h) scriptTopos_row_tie rfl ⟨rfl, rfl⟩ Head.main rfl plain (by kernel_rfl)
#print axioms card
end Go.Proofs.YtloclimoffhbhaaDoor.scriptTopos
namespace Go.Proofs.YtloclimoffhbhaaDoor
/-- The card, under a short name, for the claim. -/
theorem scriptTopos_holds : Rows.ScriptToposCardSaid := scriptTopos.card
end Go.Proofs.YtloclimoffhbhaaDoor
