/- The law TopoFirst: its row, out of its walk and the plain statement Pure.TopoFirst. No condition of its own. -/
import Derived.Test.YtdemogdagemagaaRows
import Derived.Test.YtdemogdagemagaaRead
import Derived.Test.YtdemogdagemagaaPTgx13
import Derived.Test.YtdemogdagemagaaPureTopoFirst
import Derived.WalkKit
import Derived.ProofKit
import Derived.OpenShut
import Derived.ShutString
import Derived.ChangeOld
import Derived.Below
import Derived.SizedLaws
import Derived.Lib.SmallJoins
namespace Go.Proofs.Ytdemogdagemagaa.topoFirst
open Go.ChangeShapes Go.WideShapes Go.ChangeAt Go.RowKit Go.Proofs.Ytdemogdagemagaa.PTg Go.Proofs.YtdemogdagemagaaW.PrintWords
open Go.ChangeMaps (open_string shut_string)
set_option linter.unusedVariables false
set_option maxRecDepth 100000
theorem own : ownKnob Try.prog.godebug = none := by kernel_rfl
theorem laidOut : laidOutB Try.prog = true := by kernel_rfl
theorem el_3 {H : Type} {enc : TypeId × Value → H} {w : World} {base : Nat} {spare : Nat → Bool} {held : Bool} (n : Nat) (cs : List Value) (x : DataW H × List MemPlace) (h : DataW.trod enc Try.prog w base spare held n 3 cs = some x) :
    ∃ p : Int, (Kd.int .i64).K w p cs ∧ ((Lit.int .i64 p).wf = true) := by
  obtain ⟨a, e, _, wa⟩ := DataW.trod_int Try.underlying3 h
  exact ⟨a, e, wa⟩
theorem rd_22 {H : Type} {enc : TypeId × Value → H} {w : World} {base : Nat} {spare : Nat → Bool} {held : Bool} {fuel n c : Nat} {A : Option Addr} {x : DataW H × List MemPlace} (h : DataW.trod enc Try.prog w base spare held fuel 22 [.slice A n c] = some x) :
    ∃ l : List Int, l.length = n ∧ n ≤ c ∧ Kd.C (Kd.int .i64) w A n l ∧ ∀ p ∈ l, (Lit.int .i64 p).wf = true := by
  exact Read.reads_slice (Kd.int .i64) (fun p => (Lit.int .i64 p).wf = true) Try.underlying22 (by kernel_rfl) el_3 h
theorem cells_39 {H : Type} {enc : TypeId × Value → H} {w : World} {base : Nat} {spare : Nat → Bool} {held : Bool} {fuel : Nat} {cs : List Value} {x : DataW H × List MemPlace} (h : DataW.trod enc Try.prog w base spare held fuel 39 cs = some x) :
    ∃ (a_0 : Int) (a_1 : Int) (a_2 : Int) (a_3 : Int), cs = [.int .i64 a_0, .int .i64 a_1, .int .i64 a_2, .int .i64 a_3] ∧ (Lit.int .i64 a_0).wf = true ∧ (Lit.int .i64 a_1).wf = true ∧ (Lit.int .i64 a_2).wf = true ∧ (Lit.int .i64 a_3).wf = true := by
  obtain ⟨ys, m, _, _, hlen, hyl, hf⟩ := DataW.trod_struct Try.underlying39 h
  have hlen2 : cs.length = 4 := hlen.trans (by kernel_rfl)
  match ys, hyl with
  | [y0, y1, y2, y3], _ =>
    have g0 : DataW.trod enc Try.prog w base spare held m 3 ((cs.drop 0).take 1) = some y0 := hf 0 _ rfl
    obtain ⟨a_0, e0, _, wa_0⟩ := DataW.trod_int Try.underlying3 g0
    have g1 : DataW.trod enc Try.prog w base spare held m 3 ((cs.drop 1).take 1) = some y1 := hf 1 _ rfl
    obtain ⟨a_1, e1, _, wa_1⟩ := DataW.trod_int Try.underlying3 g1
    have g2 : DataW.trod enc Try.prog w base spare held m 3 ((cs.drop 2).take 1) = some y2 := hf 2 _ rfl
    obtain ⟨a_2, e2, _, wa_2⟩ := DataW.trod_int Try.underlying3 g2
    have g3 : DataW.trod enc Try.prog w base spare held m 3 ((cs.drop 3).take 1) = some y3 := hf 3 _ rfl
    obtain ⟨a_3, e3, _, wa_3⟩ := DataW.trod_int Try.underlying3 g3
    match cs, hlen2 with
    | [z0, z1, z2, z3], _ =>
      simp at e0
      simp at e1
      simp at e2
      simp at e3
      obtain rfl := e0
      obtain rfl := e1
      obtain rfl := e2
      obtain rfl := e3
      exact ⟨a_0, a_1, a_2, a_3, rfl, wa_0, wa_1, wa_2, wa_3⟩
theorem el_39 {H : Type} {enc : TypeId × Value → H} {w : World} {base : Nat} {spare : Nat → Bool} {held : Bool} (n : Nat) (cs : List Value) (x : DataW H × List MemPlace) (h : DataW.trod enc Try.prog w base spare held n 39 cs = some x) :
    ∃ p : S39, k39.K w p cs ∧ ((Lit.int .i64 p.f0).wf = true ∧ (Lit.int .i64 p.f1).wf = true ∧ (Lit.int .i64 p.f2).wf = true ∧ (Lit.int .i64 p.f3).wf = true) := by
  obtain ⟨a_0, a_1, a_2, a_3, rfl, wa_0, wa_1, wa_2, wa_3⟩ := cells_39 h
  exact ⟨⟨a_0, a_1, a_2, a_3⟩, k39_mk w _, wa_0, wa_1, wa_2, wa_3⟩
theorem rd_23 {H : Type} {enc : TypeId × Value → H} {w : World} {base : Nat} {spare : Nat → Bool} {held : Bool} {fuel n c : Nat} {A : Option Addr} {x : DataW H × List MemPlace} (h : DataW.trod enc Try.prog w base spare held fuel 23 [.slice A n c] = some x) :
    ∃ l : List (S39), l.length = n ∧ n ≤ c ∧ Kd.C k39 w A n l ∧ ∀ p ∈ l, (Lit.int .i64 p.f0).wf = true ∧ (Lit.int .i64 p.f1).wf = true ∧ (Lit.int .i64 p.f2).wf = true ∧ (Lit.int .i64 p.f3).wf = true := by
  haveI : Inhabited S39 := ⟨z39⟩
  exact Read.reads_slice k39 (fun p => (Lit.int .i64 p.f0).wf = true ∧ (Lit.int .i64 p.f1).wf = true ∧ (Lit.int .i64 p.f2).wf = true ∧ (Lit.int .i64 p.f3).wf = true) Try.underlying23 (by kernel_rfl) el_39 h
theorem cells_48 {H : Type} {enc : TypeId × Value → H} {w : World} {base : Nat} {spare : Nat → Bool} {held : Bool} {fuel : Nat} {cs : List Value} {x : DataW H × List MemPlace} (h : DataW.trod enc Try.prog w base spare held fuel 48 cs = some x) :
    ∃ (a_0 : Int) (a_1 : Int), cs = [.int .u32 a_0, .int .i64 a_1] ∧ (Lit.int .u32 a_0).wf = true ∧ (Lit.int .i64 a_1).wf = true := by
  obtain ⟨ys, m, _, _, hlen, hyl, hf⟩ := DataW.trod_struct Try.underlying48 h
  have hlen2 : cs.length = 2 := hlen.trans (by kernel_rfl)
  match ys, hyl with
  | [y0, y1], _ =>
    have g0 : DataW.trod enc Try.prog w base spare held m 40 ((cs.drop 0).take 1) = some y0 := hf 0 _ rfl
    obtain ⟨a_0, e0, _, wa_0⟩ := DataW.trod_int Try.underlying40 g0
    have g1 : DataW.trod enc Try.prog w base spare held m 3 ((cs.drop 1).take 1) = some y1 := hf 1 _ rfl
    obtain ⟨a_1, e1, _, wa_1⟩ := DataW.trod_int Try.underlying3 g1
    match cs, hlen2 with
    | [z0, z1], _ =>
      simp at e0
      simp at e1
      obtain rfl := e0
      obtain rfl := e1
      exact ⟨a_0, a_1, rfl, wa_0, wa_1⟩
theorem cells_46 {H : Type} {enc : TypeId × Value → H} {w : World} {base : Nat} {spare : Nat → Bool} {held : Bool} {fuel : Nat} {cs : List Value} {x : DataW H × List MemPlace} (h : DataW.trod enc Try.prog w base spare held fuel 46 cs = some x) :
    ∃ (a_0 : Int) (a_1 : Int), cs = [.int .u16 a_0, .int .u16 a_1] ∧ (Lit.int .u16 a_0).wf = true ∧ (Lit.int .u16 a_1).wf = true := by
  obtain ⟨ys, m, _, _, hlen, hyl, hf⟩ := DataW.trod_struct Try.underlying46 h
  have hlen2 : cs.length = 2 := hlen.trans (by kernel_rfl)
  match ys, hyl with
  | [y0, y1], _ =>
    have g0 : DataW.trod enc Try.prog w base spare held m 41 ((cs.drop 0).take 1) = some y0 := hf 0 _ rfl
    obtain ⟨a_0, e0, _, wa_0⟩ := DataW.trod_int Try.underlying41 g0
    have g1 : DataW.trod enc Try.prog w base spare held m 41 ((cs.drop 1).take 1) = some y1 := hf 1 _ rfl
    obtain ⟨a_1, e1, _, wa_1⟩ := DataW.trod_int Try.underlying41 g1
    match cs, hlen2 with
    | [z0, z1], _ =>
      simp at e0
      simp at e1
      obtain rfl := e0
      obtain rfl := e1
      exact ⟨a_0, a_1, rfl, wa_0, wa_1⟩
theorem cells_50 {H : Type} {enc : TypeId × Value → H} {w : World} {base : Nat} {spare : Nat → Bool} {held : Bool} {fuel : Nat} {cs : List Value} {x : DataW H × List MemPlace} (h : DataW.trod enc Try.prog w base spare held fuel 50 cs = some x) :
    ∃ (a_0_0 : Int) (a_0_1 : Int) (a_1_0 : Int) (a_1_1 : Int) (a_2 : Int) (a_3_0 : Int) (a_3_1 : Int) (a_4_0 : Int) (a_4_1 : Int), cs = [.int .u32 a_0_0, .int .i64 a_0_1, .int .u32 a_1_0, .int .i64 a_1_1, .int .i64 a_2, .int .u16 a_3_0, .int .u16 a_3_1, .int .u16 a_4_0, .int .u16 a_4_1] ∧ (Lit.int .u32 a_0_0).wf = true ∧ (Lit.int .i64 a_0_1).wf = true ∧ (Lit.int .u32 a_1_0).wf = true ∧ (Lit.int .i64 a_1_1).wf = true ∧ (Lit.int .i64 a_2).wf = true ∧ (Lit.int .u16 a_3_0).wf = true ∧ (Lit.int .u16 a_3_1).wf = true ∧ (Lit.int .u16 a_4_0).wf = true ∧ (Lit.int .u16 a_4_1).wf = true := by
  obtain ⟨ys, m, _, _, hlen, hyl, hf⟩ := DataW.trod_struct Try.underlying50 h
  have hlen2 : cs.length = 9 := hlen.trans (by kernel_rfl)
  match ys, hyl with
  | [y0, y1, y2, y3, y4], _ =>
    have g0 : DataW.trod enc Try.prog w base spare held m 48 ((cs.drop 0).take 2) = some y0 := hf 0 _ rfl
    obtain ⟨a_0_0, a_0_1, e0, wa_0_0, wa_0_1⟩ := cells_48 g0
    have g1 : DataW.trod enc Try.prog w base spare held m 48 ((cs.drop 2).take 2) = some y1 := hf 1 _ rfl
    obtain ⟨a_1_0, a_1_1, e1, wa_1_0, wa_1_1⟩ := cells_48 g1
    have g2 : DataW.trod enc Try.prog w base spare held m 3 ((cs.drop 4).take 1) = some y2 := hf 2 _ rfl
    obtain ⟨a_2, e2, _, wa_2⟩ := DataW.trod_int Try.underlying3 g2
    have g3 : DataW.trod enc Try.prog w base spare held m 46 ((cs.drop 5).take 2) = some y3 := hf 3 _ rfl
    obtain ⟨a_3_0, a_3_1, e3, wa_3_0, wa_3_1⟩ := cells_46 g3
    have g4 : DataW.trod enc Try.prog w base spare held m 46 ((cs.drop 7).take 2) = some y4 := hf 4 _ rfl
    obtain ⟨a_4_0, a_4_1, e4, wa_4_0, wa_4_1⟩ := cells_46 g4
    match cs, hlen2 with
    | [z0, z1, z2, z3, z4, z5, z6, z7, z8], _ =>
      simp at e0
      simp at e1
      simp at e2
      simp at e3
      simp at e4
      obtain ⟨rfl, rfl⟩ := e0
      obtain ⟨rfl, rfl⟩ := e1
      obtain rfl := e2
      obtain ⟨rfl, rfl⟩ := e3
      obtain ⟨rfl, rfl⟩ := e4
      exact ⟨a_0_0, a_0_1, a_1_0, a_1_1, a_2, a_3_0, a_3_1, a_4_0, a_4_1, rfl, wa_0_0, wa_0_1, wa_1_0, wa_1_1, wa_2, wa_3_0, wa_3_1, wa_4_0, wa_4_1⟩
theorem cells_52 {H : Type} {enc : TypeId × Value → H} {w : World} {base : Nat} {spare : Nat → Bool} {held : Bool} {fuel : Nat} {cs : List Value} {x : DataW H × List MemPlace} (h : DataW.trod enc Try.prog w base spare held fuel 52 cs = some x) :
    ∃ (a_0 : Int) (a_1 : Int) (a_2 : Bool) (a_3 : Bool) (a_4_0_0 : Int) (a_4_0_1 : Int) (a_4_1_0 : Int) (a_4_1_1 : Int) (a_4_2 : Int) (a_4_3_0 : Int) (a_4_3_1 : Int) (a_4_4_0 : Int) (a_4_4_1 : Int), cs = [.int .i64 a_0, .int .i64 a_1, .bool a_2, .bool a_3, .int .u32 a_4_0_0, .int .i64 a_4_0_1, .int .u32 a_4_1_0, .int .i64 a_4_1_1, .int .i64 a_4_2, .int .u16 a_4_3_0, .int .u16 a_4_3_1, .int .u16 a_4_4_0, .int .u16 a_4_4_1] ∧ (Lit.int .i64 a_0).wf = true ∧ (Lit.int .i64 a_1).wf = true ∧ (Lit.int .u32 a_4_0_0).wf = true ∧ (Lit.int .i64 a_4_0_1).wf = true ∧ (Lit.int .u32 a_4_1_0).wf = true ∧ (Lit.int .i64 a_4_1_1).wf = true ∧ (Lit.int .i64 a_4_2).wf = true ∧ (Lit.int .u16 a_4_3_0).wf = true ∧ (Lit.int .u16 a_4_3_1).wf = true ∧ (Lit.int .u16 a_4_4_0).wf = true ∧ (Lit.int .u16 a_4_4_1).wf = true := by
  obtain ⟨ys, m, _, _, hlen, hyl, hf⟩ := DataW.trod_struct Try.underlying52 h
  have hlen2 : cs.length = 13 := hlen.trans (by kernel_rfl)
  match ys, hyl with
  | [y0, y1, y2, y3, y4], _ =>
    have g0 : DataW.trod enc Try.prog w base spare held m 3 ((cs.drop 0).take 1) = some y0 := hf 0 _ rfl
    obtain ⟨a_0, e0, _, wa_0⟩ := DataW.trod_int Try.underlying3 g0
    have g1 : DataW.trod enc Try.prog w base spare held m 3 ((cs.drop 1).take 1) = some y1 := hf 1 _ rfl
    obtain ⟨a_1, e1, _, wa_1⟩ := DataW.trod_int Try.underlying3 g1
    have g2 : DataW.trod enc Try.prog w base spare held m 4 ((cs.drop 2).take 1) = some y2 := hf 2 _ rfl
    obtain ⟨a_2, e2, _⟩ := DataW.trod_bool Try.underlying4 g2
    have g3 : DataW.trod enc Try.prog w base spare held m 4 ((cs.drop 3).take 1) = some y3 := hf 3 _ rfl
    obtain ⟨a_3, e3, _⟩ := DataW.trod_bool Try.underlying4 g3
    have g4 : DataW.trod enc Try.prog w base spare held m 50 ((cs.drop 4).take 9) = some y4 := hf 4 _ rfl
    obtain ⟨a_4_0_0, a_4_0_1, a_4_1_0, a_4_1_1, a_4_2, a_4_3_0, a_4_3_1, a_4_4_0, a_4_4_1, e4, wa_4_0_0, wa_4_0_1, wa_4_1_0, wa_4_1_1, wa_4_2, wa_4_3_0, wa_4_3_1, wa_4_4_0, wa_4_4_1⟩ := cells_50 g4
    match cs, hlen2 with
    | [z0, z1, z2, z3, z4, z5, z6, z7, z8, z9, z10, z11, z12], _ =>
      simp at e0
      simp at e1
      simp at e2
      simp at e3
      simp at e4
      obtain rfl := e0
      obtain rfl := e1
      obtain rfl := e2
      obtain rfl := e3
      obtain ⟨rfl, rfl, rfl, rfl, rfl, rfl, rfl, rfl, rfl⟩ := e4
      exact ⟨a_0, a_1, a_2, a_3, a_4_0_0, a_4_0_1, a_4_1_0, a_4_1_1, a_4_2, a_4_3_0, a_4_3_1, a_4_4_0, a_4_4_1, rfl, wa_0, wa_1, wa_4_0_0, wa_4_0_1, wa_4_1_0, wa_4_1_1, wa_4_2, wa_4_3_0, wa_4_3_1, wa_4_4_0, wa_4_4_1⟩
theorem el_52 {H : Type} {enc : TypeId × Value → H} {w : World} {base : Nat} {spare : Nat → Bool} {held : Bool} (n : Nat) (cs : List Value) (x : DataW H × List MemPlace) (h : DataW.trod enc Try.prog w base spare held n 52 cs = some x) :
    ∃ p : S52, k52.K w p cs ∧ ((Lit.int .i64 p.f0).wf = true ∧ (Lit.int .i64 p.f1).wf = true ∧ (Lit.int .u32 p.f4.f0.f0).wf = true ∧ (Lit.int .i64 p.f4.f0.f1).wf = true ∧ (Lit.int .u32 p.f4.f1.f0).wf = true ∧ (Lit.int .i64 p.f4.f1.f1).wf = true ∧ (Lit.int .i64 p.f4.f2).wf = true ∧ (Lit.int .u16 p.f4.f3.f0).wf = true ∧ (Lit.int .u16 p.f4.f3.f1).wf = true ∧ (Lit.int .u16 p.f4.f4.f0).wf = true ∧ (Lit.int .u16 p.f4.f4.f1).wf = true) := by
  obtain ⟨a_0, a_1, a_2, a_3, a_4_0_0, a_4_0_1, a_4_1_0, a_4_1_1, a_4_2, a_4_3_0, a_4_3_1, a_4_4_0, a_4_4_1, rfl, wa_0, wa_1, wa_4_0_0, wa_4_0_1, wa_4_1_0, wa_4_1_1, wa_4_2, wa_4_3_0, wa_4_3_1, wa_4_4_0, wa_4_4_1⟩ := cells_52 h
  exact ⟨⟨a_0, a_1, a_2, a_3, ⟨⟨a_4_0_0, a_4_0_1⟩, ⟨a_4_1_0, a_4_1_1⟩, a_4_2, ⟨a_4_3_0, a_4_3_1⟩, ⟨a_4_4_0, a_4_4_1⟩⟩⟩, k52_mk w _, wa_0, wa_1, wa_4_0_0, wa_4_0_1, wa_4_1_0, wa_4_1_1, wa_4_2, wa_4_3_0, wa_4_3_1, wa_4_4_0, wa_4_4_1⟩
theorem rd_24 {H : Type} {enc : TypeId × Value → H} {w : World} {base : Nat} {spare : Nat → Bool} {held : Bool} {fuel n c : Nat} {A : Option Addr} {x : DataW H × List MemPlace} (h : DataW.trod enc Try.prog w base spare held fuel 24 [.slice A n c] = some x) :
    ∃ l : List (S52), l.length = n ∧ n ≤ c ∧ Kd.C k52 w A n l ∧ ∀ p ∈ l, (Lit.int .i64 p.f0).wf = true ∧ (Lit.int .i64 p.f1).wf = true ∧ (Lit.int .u32 p.f4.f0.f0).wf = true ∧ (Lit.int .i64 p.f4.f0.f1).wf = true ∧ (Lit.int .u32 p.f4.f1.f0).wf = true ∧ (Lit.int .i64 p.f4.f1.f1).wf = true ∧ (Lit.int .i64 p.f4.f2).wf = true ∧ (Lit.int .u16 p.f4.f3.f0).wf = true ∧ (Lit.int .u16 p.f4.f3.f1).wf = true ∧ (Lit.int .u16 p.f4.f4.f0).wf = true ∧ (Lit.int .u16 p.f4.f4.f1).wf = true := by
  haveI : Inhabited S52 := ⟨z52⟩
  exact Read.reads_slice k52 (fun p => (Lit.int .i64 p.f0).wf = true ∧ (Lit.int .i64 p.f1).wf = true ∧ (Lit.int .u32 p.f4.f0.f0).wf = true ∧ (Lit.int .i64 p.f4.f0.f1).wf = true ∧ (Lit.int .u32 p.f4.f1.f0).wf = true ∧ (Lit.int .i64 p.f4.f1.f1).wf = true ∧ (Lit.int .i64 p.f4.f2).wf = true ∧ (Lit.int .u16 p.f4.f3.f0).wf = true ∧ (Lit.int .u16 p.f4.f3.f1).wf = true ∧ (Lit.int .u16 p.f4.f4.f0).wf = true ∧ (Lit.int .u16 p.f4.f4.f1).wf = true) Try.underlying24 (by kernel_rfl) el_52 h
theorem cells_26 {H : Type} {enc : TypeId × Value → H} {w : World} {base : Nat} {spare : Nat → Bool} {held : Bool} {fuel : Nat} {cs : List Value} {x : DataW H × List MemPlace} (h : DataW.trod enc Try.prog w base spare held fuel 26 cs = some x) :
    ∃ (Aa_0 : Option Addr) (na_0 ca_0 : Nat) (la_0 : List Int) (Aa_1 : Option Addr) (na_1 ca_1 : Nat) (la_1 : List (S39)) (Aa_2 : Option Addr) (na_2 ca_2 : Nat) (la_2 : List (S52)), cs = [.slice Aa_0 na_0 ca_0, .slice Aa_1 na_1 ca_1, .slice Aa_2 na_2 ca_2] ∧ (la_0.length = na_0 ∧ na_0 ≤ ca_0 ∧ Kd.C (Kd.int .i64) w Aa_0 na_0 la_0 ∧ ∀ p ∈ la_0, (Lit.int .i64 p).wf = true) ∧ (la_1.length = na_1 ∧ na_1 ≤ ca_1 ∧ Kd.C k39 w Aa_1 na_1 la_1 ∧ ∀ p ∈ la_1, (Lit.int .i64 p.f0).wf = true ∧ (Lit.int .i64 p.f1).wf = true ∧ (Lit.int .i64 p.f2).wf = true ∧ (Lit.int .i64 p.f3).wf = true) ∧ (la_2.length = na_2 ∧ na_2 ≤ ca_2 ∧ Kd.C k52 w Aa_2 na_2 la_2 ∧ ∀ p ∈ la_2, (Lit.int .i64 p.f0).wf = true ∧ (Lit.int .i64 p.f1).wf = true ∧ (Lit.int .u32 p.f4.f0.f0).wf = true ∧ (Lit.int .i64 p.f4.f0.f1).wf = true ∧ (Lit.int .u32 p.f4.f1.f0).wf = true ∧ (Lit.int .i64 p.f4.f1.f1).wf = true ∧ (Lit.int .i64 p.f4.f2).wf = true ∧ (Lit.int .u16 p.f4.f3.f0).wf = true ∧ (Lit.int .u16 p.f4.f3.f1).wf = true ∧ (Lit.int .u16 p.f4.f4.f0).wf = true ∧ (Lit.int .u16 p.f4.f4.f1).wf = true) := by
  obtain ⟨ys, m, _, _, hlen, hyl, hf⟩ := DataW.trod_struct Try.underlying26 h
  have hlen2 : cs.length = 3 := hlen.trans (by kernel_rfl)
  match ys, hyl with
  | [y0, y1, y2], _ =>
    have g0 : DataW.trod enc Try.prog w base spare held m 22 ((cs.drop 0).take 1) = some y0 := hf 0 _ rfl
    obtain ⟨Aa_0, na_0, ca_0, e0⟩ := Go.Joins.slice_form Try.underlying22 g0
    rw [e0] at g0
    have wa_0 := rd_22 g0
    obtain ⟨la_0, wa_0⟩ := wa_0
    have g1 : DataW.trod enc Try.prog w base spare held m 23 ((cs.drop 1).take 1) = some y1 := hf 1 _ rfl
    obtain ⟨Aa_1, na_1, ca_1, e1⟩ := Go.Joins.slice_form Try.underlying23 g1
    rw [e1] at g1
    have wa_1 := rd_23 g1
    obtain ⟨la_1, wa_1⟩ := wa_1
    have g2 : DataW.trod enc Try.prog w base spare held m 24 ((cs.drop 2).take 1) = some y2 := hf 2 _ rfl
    obtain ⟨Aa_2, na_2, ca_2, e2⟩ := Go.Joins.slice_form Try.underlying24 g2
    rw [e2] at g2
    have wa_2 := rd_24 g2
    obtain ⟨la_2, wa_2⟩ := wa_2
    match cs, hlen2 with
    | [z0, z1, z2], _ =>
      simp at e0
      simp at e1
      simp at e2
      obtain rfl := e0
      obtain rfl := e1
      obtain rfl := e2
      exact ⟨Aa_0, na_0, ca_0, la_0, Aa_1, na_1, ca_1, la_1, Aa_2, na_2, ca_2, la_2, rfl, wa_0, wa_1, wa_2⟩
theorem cells_43 {H : Type} {enc : TypeId × Value → H} {w : World} {base : Nat} {spare : Nat → Bool} {held : Bool} {fuel : Nat} {cs : List Value} {x : DataW H × List MemPlace} (h : DataW.trod enc Try.prog w base spare held fuel 43 cs = some x) :
    ∃ (a_0 : Int) (a_1 : Int) (a_2 : Int) (a_3 : Int) (a_4 : Int), cs = [.int .u32 a_0, .int .u32 a_1, .int .u8 a_2, .int .u16 a_3, .int .u16 a_4] ∧ (Lit.int .u32 a_0).wf = true ∧ (Lit.int .u32 a_1).wf = true ∧ (Lit.int .u8 a_2).wf = true ∧ (Lit.int .u16 a_3).wf = true ∧ (Lit.int .u16 a_4).wf = true := by
  obtain ⟨ys, m, _, _, hlen, hyl, hf⟩ := DataW.trod_struct Try.underlying43 h
  have hlen2 : cs.length = 5 := hlen.trans (by kernel_rfl)
  match ys, hyl with
  | [y0, y1, y2, y3, y4], _ =>
    have g0 : DataW.trod enc Try.prog w base spare held m 40 ((cs.drop 0).take 1) = some y0 := hf 0 _ rfl
    obtain ⟨a_0, e0, _, wa_0⟩ := DataW.trod_int Try.underlying40 g0
    have g1 : DataW.trod enc Try.prog w base spare held m 40 ((cs.drop 1).take 1) = some y1 := hf 1 _ rfl
    obtain ⟨a_1, e1, _, wa_1⟩ := DataW.trod_int Try.underlying40 g1
    have g2 : DataW.trod enc Try.prog w base spare held m 5 ((cs.drop 2).take 1) = some y2 := hf 2 _ rfl
    obtain ⟨a_2, e2, _, wa_2⟩ := DataW.trod_int Try.underlying5 g2
    have g3 : DataW.trod enc Try.prog w base spare held m 41 ((cs.drop 3).take 1) = some y3 := hf 3 _ rfl
    obtain ⟨a_3, e3, _, wa_3⟩ := DataW.trod_int Try.underlying41 g3
    have g4 : DataW.trod enc Try.prog w base spare held m 41 ((cs.drop 4).take 1) = some y4 := hf 4 _ rfl
    obtain ⟨a_4, e4, _, wa_4⟩ := DataW.trod_int Try.underlying41 g4
    match cs, hlen2 with
    | [z0, z1, z2, z3, z4], _ =>
      simp at e0
      simp at e1
      simp at e2
      simp at e3
      simp at e4
      obtain rfl := e0
      obtain rfl := e1
      obtain rfl := e2
      obtain rfl := e3
      obtain rfl := e4
      exact ⟨a_0, a_1, a_2, a_3, a_4, rfl, wa_0, wa_1, wa_2, wa_3, wa_4⟩
set_option maxRecDepth 100000 in
theorem lifted (os : Os) (started : os.Started) (H : Type) (enc : TypeId × Value → H) :
    ReturnsInHanded {} Try.checked os 5 .any (Rows.topoFirstSpec.pre6 enc Try.prog Try.f5 Rows.topoFirstRow.domain false) (Rows.topoFirstSpec.post enc Try.prog Try.f5 false true false false) := by
  refine returnsInHanded_of_change_sized (C := Try.checked) own started (by kernel_rfl) Try.func5
    (ChangeSpec.witness6 (enc := enc) (C := Try.checked) false ⟨#[], #[.agg #[.slice none 0 0, .slice none 0 0, .slice none 0 0], .int .i64 0, .int .i64 0, .bool false, .bool false, .agg #[.int .u32 0, .int .u32 0, .int .u8 0, .int .u16 0, .int .u16 0]], []⟩ 8 (by kernel_rfl) (by kernel_rfl) (by kernel_rfl) (by kernel_rfl)) ?_
  intro W base args ds gs before hval0 hW hcnd hsz0 _
  have hsz : (DataW.weightsEach Try.prog (Try.f5.params.toList ++ Rows.topoFirstSpec.plain.varTypes Try.prog) (ds ++ gs)).all (· ≤ reachBytes) = true := hsz0
  have hval : ∀ (j : Nat) t v, Try.f5.params[j]? = some t → args[j]? = some v → Value.okWide Try.prog W .any base t v := hval0
  have hW' := hW
  obtain ⟨p, q, hA0, hV, rfl, hfz, hnd⟩ := hW
  have hA : DataW.TrodAll enc Try.prog W 0 (fun _ => true) true Try.f5.params.toList args.toList ds p := hA0
  rw [Try.params5] at hA hval hsz
  obtain ⟨v0, vs0, d0, ds0, p0, q0, hargs, rfl, rfl, h0, r0⟩ := trodAll_cons hA
  obtain ⟨v1, vs1, d1, ds1, p1, q1, rfl, rfl, rfl, h1, r1⟩ := trodAll_cons r0
  obtain ⟨v2, vs2, d2, ds2, p2, q2, rfl, rfl, rfl, h2, r2⟩ := trodAll_cons r1
  obtain ⟨v3, vs3, d3, ds3, p3, q3, rfl, rfl, rfl, h3, r3⟩ := trodAll_cons r2
  obtain ⟨v4, vs4, d4, ds4, p4, q4, rfl, rfl, rfl, h4, r4⟩ := trodAll_cons r3
  obtain ⟨v5, vs5, d5, ds5, p5, q5, rfl, rfl, rfl, h5, r5⟩ := trodAll_cons r4
  obtain ⟨rfl, rfl, rfl⟩ := trodAll_nil r5
  obtain rfl : args = #[v0, v1, v2, v3, v4, v5] := by cases args; simp_all
  obtain ⟨rfl, rfl⟩ := trodVars_none hV
  have k0 := h0
  have lt0 : ∀ x ∈ p0, x.block < W.heap.size := by obtain ⟨m, hm⟩ := k0; exact DataW.trod_lt m _ _ _ hm
  have k1 := h1
  have lt1 : ∀ x ∈ p1, x.block < W.heap.size := by obtain ⟨m, hm⟩ := k1; exact DataW.trod_lt m _ _ _ hm
  have k2 := h2
  have lt2 : ∀ x ∈ p2, x.block < W.heap.size := by obtain ⟨m, hm⟩ := k2; exact DataW.trod_lt m _ _ _ hm
  have k3 := h3
  have lt3 : ∀ x ∈ p3, x.block < W.heap.size := by obtain ⟨m, hm⟩ := k3; exact DataW.trod_lt m _ _ _ hm
  have k4 := h4
  have lt4 : ∀ x ∈ p4, x.block < W.heap.size := by obtain ⟨m, hm⟩ := k4; exact DataW.trod_lt m _ _ _ hm
  have k5 := h5
  have lt5 : ∀ x ∈ p5, x.block < W.heap.size := by obtain ⟨m, hm⟩ := k5; exact DataW.trod_lt m _ _ _ hm
  obtain ⟨cs0, rfl, _⟩ := okWide_struct Try.underlying26 (hval 0 26 v0 rfl rfl)
  obtain ⟨fuel0, hf0⟩ := h0
  obtain ⟨Aa0_0, na0_0, ca0_0, la0_0, Aa0_1, na0_1, ca0_1, la0_1, Aa0_2, na0_2, ca0_2, la0_2, ce0, wa0_0, wa0_1, wa0_2⟩ := cells_26 hf0
  obtain rfl : cs0 = #[.slice Aa0_0 na0_0 ca0_0, .slice Aa0_1 na0_1 ca0_1, .slice Aa0_2 na0_2 ca0_2] := by cases cs0; simpa [Value.cells] using ce0
  obtain ⟨lna0_0, hca0_0, hra0_0, wa0_0⟩ := wa0_0
  subst lna0_0
  obtain ⟨lna0_1, hca0_1, hra0_1, wa0_1⟩ := wa0_1
  subst lna0_1
  obtain ⟨lna0_2, hca0_2, hra0_2, wa0_2⟩ := wa0_2
  subst lna0_2
  obtain ⟨a1, rfl, _, _, w1⟩ := open_int Try.underlying3 (hval 1 3 v1 rfl rfl) h1
  obtain ⟨a2, rfl, _, _, w2⟩ := open_int Try.underlying3 (hval 2 3 v2 rfl rfl) h2
  obtain ⟨a3, rfl, _, _⟩ := open_bool Try.underlying4 (hval 3 4 v3 rfl rfl) h3
  obtain ⟨a4, rfl, _, _⟩ := open_bool Try.underlying4 (hval 4 4 v4 rfl rfl) h4
  obtain ⟨cs5, rfl, _⟩ := okWide_struct Try.underlying43 (hval 5 43 v5 rfl rfl)
  obtain ⟨fuel5, hf5⟩ := h5
  obtain ⟨a5_0, a5_1, a5_2, a5_3, a5_4, ce5, wa5_0, wa5_1, wa5_2, wa5_3, wa5_4⟩ := cells_43 hf5
  obtain rfl : cs5 = #[.int .u32 a5_0, .int .u32 a5_1, .int .u8 a5_2, .int .u16 a5_3, .int .u16 a5_4] := by cases cs5; simpa [Value.cells] using ce5
  obtain ⟨k, hk⟩ := Pure.TopoFirst la0_0 la0_1 la0_2 a1 a2 a3 a4 a5_0 a5_1 a5_2 a5_3 a5_4 wa0_0 wa0_1 wa0_2 w1 w2 wa5_0 wa5_1 wa5_2 wa5_3 wa5_4
  refine (crossbucklaw05_TopoFirst.calls k _ _ la0_0 _ _ la0_1 _ _ la0_2 a1 a2 a3 a4 a5_0 a5_1 a5_2 a5_3 a5_4 true W hra0_0 hca0_0 hra0_1 hca0_1 hra0_2 hca0_2 hk (Aside0.mk rfl)).mono fun e W' ⟨he, bel0⟩ => ?_
  have bel : Below W.heap.size W W' := bel0
  subst he
  exact ⟨_, rfl, _, _, _, [], _, [], hW', trodAll_mk1 (shut_bool Try.underlying4 _), (trodAll_cons_mk (Below.trod laidOut (by kernel_rfl) (of_decide_eq_true (by kernel_rfl)) k0 bel lt0) (trodAll_cons_mk (Below.trod laidOut (by kernel_rfl) (of_decide_eq_true (by kernel_rfl)) k1 bel lt1) (trodAll_cons_mk (Below.trod laidOut (by kernel_rfl) (of_decide_eq_true (by kernel_rfl)) k2 bel lt2) (trodAll_cons_mk (Below.trod laidOut (by kernel_rfl) (of_decide_eq_true (by kernel_rfl)) k3 bel lt3) (trodAll_cons_mk (Below.trod laidOut (by kernel_rfl) (of_decide_eq_true (by kernel_rfl)) k4 bel lt4) (trodAll_cons_mk (Below.trod laidOut (by kernel_rfl) (of_decide_eq_true (by kernel_rfl)) k5 bel lt5) trodAll_mk0)))))), rfl, bel.frame _, fun h => by cases h⟩
theorem over : Rows.topoFirstRow.holds Try.pinned (OpenSpec.ofChange Rows.topoFirstSpec) :=
  OpenClaim.holds_of_wide 5 Try.f5 rfl rfl rfl rfl rfl rfl rfl ⟨rfl, rfl, rfl, rfl, rfl⟩ rfl rfl rfl rfl rfl (by kernel_rfl) Try.func5 (by kernel_rfl)
    (of_decide_eq_true (by kernel_rfl)) (by unfold Func.isWrapper; first | (rw [if_pos (by decide +kernel)]; kernel_rfl) | (rw [if_neg (by decide +kernel)]; exact ⟨rfl, rfl⟩))
    (fun os started H enc _ => lifted os started H enc)
theorem proved : Rows.TopoFirstSaid := over
#print axioms proved
end Go.Proofs.Ytdemogdagemagaa.topoFirst
namespace Go.Proofs.Ytdemogdagemagaa
/-- The row, under a short name, for the claim. -/
theorem topoFirst_holds : Rows.TopoFirstSaid := topoFirst.proved
end Go.Proofs.Ytdemogdagemagaa
