/- What a call may be, and its line: the document's answers for queries and small calls. No condition of its own. -/
import Derived.Test.YtloclimoffhbhaaDoorSemi
import Derived.Test.YtloclimoffhbhaaDoorFlt

namespace Go.Proofs.YtloclimoffhbhaaDoor.Scr
open Go Go.RowKit Go.Proofs.YtloclimoffhbhaaDoor.PSre Go.Proofs.YtloclimoffhbhaaDoorW.PrintWords Go.Proofs.YtloclimoffhbhaaDoorW.PrintLast Go.Proofs.YtloclimoffhbhaaDoorW.PrintMore Go.Proofs.YtloclimoffhbhaaDoor.Bits Go.Proofs.YtloclimoffhbhaaDoor.Facts
set_option linter.unusedVariables false
set_option linter.unusedSimpArgs false
/-- A filter that may be written. -/
def rightF (f0 f1 f2 f3 f4 f5 f6 f7 f8 : Int) : Bool := rightB f0 f1 && rightB f2 f3 && decide (-1 ≤ f4) && decide (f4 ≤ 255) && decide (f5 ≤ f6) && decide (f7 ≤ f8)
theorem rightF_iff {f0 f1 f2 f3 f4 f5 f6 f7 f8 : Int} : rightF f0 f1 f2 f3 f4 f5 f6 f7 f8 = true ↔ rightB f0 f1 = true ∧ rightB f2 f3 = true ∧ -1 ≤ f4 ∧ f4 ≤ 255 ∧ f5 ≤ f6 ∧ f7 ≤ f8 := by
  unfold rightF
  simp only [Bool.and_eq_true, decide_eq_true_eq, and_assoc]
/-! ### A query's line -/
def kindT : Nat → List UInt8
  | 0 => [114, 101, 97, 99, 104]
  | 1 => [108, 111, 111, 112]
  | 2 => [104, 111, 108, 101]
  | 3 => [100, 114, 111, 112]
  | 4 => [100, 101, 110, 105, 101, 100]
  | _ => [108, 101, 102, 116]
def fT (f0 f1 f2 f3 f4 f5 f6 f7 f8 : Int) : List UInt8 := fltT f0.toNat f1.toNat f2.toNat f3.toNat f4 f5.toNat f6.toNat f7.toNat f8.toNat
theorem kindT_len (m : Nat) : (kindT m).length ≤ 6 := by
  unfold kindT
  split <;> decide
structure BdF (f0 f1 f2 f3 f4 f5 f6 f7 f8 : Int) : Prop where
  a : 0 ≤ f0 ∧ f0 < 4294967296
  b : 0 ≤ f2 ∧ f2 < 4294967296
  p5 : 0 ≤ f5 ∧ f5 ≤ 65535
  p6 : 0 ≤ f6 ∧ f6 ≤ 65535
  p7 : 0 ≤ f7 ∧ f7 ≤ 65535
  p8 : 0 ≤ f8 ∧ f8 ≤ 65535
theorem fT_laws {f0 f1 f2 f3 f4 f5 f6 f7 f8 : Int} (hb : BdF f0 f1 f2 f3 f4 f5 f6 f7 f8) (h : rightF f0 f1 f2 f3 f4 f5 f6 f7 f8 = true) :
    Ev (fun k => filter_Print.f k f0 f1 f2 f3 f4 f5 f6 f7 f8) (B (fT f0 f1 f2 f3 f4 f5 f6 f7 f8)) ∧ Ev (fun k => crossbuckref04_Print.f k f0 f1 f2 f3 f4 f5 f6 f7 f8) (B (fT f0 f1 f2 f3 f4 f5 f6 f7 f8)) ∧
      Ev (fun k => filter_Parse.f k (B (fT f0 f1 f2 f3 f4 f5 f6 f7 f8))) (f0, f1, f2, f3, f4, f5, f6, f7, f8, 0) ∧ (fT f0 f1 f2 f3 f4 f5 f6 f7 f8).length ≤ 100 := by
  obtain ⟨h1, h2, h3, h4, h5, h6⟩ := rightF_iff.1 h
  obtain ⟨⟨a0, a1⟩, ⟨b0, b1⟩, ⟨c0, c1⟩, ⟨d0, d1⟩, ⟨e0, e1⟩, ⟨g0, g1⟩⟩ := hb
  have r1 := right_bd h1
  have r2 := right_bd h2
  obtain ⟨n0, rfl⟩ := Int.eq_ofNat_of_zero_le a0
  obtain ⟨n1, rfl⟩ := Int.eq_ofNat_of_zero_le r1.1
  obtain ⟨n2, rfl⟩ := Int.eq_ofNat_of_zero_le b0
  obtain ⟨n3, rfl⟩ := Int.eq_ofNat_of_zero_le r2.1
  obtain ⟨n5, rfl⟩ := Int.eq_ofNat_of_zero_le c0
  obtain ⟨n6, rfl⟩ := Int.eq_ofNat_of_zero_le d0
  obtain ⟨n7, rfl⟩ := Int.eq_ofNat_of_zero_le e0
  obtain ⟨n8, rfl⟩ := Int.eq_ofNat_of_zero_le g0
  unfold fT
  simp only [Int.toNat_natCast]
  refine ⟨Ev_plus 6 (fun k => flt_print k (by omega) (by omega) (by omega) (by omega) h3 h4 (by omega) (by omega) (by omega) (by omega)), Ev_plus 6 (fun k => flt_ref k (by omega) (by omega) (by omega) (by omega) h3 h4 (by omega) (by omega) (by omega) (by omega)), Ev_plus 5 (fun k => flt_read k (by omega) (by omega) (by omega) (by omega) h3 h4 (by omega) (by omega) (by omega) (by omega) h1 h2 (by omega) (by omega)), ?_⟩
  have l1 := preT_len n0 (y := n1) (by omega)
  have l2 := preT_len n2 (y := n3) (by omega)
  have l3 := proW_len h4
  have l4 := rngT_len (x := n5) (y := n6) (by omega) (by omega)
  have l5 := rngT_len (x := n7) (y := n8) (by omega) (by omega)
  simp only [fltT, List.length_append, List.length_cons]
  omega
/-- The words of a query behind 'ask'. -/
def qW (m : Nat) (fr tu : Int) (f0 f1 f2 f3 f4 f5 f6 f7 f8 : Int) : List UInt8 := kindT m ++ 32 :: (D fr.toNat ++ 32 :: (if m = 0 then D tu.toNat ++ 32 :: fT f0 f1 f2 f3 f4 f5 f6 f7 f8 else fT f0 f1 f2 f3 f4 f5 f6 f7 f8))
def qT (m : Nat) (fr tu : Int) (f0 f1 f2 f3 f4 f5 f6 f7 f8 : Int) : List UInt8 := [97, 115, 107] ++ 32 :: qW m fr tu f0 f1 f2 f3 f4 f5 f6 f7 f8
theorem qW_len {m : Nat} {fr tu f0 f1 f2 f3 f4 f5 f6 f7 f8 : Int} (h1 : small fr) (h2 : m = 0 → small tu) (hf : (fT f0 f1 f2 f3 f4 f5 f6 f7 f8).length ≤ 100) : (qW m fr tu f0 f1 f2 f3 f4 f5 f6 f7 f8).length ≤ 140 := by
  have l1 := kindT_len m
  have l2 : (D fr.toNat).length ≤ 8 := D_len7 (by have := h1.2; omega)
  unfold qW
  by_cases c : m = 0
  · have l3 : (D tu.toNat).length ≤ 8 := D_len7 (by have := (h2 c).2; omega)
    simp only [if_pos c, List.length_append, List.length_cons]
    omega
  · simp only [if_neg c, List.length_append, List.length_cons]
    omega
theorem q_join0 {fr tu f0 f1 f2 f3 f4 f5 f6 f7 f8 : Int} (h1 : small fr) (h2 : small tu) (hf : (fT f0 f1 f2 f3 f4 f5 f6 f7 f8).length ≤ 100) :
    strings_Join.f [⟨#[97, 115, 107]⟩, B (kindT 0), B (D fr.toNat), B (D tu.toNat), B (fT f0 f1 f2 f3 f4 f5 f6 f7 f8)] ⟨#[32]⟩ = some (B (qT 0 fr tu f0 f1 f2 f3 f4 f5 f6 f7 f8)) := by
  have hl := qW_len (m := 0) (f0 := f0) (f1 := f1) (f2 := f2) (f3 := f3) (f4 := f4) (f5 := f5) (f6 := f6) (f7 := f7) (f8 := f8) h1 (fun _ => h2) hf
  unfold strings_Join.f
  have e1 : Lib.join (List.map (fun z : ByteArray => z.data.toList) [⟨#[97, 115, 107]⟩, B (kindT 0), B (D fr.toNat), B (D tu.toNat), B (fT f0 f1 f2 f3 f4 f5 f6 f7 f8)]) (⟨#[32]⟩ : ByteArray).data.toList = qT 0 fr tu f0 f1 f2 f3 f4 f5 f6 f7 f8 := join_five _ _ _ _ _
  rw [e1, if_pos ⟨by simp only [qT, List.length_append, List.length_cons, List.length_nil]; omega, by simp⟩]
  rfl
theorem q_joinS {m : Nat} (hm : m ≠ 0) {fr tu f0 f1 f2 f3 f4 f5 f6 f7 f8 : Int} (h1 : small fr) (hf : (fT f0 f1 f2 f3 f4 f5 f6 f7 f8).length ≤ 100) :
    strings_Join.f [⟨#[97, 115, 107]⟩, B (kindT m), B (D fr.toNat), B (fT f0 f1 f2 f3 f4 f5 f6 f7 f8)] ⟨#[32]⟩ = some (B (qT m fr tu f0 f1 f2 f3 f4 f5 f6 f7 f8)) := by
  have hl := qW_len (m := m) (tu := tu) (f0 := f0) (f1 := f1) (f2 := f2) (f3 := f3) (f4 := f4) (f5 := f5) (f6 := f6) (f7 := f7) (f8 := f8) h1 (fun h => absurd h hm) hf
  unfold strings_Join.f
  have e1 : Lib.join (List.map (fun z : ByteArray => z.data.toList) [⟨#[97, 115, 107]⟩, B (kindT m), B (D fr.toNat), B (fT f0 f1 f2 f3 f4 f5 f6 f7 f8)]) (⟨#[32]⟩ : ByteArray).data.toList = qT m fr tu f0 f1 f2 f3 f4 f5 f6 f7 f8 := by
    unfold qT qW
    rw [if_neg hm]
    show Lib.join [[97, 115, 107], kindT m, D fr.toNat, fT f0 f1 f2 f3 f4 f5 f6 f7 f8] [32] = _
    rw [Lib.join_cons]
    simp [Lib.joinTail]
  rw [e1, if_pos ⟨by simp only [qT, List.length_append, List.length_cons, List.length_nil]; omega, by simp⟩]
  rfl
end Go.Proofs.YtloclimoffhbhaaDoor.Scr
