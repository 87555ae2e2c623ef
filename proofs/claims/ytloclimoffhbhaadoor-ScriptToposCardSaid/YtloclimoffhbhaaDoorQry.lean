/- What a call may be, and its line: the document's answers for queries and small calls. No condition of its own. -/
import Derived.Test.YtloclimoffhbhaaDoorSemi
import Derived.Test.YtloclimoffhbhaaDoorFlt
import Derived.Test.YtloclimoffhbhaaDoorPStox6
namespace Go.Proofs.YtloclimoffhbhaaDoor.Scr
open Go Go.RowKit Go.Proofs.YtloclimoffhbhaaDoor.PSto Go.Proofs.YtloclimoffhbhaaDoorW.PrintWords Go.Proofs.YtloclimoffhbhaaDoorW.PrintLast Go.Proofs.YtloclimoffhbhaaDoorW.PrintMore Go.Proofs.YtloclimoffhbhaaDoor.Bits Go.Proofs.YtloclimoffhbhaaDoor.Facts
set_option linter.unusedVariables false
set_option linter.unusedSimpArgs false
/-- A filter that may be written. -/
def rightF (f0 f1 f2 f3 f4 f5 f6 f7 f8 : Int) : Bool := rightB f0 f1 && rightB f2 f3 && decide (-1 ≤ f4) && decide (f4 ≤ 255) && decide (f5 ≤ f6) && decide (f7 ≤ f8)
theorem rightF_iff {f0 f1 f2 f3 f4 f5 f6 f7 f8 : Int} : rightF f0 f1 f2 f3 f4 f5 f6 f7 f8 = true ↔ rightB f0 f1 = true ∧ rightB f2 f3 = true ∧ -1 ≤ f4 ∧ f4 ≤ 255 ∧ f5 ≤ f6 ∧ f7 ≤ f8 := by
  unfold rightF
  simp only [Bool.and_eq_true, decide_eq_true_eq, and_assoc]
theorem check_ev {f0 f1 f2 f3 f4 f5 f6 f7 f8 : Int} (a0 : 0 ≤ f0) (a1 : f0 < 4294967296) (b0 : 0 ≤ f2) (b1 : f2 < 4294967296) :
    ∃ e : Int, Ev (fun k => crossbuckref04_Check.f k f0 f1 f2 f3 f4 f5 f6 f7 f8) e ∧ (e == 0) = rightF f0 f1 f2 f3 f4 f5 f6 f7 f8 := by
  have h1 : Ev (fun k => crossbuckref03_Right.f k f0 f1) (rightB f0 f1) := ⟨33, fun k hk => refRight_eq hk a0 a1⟩
  have h2 : Ev (fun k => crossbuckref03_Right.f k f2 f3) (rightB f2 f3) := ⟨33, fun k hk => refRight_eq hk b0 b1⟩
  have hbad : Ev (fun k => crossbuckref04_Check.j0 k true f0 f1 f2 f3 f4 f5 f6 f7 f8) 13 := Ev.step (f := fun _ => some 13) (fun k => by rw [crossbuckref04_Check.j0]; rfl) (Ev.now _)
  unfold rightF
  by_cases c1 : rightB f0 f1 = true
  case neg =>
    have e1 : rightB f0 f1 = false := by simpa using c1
    refine ⟨13, ?_, by rw [e1]; rfl⟩
    unfold crossbuckref04_Check.f
    refine Ev.bind h1 ?_
    simp only [e1, Bool.false_eq_true, if_false]
    exact hbad
  by_cases c2 : rightB f2 f3 = true
  case neg =>
    have e2 : rightB f2 f3 = false := by simpa using c2
    refine ⟨13, ?_, by rw [e2, c1]; rfl⟩
    unfold crossbuckref04_Check.f
    refine Ev.bind h1 ?_
    simp only [c1, if_true]
    refine Ev.bind h2 ?_
    simp only [e2, Bool.not_false]
    exact hbad
  have hgo : ∀ e, Ev (fun k => crossbuckref04_Check.j0 k false f0 f1 f2 f3 f4 f5 f6 f7 f8) e → Ev (fun k => crossbuckref04_Check.f k f0 f1 f2 f3 f4 f5 f6 f7 f8) e := fun e he => by
    unfold crossbuckref04_Check.f
    refine Ev.bind h1 ?_
    simp only [c1, if_true]
    refine Ev.bind h2 ?_
    simp only [c2, Bool.not_true]
    exact he
  have hj1 : ∀ b : Bool, Ev (fun k => crossbuckref04_Check.j1 k b f0 f1 f2 f3 f4 f5 f6 f7 f8) (if b = true then 5 else if f5 > f6 then 14 else if f7 > f8 then 14 else 0) := fun b =>
    Ev.step (f := fun _ => some (if b = true then 5 else if f5 > f6 then 14 else if f7 > f8 then 14 else 0)) (fun k => by
      rw [crossbuckref04_Check.j1]
      by_cases hb : b = true <;> by_cases h5 : f5 > f6 <;> by_cases h7 : f7 > f8 <;> simp only [hb, h5, h7, if_true, if_false, Bool.false_eq_true]) (Ev.now _)
  by_cases c4 : f4 < -1
  · refine ⟨5, hgo _ ?_, by rw [c1, c2, decide_eq_false (show ¬ -1 ≤ f4 by omega)]; rfl⟩
    exact Ev.step (fun k => by rw [crossbuckref04_Check.j0, if_neg (by simp), if_pos c4]) (hj1 true)
  refine ⟨_, hgo _ (Ev.step (fun k => by rw [crossbuckref04_Check.j0, if_neg (by simp), if_neg c4]) (hj1 (decide (f4 > 255)))), ?_⟩
  rw [c1, c2, decide_eq_true (show -1 ≤ f4 by omega)]
  by_cases c5 : f4 > 255
  · rw [if_pos (decide_eq_true c5), decide_eq_false (show ¬ f4 ≤ 255 by omega)]
    rfl
  rw [if_neg (by simpa using c5), decide_eq_true (show f4 ≤ 255 by omega)]
  by_cases c6 : f5 > f6
  · rw [if_pos c6, decide_eq_false (show ¬ f5 ≤ f6 by omega)]
    rfl
  rw [if_neg c6, decide_eq_true (show f5 ≤ f6 by omega)]
  by_cases c7 : f7 > f8
  · rw [if_pos c7, decide_eq_false (show ¬ f7 ≤ f8 by omega)]
    rfl
  rw [if_neg c7, decide_eq_true (show f7 ≤ f8 by omega)]
  rfl
/-! ### A query's line -/
def fT (f0 f1 f2 f3 f4 f5 f6 f7 f8 : Int) : List UInt8 := fltT f0.toNat f1.toNat f2.toNat f3.toNat f4 f5.toNat f6.toNat f7.toNat f8.toNat
structure BdF (f0 f1 f2 f3 f4 f5 f6 f7 f8 : Int) : Prop where
  a : 0 ≤ f0 ∧ f0 < 4294967296
  b : 0 ≤ f2 ∧ f2 < 4294967296
  p5 : 0 ≤ f5 ∧ f5 ≤ 65535
  p6 : 0 ≤ f6 ∧ f6 ≤ 65535
  p7 : 0 ≤ f7 ∧ f7 ≤ 65535
  p8 : 0 ≤ f8 ∧ f8 ≤ 65535
theorem fT_laws {f0 f1 f2 f3 f4 f5 f6 f7 f8 : Int} (hb : BdF f0 f1 f2 f3 f4 f5 f6 f7 f8) (h : rightF f0 f1 f2 f3 f4 f5 f6 f7 f8 = true) :
    Ev (fun k => filter_Print.f k f0 f1 f2 f3 f4 f5 f6 f7 f8) (B (fT f0 f1 f2 f3 f4 f5 f6 f7 f8)) ∧ Ev (fun k => crossbuckref04_Print.f k f0 f1 f2 f3 f4 f5 f6 f7 f8) (B (fT f0 f1 f2 f3 f4 f5 f6 f7 f8)) ∧
      Ev (fun k => filter_Parse.f k (B (fT f0 f1 f2 f3 f4 f5 f6 f7 f8))) (f0, f1, f2, f3, f4, f5, f6, f7, f8, 0) ∧ (fT f0 f1 f2 f3 f4 f5 f6 f7 f8).length ≤ 100 := by
  obtain ⟨h1, h2, h3, h4, h5, h6⟩ := rightF_iff.1 h
  obtain ⟨⟨a0, a1⟩, ⟨b0, b1⟩, ⟨c0, c1⟩, ⟨d0, d1⟩, ⟨e0, e1⟩, ⟨g0, g1⟩⟩ := hb
  have r1 := right_bd h1
  have r2 := right_bd h2
  obtain ⟨n0, rfl⟩ := Int.eq_ofNat_of_zero_le a0
  obtain ⟨n1, rfl⟩ := Int.eq_ofNat_of_zero_le r1.1
  obtain ⟨n2, rfl⟩ := Int.eq_ofNat_of_zero_le b0
  obtain ⟨n3, rfl⟩ := Int.eq_ofNat_of_zero_le r2.1
  obtain ⟨n5, rfl⟩ := Int.eq_ofNat_of_zero_le c0
  obtain ⟨n6, rfl⟩ := Int.eq_ofNat_of_zero_le d0
  obtain ⟨n7, rfl⟩ := Int.eq_ofNat_of_zero_le e0
  obtain ⟨n8, rfl⟩ := Int.eq_ofNat_of_zero_le g0
  unfold fT
  simp only [Int.toNat_natCast]
  refine ⟨Ev_plus 6 (fun k => flt_print k (by omega) (by omega) (by omega) (by omega) h3 h4 (by omega) (by omega) (by omega) (by omega)), Ev_plus 6 (fun k => flt_ref k (by omega) (by omega) (by omega) (by omega) h3 h4 (by omega) (by omega) (by omega) (by omega)), Ev_plus 5 (fun k => flt_read k (by omega) (by omega) (by omega) (by omega) h3 h4 (by omega) (by omega) (by omega) (by omega) h1 h2 (by omega) (by omega)), ?_⟩
  have l1 := preT_len n0 (y := n1) (by omega)
  have l2 := preT_len n2 (y := n3) (by omega)
  have l3 := proW_len h4
  have l4 := rngT_len (x := n5) (y := n6) (by omega) (by omega)
  have l5 := rngT_len (x := n7) (y := n8) (by omega) (by omega)
  simp only [fltT, List.length_append, List.length_cons]
  omega
/-- The five words of a filter. -/
def fW (f0 f1 f2 f3 f4 f5 f6 f7 f8 : Int) : List (List UInt8) := [preT f0.toNat f1.toNat, preT f2.toNat f3.toNat, proW f4, rngT f5.toNat f6.toNat, rngT f7.toNat f8.toNat]
theorem fW_sp (f0 f1 f2 f3 f4 f5 f6 f7 f8 : Int) : sp 32 (fT f0 f1 f2 f3 f4 f5 f6 f7 f8) = fW f0 f1 f2 f3 f4 f5 f6 f7 f8 := by
  unfold fT fltT fW
  rw [sp_mid 32 _ _ (preT_no _ _), sp_mid 32 _ _ (preT_no _ _), sp_mid 32 _ _ (proW_no _), sp_mid 32 _ _ (rngT_no _ _), sp_none 32 _ (rngT_no _ _)]
theorem fW_join {f0 f1 f2 f3 f4 f5 f6 f7 f8 : Int} (hf : (fT f0 f1 f2 f3 f4 f5 f6 f7 f8).length ≤ 100) : strings_Join.f ((fW f0 f1 f2 f3 f4 f5 f6 f7 f8).map B) ⟨#[32]⟩ = some (B (fT f0 f1 f2 f3 f4 f5 f6 f7 f8)) := by
  unfold strings_Join.f
  have e1 : Lib.join (((fW f0 f1 f2 f3 f4 f5 f6 f7 f8).map B).map (fun z : ByteArray => z.data.toList)) (⟨#[32]⟩ : ByteArray).data.toList = fT f0 f1 f2 f3 f4 f5 f6 f7 f8 := join_five _ _ _ _ _
  rw [e1, if_pos ⟨by omega, by simp [fW]⟩]
  rfl
end Go.Proofs.YtloclimoffhbhaaDoor.Scr
