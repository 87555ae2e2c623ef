/- What a call may be, and its line: the document's answers for queries and small calls. No condition of its own. -/
import Derived.Test.YtloclimoffhbhaaDoorSemi
import Derived.Test.YtloclimoffhbhaaDoorFlt
import Derived.Test.YtloclimoffhbhaaDoorPScax13
import Derived.Test.YtloclimoffhbhaaDoorPScax14
import Derived.Test.YtloclimoffhbhaaDoorPScax8
import Derived.Test.YtloclimoffhbhaaDoorPScax9
namespace Go.Proofs.YtloclimoffhbhaaDoor.Scr
open Go Go.RowKit Go.Proofs.YtloclimoffhbhaaDoor.PSca Go.Proofs.YtloclimoffhbhaaDoorW.PrintWords Go.Proofs.YtloclimoffhbhaaDoorW.PrintLast Go.Proofs.YtloclimoffhbhaaDoorW.PrintMore Go.Proofs.YtloclimoffhbhaaDoor.Bits Go.Proofs.YtloclimoffhbhaaDoor.Facts
set_option linter.unusedVariables false
set_option linter.unusedSimpArgs false
/-- A filter that may be written. -/
def rightF (f0 f1 f2 f3 f4 f5 f6 f7 f8 : Int) : Bool := rightB f0 f1 && rightB f2 f3 && decide (-1 ≤ f4) && decide (f4 ≤ 255) && decide (f5 ≤ f6) && decide (f7 ≤ f8)
theorem rightF_iff {f0 f1 f2 f3 f4 f5 f6 f7 f8 : Int} : rightF f0 f1 f2 f3 f4 f5 f6 f7 f8 = true ↔ rightB f0 f1 = true ∧ rightB f2 f3 = true ∧ -1 ≤ f4 ∧ f4 ≤ 255 ∧ f5 ≤ f6 ∧ f7 ≤ f8 := by
  unfold rightF
  simp only [Bool.and_eq_true, decide_eq_true_eq, and_assoc]
theorem check_ev {f0 f1 f2 f3 f4 f5 f6 f7 f8 : Int} (a0 : 0 ≤ f0) (a1 : f0 < 4294967296) (b0 : 0 ≤ f2) (b1 : f2 < 4294967296) :
    ∃ e : Int, Ev (fun k => crossbuckref04_Check.f k f0 f1 f2 f3 f4 f5 f6 f7 f8) e ∧ (e == 0) = rightF f0 f1 f2 f3 f4 f5 f6 f7 f8 := by
  have h1 : Ev (fun k => crossbuckref03_Right.f k f0 f1) (rightB f0 f1) := ⟨33, fun k hk => refRight_eq hk a0 a1⟩
  have h2 : Ev (fun k => crossbuckref03_Right.f k f2 f3) (rightB f2 f3) := ⟨33, fun k hk => refRight_eq hk b0 b1⟩
  have hbad : Ev (fun k => crossbuckref04_Check.j0 k true f0 f1 f2 f3 f4 f5 f6 f7 f8) 13 := Ev.step (f := fun _ => some 13) (fun k => by rw [crossbuckref04_Check.j0]; rfl) (Ev.now _)
  unfold rightF
  by_cases c1 : rightB f0 f1 = true
  case neg =>
    have e1 : rightB f0 f1 = false := by simpa using c1
    refine ⟨13, ?_, by rw [e1]; rfl⟩
    unfold crossbuckref04_Check.f
    refine Ev.bind h1 ?_
    simp only [e1, Bool.false_eq_true, if_false]
    exact hbad
  by_cases c2 : rightB f2 f3 = true
  case neg =>
    have e2 : rightB f2 f3 = false := by simpa using c2
    refine ⟨13, ?_, by rw [e2, c1]; rfl⟩
    unfold crossbuckref04_Check.f
    refine Ev.bind h1 ?_
    simp only [c1, if_true]
    refine Ev.bind h2 ?_
    simp only [e2, Bool.not_false]
    exact hbad
  have hgo : ∀ e, Ev (fun k => crossbuckref04_Check.j0 k false f0 f1 f2 f3 f4 f5 f6 f7 f8) e → Ev (fun k => crossbuckref04_Check.f k f0 f1 f2 f3 f4 f5 f6 f7 f8) e := fun e he => by
    unfold crossbuckref04_Check.f
    refine Ev.bind h1 ?_
    simp only [c1, if_true]
    refine Ev.bind h2 ?_
    simp only [c2, Bool.not_true]
    exact he
  have hj1 : ∀ b : Bool, Ev (fun k => crossbuckref04_Check.j1 k b f0 f1 f2 f3 f4 f5 f6 f7 f8) (if b = true then 5 else if f5 > f6 then 14 else if f7 > f8 then 14 else 0) := fun b =>
    Ev.step (f := fun _ => some (if b = true then 5 else if f5 > f6 then 14 else if f7 > f8 then 14 else 0)) (fun k => by
      rw [crossbuckref04_Check.j1]
      by_cases hb : b = true <;> by_cases h5 : f5 > f6 <;> by_cases h7 : f7 > f8 <;> simp only [hb, h5, h7, if_true, if_false, Bool.false_eq_true]) (Ev.now _)
  by_cases c4 : f4 < -1
  · refine ⟨5, hgo _ ?_, by rw [c1, c2, decide_eq_false (show ¬ -1 ≤ f4 by omega)]; rfl⟩
    exact Ev.step (fun k => by rw [crossbuckref04_Check.j0, if_neg (by simp), if_pos c4]) (hj1 true)
  refine ⟨_, hgo _ (Ev.step (fun k => by rw [crossbuckref04_Check.j0, if_neg (by simp), if_neg c4]) (hj1 (decide (f4 > 255)))), ?_⟩
  rw [c1, c2, decide_eq_true (show -1 ≤ f4 by omega)]
  by_cases c5 : f4 > 255
  · rw [if_pos (decide_eq_true c5), decide_eq_false (show ¬ f4 ≤ 255 by omega)]
    rfl
  rw [if_neg (by simpa using c5), decide_eq_true (show f4 ≤ 255 by omega)]
  by_cases c6 : f5 > f6
  · rw [if_pos c6, decide_eq_false (show ¬ f5 ≤ f6 by omega)]
    rfl
  rw [if_neg c6, decide_eq_true (show f5 ≤ f6 by omega)]
  by_cases c7 : f7 > f8
  · rw [if_pos c7, decide_eq_false (show ¬ f7 ≤ f8 by omega)]
    rfl
  rw [if_neg c7, decide_eq_true (show f7 ≤ f8 by omega)]
  rfl
/-- What a call of another kind than 0 may be. -/
def rightQ (a0 a2 a3 a4 : Int) (f0 f1 f2 f3 f4 f5 f6 f7 f8 : Int) (a14 : Int) : Bool :=
  if a0 = 1 then decide (0 ≤ a2) && decide (a2 ≤ 5) && decide (small a3) && (decide (0 < a2) || decide (small a4)) && rightF f0 f1 f2 f3 f4 f5 f6 f7 f8
  else decide (2 ≤ a0) && decide (a0 ≤ 4) && (!decide (a0 = 3) || decide (small a14))
theorem rightQ_ev (l : List S46) {a0 a2 a3 a4 f0 f1 f2 f3 f4 f5 f6 f7 f8 a14 : Int} (h0 : a0 ≠ 0) (b0 : 0 ≤ f0) (b1 : f0 < 4294967296) (d0 : 0 ≤ f2) (d1 : f2 < 4294967296) :
    Ev (fun k => crossbuckref25_Right.f k a0 l a2 a3 a4 f0 f1 f2 f3 f4 f5 f6 f7 f8 a14) (rightQ a0 a2 a3 a4 f0 f1 f2 f3 f4 f5 f6 f7 f8 a14) := by
  unfold crossbuckref25_Right.f rightQ
  simp only [if_neg h0]
  obtain ⟨e, he, hee⟩ := check_ev (f1 := f1) (f3 := f3) (f4 := f4) (f5 := f5) (f6 := f6) (f7 := f7) (f8 := f8) b0 b1 d0 d1
  have s1 : ∀ x : Int, ([x].all fun n => decide (small n)) = decide (small x) := fun x => by simp
  by_cases c1 : a0 = 1
  · simp only [if_pos c1]
    by_cases c2 : a2 ≥ 0
    case neg =>
      simp only [if_neg c2]
      rw [decide_eq_false (show ¬ 0 ≤ a2 by omega)]
      exact Ev.now _
    by_cases c3 : a2 ≤ 5
    case neg =>
      simp only [if_pos c2, if_neg c3]
      rw [decide_eq_false c3, Bool.and_false]
      exact Ev.now _
    simp only [if_pos c2, if_pos c3]
    rw [decide_eq_true (show 0 ≤ a2 by omega), decide_eq_true c3]
    refine Ev.bind (small_ev [a3] (by simp)) ?_
    rw [s1]
    by_cases c4 : small a3
    case neg =>
      simp only [decide_eq_false c4, Bool.false_eq_true, if_false]
      exact Ev.now _
    simp only [decide_eq_true c4, if_true, Bool.and_self, Bool.true_and]
    by_cases c5 : a2 > 0
    · simp only [if_pos c5]
      rw [decide_eq_true (show 0 < a2 by omega), Bool.true_or, Bool.true_and, ← hee]
      exact Ev.bind he (Ev.now _)
    · simp only [if_neg c5]
      rw [decide_eq_false (show ¬ 0 < a2 by omega), Bool.false_or]
      refine Ev.bind (small_ev [a4] (by simp)) ?_
      rw [s1]
      by_cases c6 : small a4
      · simp only [decide_eq_true c6, if_true, Bool.true_and]
        rw [← hee]
        exact Ev.bind he (Ev.now _)
      · simp only [decide_eq_false c6, Bool.false_eq_true, if_false]
        exact Ev.now _
  · simp only [if_neg c1]
    by_cases c2 : a0 ≥ 2
    case neg =>
      simp only [if_neg c2]
      rw [decide_eq_false (show ¬ 2 ≤ a0 by omega)]
      exact Ev.now _
    by_cases c3 : a0 ≤ 4
    case neg =>
      simp only [if_pos c2, if_neg c3]
      rw [decide_eq_false c3, Bool.and_false]
      exact Ev.now _
    simp only [if_pos c2, if_pos c3]
    rw [decide_eq_true (show 2 ≤ a0 by omega), decide_eq_true c3]
    by_cases c4 : a0 = 3
    · simp only [if_pos c4]
      refine Ev.bind (small_ev [a14] (by simp)) ?_
      rw [s1, decide_eq_true c4]
      simp only [Bool.not_true, Bool.false_or, Bool.and_self, Bool.true_and]
      exact Ev.now _
    · simp only [if_neg c4]
      rw [decide_eq_false c4]
      exact Ev.now _
theorem joinS_add : ∀ (ws : List (List UInt8)) (w : List UInt8), joinS (ws ++ [w]) = if ws = [] then w else joinS ws ++ 59 :: 32 :: w
  | [], w => rfl
  | [v], w => rfl
  | u :: v :: r, w => by
    have ih := joinS_add (v :: r) w
    rw [if_neg (by simp)] at ih
    rw [if_neg (by simp)]
    show u ++ 59 :: 32 :: joinS (v :: r ++ [w]) = _
    rw [ih]
    simp [joinS]
/-- A batch's line, as the document writes it. -/
theorem refCall_ev (l : List S46) (hl : l.length ≤ 40) (h0 : 0 < l.length) (hb : ∀ c ∈ l, bdC c) (hr : ∀ c ∈ l, rightC c = true) (a2 a3 a4 a5 a6 a7 a8 a9 a10 a11 a12 a13 a14 : Int) :
    Ev (fun k => crossbuckref25_Call.f k 0 l a2 a3 a4 a5 a6 a7 a8 a9 a10 a11 a12 a13 a14) (B ([98, 97, 116, 99, 104, 32] ++ joinS (l.map chT))) := by
  have h : ∀ d i : Nat, i + d = l.length → Ev (fun k => crossbuckref25_Call.l0 k (B ([98, 97, 116, 99, 104, 32] ++ joinS ((l.take i).map chT))) (i : Int) 0 l a2 a3 a4 a5 a6 a7 a8 a9 a10 a11 a12 a13 a14) (B ([98, 97, 116, 99, 104, 32] ++ joinS (l.map chT))) := by
    intro d
    induction d with
    | zero =>
      intro i hi
      obtain rfl : i = l.length := by omega
      rw [List.take_length]
      exact Ev.step (f := fun _ => some (B ([98, 97, 116, 99, 104, 32] ++ joinS (l.map chT)))) (fun k => by rw [crossbuckref25_Call.l0, if_neg (by omega)]) (Ev.now _)
    | succ d ih =>
      intro i hi
      have hlt : i < l.length := by omega
      have e : rd_T46 l (i : Int) = l[i] := by simp [rd_T46, List.getD, hlt]
      have hm := List.getElem_mem hlt
      have h3 := ih (i + 1) (by omega)
      have hsz := joinS_len ((l.take i).map chT) (fun x hx => by obtain ⟨y, hy, rfl⟩ := List.mem_map.1 hx; have := List.mem_of_mem_take hy; exact chT_len (hb y this) (hr y this))
      have hc := chT_len (hb _ hm) (hr _ hm)
      rw [List.length_map, List.length_take] at hsz
      rw [List.take_succ_eq_append_getElem hlt, List.map_append, List.map_cons, List.map_nil, joinS_add] at h3
      have href := ref_ev (hb _ hm) (hr _ hm)
      by_cases hi0 : i = 0
      · subst hi0
        rw [if_pos (by rfl)] at h3
        refine Ev.step (fun k => by rw [crossbuckref25_Call.l0, if_pos (by omega), if_neg (by omega), if_pos (by omega), e]) (Ev.bind href ?_)
        have hc1 : (B ([98, 97, 116, 99, 104, 32] ++ joinS (List.map chT (List.take 0 l)))).size + (B (chT l[0])).size ≤ 9223372036854775807 := by
          rw [B_size, B_size]
          simp only [List.length_append, List.length_cons, List.length_nil]
          omega
        simp only [if_pos hc1, B_add, wrS 0 (by omega)]
        simpa [joinS] using h3
      · rw [if_neg (by intro q; have := congrArg List.length q; rw [List.length_map, List.length_take, List.length_nil] at this; omega)] at h3
        refine Ev.step (fun k => by rw [crossbuckref25_Call.l0, if_pos (by omega), if_pos (by omega), if_pos (by rw [B_size]; simp only [List.length_append, List.length_cons, List.length_nil]; omega), if_pos (by omega), e]) (Ev.bind href ?_)
        have hc1 : (B ([98, 97, 116, 99, 104, 32] ++ joinS (List.map chT (List.take i l)) ++ [59, 32])).size + (B (chT l[i])).size ≤ 9223372036854775807 := by
          rw [B_size, B_size]
          simp only [List.length_append, List.length_cons, List.length_nil]
          omega
        simp only [show (⟨#[59, 32]⟩ : ByteArray) = B [59, 32] from rfl, B_add, if_pos hc1, wrS i (by omega)]
        simpa using h3
  unfold crossbuckref25_Call.f
  simp only [if_true]
  exact h l.length 0 (by omega)
/-! ### A query's line -/
def kindT : Nat → List UInt8
  | 0 => [114, 101, 97, 99, 104]
  | 1 => [108, 111, 111, 112]
  | 2 => [104, 111, 108, 101]
  | 3 => [100, 114, 111, 112]
  | 4 => [100, 101, 110, 105, 101, 100]
  | _ => [108, 101, 102, 116]
def fT (f0 f1 f2 f3 f4 f5 f6 f7 f8 : Int) : List UInt8 := fltT f0.toNat f1.toNat f2.toNat f3.toNat f4 f5.toNat f6.toNat f7.toNat f8.toNat
theorem kindT_len (m : Nat) : (kindT m).length ≤ 6 := by
  unfold kindT
  split <;> decide
theorem kindT_no (m : Nat) : (32 : UInt8) ∉ kindT m := by
  unfold kindT
  split <;> decide
structure BdF (f0 f1 f2 f3 f4 f5 f6 f7 f8 : Int) : Prop where
  a : 0 ≤ f0 ∧ f0 < 4294967296
  b : 0 ≤ f2 ∧ f2 < 4294967296
  p5 : 0 ≤ f5 ∧ f5 ≤ 65535
  p6 : 0 ≤ f6 ∧ f6 ≤ 65535
  p7 : 0 ≤ f7 ∧ f7 ≤ 65535
  p8 : 0 ≤ f8 ∧ f8 ≤ 65535
theorem fT_laws {f0 f1 f2 f3 f4 f5 f6 f7 f8 : Int} (hb : BdF f0 f1 f2 f3 f4 f5 f6 f7 f8) (h : rightF f0 f1 f2 f3 f4 f5 f6 f7 f8 = true) :
    Ev (fun k => filter_Print.f k f0 f1 f2 f3 f4 f5 f6 f7 f8) (B (fT f0 f1 f2 f3 f4 f5 f6 f7 f8)) ∧ Ev (fun k => crossbuckref04_Print.f k f0 f1 f2 f3 f4 f5 f6 f7 f8) (B (fT f0 f1 f2 f3 f4 f5 f6 f7 f8)) ∧
      Ev (fun k => filter_Parse.f k (B (fT f0 f1 f2 f3 f4 f5 f6 f7 f8))) (f0, f1, f2, f3, f4, f5, f6, f7, f8, 0) ∧ (fT f0 f1 f2 f3 f4 f5 f6 f7 f8).length ≤ 100 := by
  obtain ⟨h1, h2, h3, h4, h5, h6⟩ := rightF_iff.1 h
  obtain ⟨⟨a0, a1⟩, ⟨b0, b1⟩, ⟨c0, c1⟩, ⟨d0, d1⟩, ⟨e0, e1⟩, ⟨g0, g1⟩⟩ := hb
  have r1 := right_bd h1
  have r2 := right_bd h2
  obtain ⟨n0, rfl⟩ := Int.eq_ofNat_of_zero_le a0
  obtain ⟨n1, rfl⟩ := Int.eq_ofNat_of_zero_le r1.1
  obtain ⟨n2, rfl⟩ := Int.eq_ofNat_of_zero_le b0
  obtain ⟨n3, rfl⟩ := Int.eq_ofNat_of_zero_le r2.1
  obtain ⟨n5, rfl⟩ := Int.eq_ofNat_of_zero_le c0
  obtain ⟨n6, rfl⟩ := Int.eq_ofNat_of_zero_le d0
  obtain ⟨n7, rfl⟩ := Int.eq_ofNat_of_zero_le e0
  obtain ⟨n8, rfl⟩ := Int.eq_ofNat_of_zero_le g0
  unfold fT
  simp only [Int.toNat_natCast]
  refine ⟨Ev_plus 6 (fun k => flt_print k (by omega) (by omega) (by omega) (by omega) h3 h4 (by omega) (by omega) (by omega) (by omega)), Ev_plus 6 (fun k => flt_ref k (by omega) (by omega) (by omega) (by omega) h3 h4 (by omega) (by omega) (by omega) (by omega)), Ev_plus 5 (fun k => flt_read k (by omega) (by omega) (by omega) (by omega) h3 h4 (by omega) (by omega) (by omega) (by omega) h1 h2 (by omega) (by omega)), ?_⟩
  have l1 := preT_len n0 (y := n1) (by omega)
  have l2 := preT_len n2 (y := n3) (by omega)
  have l3 := proW_len h4
  have l4 := rngT_len (x := n5) (y := n6) (by omega) (by omega)
  have l5 := rngT_len (x := n7) (y := n8) (by omega) (by omega)
  simp only [fltT, List.length_append, List.length_cons]
  omega
/-- The words of a query behind 'ask'. -/
def qW (m : Nat) (fr tu : Int) (f0 f1 f2 f3 f4 f5 f6 f7 f8 : Int) : List UInt8 := kindT m ++ 32 :: (D fr.toNat ++ 32 :: (if m = 0 then D tu.toNat ++ 32 :: fT f0 f1 f2 f3 f4 f5 f6 f7 f8 else fT f0 f1 f2 f3 f4 f5 f6 f7 f8))
def qT (m : Nat) (fr tu : Int) (f0 f1 f2 f3 f4 f5 f6 f7 f8 : Int) : List UInt8 := [97, 115, 107] ++ 32 :: qW m fr tu f0 f1 f2 f3 f4 f5 f6 f7 f8
theorem qW_len {m : Nat} {fr tu f0 f1 f2 f3 f4 f5 f6 f7 f8 : Int} (h1 : small fr) (h2 : m = 0 → small tu) (hf : (fT f0 f1 f2 f3 f4 f5 f6 f7 f8).length ≤ 100) : (qW m fr tu f0 f1 f2 f3 f4 f5 f6 f7 f8).length ≤ 140 := by
  have l1 := kindT_len m
  have l2 : (D fr.toNat).length ≤ 8 := D_len7 (by have := h1.2; omega)
  unfold qW
  by_cases c : m = 0
  · have l3 : (D tu.toNat).length ≤ 8 := D_len7 (by have := (h2 c).2; omega)
    simp only [if_pos c, List.length_append, List.length_cons]
    omega
  · simp only [if_neg c, List.length_append, List.length_cons]
    omega
theorem q_cut {m : Nat} {fr tu f0 f1 f2 f3 f4 f5 f6 f7 f8 : Int} (h1 : small fr) (h2 : m = 0 → small tu) (hf : (fT f0 f1 f2 f3 f4 f5 f6 f7 f8).length ≤ 100) :
    strings_Cut.f (B (qT m fr tu f0 f1 f2 f3 f4 f5 f6 f7 f8)) ⟨#[32]⟩ = some (B [97, 115, 107], B (qW m fr tu f0 f1 f2 f3 f4 f5 f6 f7 f8), true) :=
  cut_mid 32 [97, 115, 107] _ (by decide) (by have := qW_len (m := m) h1 h2 hf; simp only [List.length_append, List.length_cons, List.length_nil]; omega)
/-- The five words of a filter. -/
def fW (f0 f1 f2 f3 f4 f5 f6 f7 f8 : Int) : List (List UInt8) := [preT f0.toNat f1.toNat, preT f2.toNat f3.toNat, proW f4, rngT f5.toNat f6.toNat, rngT f7.toNat f8.toNat]
theorem fW_sp (f0 f1 f2 f3 f4 f5 f6 f7 f8 : Int) : sp 32 (fT f0 f1 f2 f3 f4 f5 f6 f7 f8) = fW f0 f1 f2 f3 f4 f5 f6 f7 f8 := by
  unfold fT fltT fW
  rw [sp_mid 32 _ _ (preT_no _ _), sp_mid 32 _ _ (preT_no _ _), sp_mid 32 _ _ (proW_no _), sp_mid 32 _ _ (rngT_no _ _), sp_none 32 _ (rngT_no _ _)]
theorem fW_join {f0 f1 f2 f3 f4 f5 f6 f7 f8 : Int} (hf : (fT f0 f1 f2 f3 f4 f5 f6 f7 f8).length ≤ 100) : strings_Join.f ((fW f0 f1 f2 f3 f4 f5 f6 f7 f8).map B) ⟨#[32]⟩ = some (B (fT f0 f1 f2 f3 f4 f5 f6 f7 f8)) := by
  unfold strings_Join.f
  have e1 : Lib.join (((fW f0 f1 f2 f3 f4 f5 f6 f7 f8).map B).map (fun z : ByteArray => z.data.toList)) (⟨#[32]⟩ : ByteArray).data.toList = fT f0 f1 f2 f3 f4 f5 f6 f7 f8 := join_five _ _ _ _ _
  rw [e1, if_pos ⟨by omega, by simp [fW]⟩]
  rfl
theorem q_split0 {fr tu f0 f1 f2 f3 f4 f5 f6 f7 f8 : Int} (h1 : small fr) (h2 : small tu) (hf : (fT f0 f1 f2 f3 f4 f5 f6 f7 f8).length ≤ 100) :
    strings_Split.f (B (qW 0 fr tu f0 f1 f2 f3 f4 f5 f6 f7 f8)) ⟨#[32]⟩ = some (B (kindT 0) :: B (D fr.toNat) :: B (D tu.toNat) :: (fW f0 f1 f2 f3 f4 f5 f6 f7 f8).map B) := by
  refine (split_of (ps := kindT 0 :: D fr.toNat :: D tu.toNat :: fW f0 f1 f2 f3 f4 f5 f6 f7 f8) (by rw [B_size]; have := qW_len (m := 0) h1 (fun _ => h2) hf; omega) ?_).trans rfl
  rw [B_data]
  unfold qW
  rw [sp_mid 32 _ _ (kindT_no 0), sp_mid 32 _ _ (D_no32 _), if_pos rfl, sp_mid 32 _ _ (D_no32 _), fW_sp]
theorem q_splitS {m : Nat} (hm : m ≠ 0) {fr tu f0 f1 f2 f3 f4 f5 f6 f7 f8 : Int} (h1 : small fr) (hf : (fT f0 f1 f2 f3 f4 f5 f6 f7 f8).length ≤ 100) :
    strings_Split.f (B (qW m fr tu f0 f1 f2 f3 f4 f5 f6 f7 f8)) ⟨#[32]⟩ = some (B (kindT m) :: B (D fr.toNat) :: (fW f0 f1 f2 f3 f4 f5 f6 f7 f8).map B) := by
  refine (split_of (ps := kindT m :: D fr.toNat :: fW f0 f1 f2 f3 f4 f5 f6 f7 f8) (by rw [B_size]; have := qW_len (m := m) (tu := tu) h1 (fun h => absurd h hm) hf; omega) ?_).trans rfl
  rw [B_data]
  unfold qW
  rw [sp_mid 32 _ _ (kindT_no m), sp_mid 32 _ _ (D_no32 _), if_neg hm, fW_sp]
theorem q_join0 {fr tu f0 f1 f2 f3 f4 f5 f6 f7 f8 : Int} (h1 : small fr) (h2 : small tu) (hf : (fT f0 f1 f2 f3 f4 f5 f6 f7 f8).length ≤ 100) :
    strings_Join.f [⟨#[97, 115, 107]⟩, B (kindT 0), B (D fr.toNat), B (D tu.toNat), B (fT f0 f1 f2 f3 f4 f5 f6 f7 f8)] ⟨#[32]⟩ = some (B (qT 0 fr tu f0 f1 f2 f3 f4 f5 f6 f7 f8)) := by
  have hl := qW_len (m := 0) (f0 := f0) (f1 := f1) (f2 := f2) (f3 := f3) (f4 := f4) (f5 := f5) (f6 := f6) (f7 := f7) (f8 := f8) h1 (fun _ => h2) hf
  unfold strings_Join.f
  have e1 : Lib.join (List.map (fun z : ByteArray => z.data.toList) [⟨#[97, 115, 107]⟩, B (kindT 0), B (D fr.toNat), B (D tu.toNat), B (fT f0 f1 f2 f3 f4 f5 f6 f7 f8)]) (⟨#[32]⟩ : ByteArray).data.toList = qT 0 fr tu f0 f1 f2 f3 f4 f5 f6 f7 f8 := join_five _ _ _ _ _
  rw [e1, if_pos ⟨by simp only [qT, List.length_append, List.length_cons, List.length_nil]; omega, by simp⟩]
  rfl
theorem q_joinS {m : Nat} (hm : m ≠ 0) {fr tu f0 f1 f2 f3 f4 f5 f6 f7 f8 : Int} (h1 : small fr) (hf : (fT f0 f1 f2 f3 f4 f5 f6 f7 f8).length ≤ 100) :
    strings_Join.f [⟨#[97, 115, 107]⟩, B (kindT m), B (D fr.toNat), B (fT f0 f1 f2 f3 f4 f5 f6 f7 f8)] ⟨#[32]⟩ = some (B (qT m fr tu f0 f1 f2 f3 f4 f5 f6 f7 f8)) := by
  have hl := qW_len (m := m) (tu := tu) (f0 := f0) (f1 := f1) (f2 := f2) (f3 := f3) (f4 := f4) (f5 := f5) (f6 := f6) (f7 := f7) (f8 := f8) h1 (fun h => absurd h hm) hf
  unfold strings_Join.f
  have e1 : Lib.join (List.map (fun z : ByteArray => z.data.toList) [⟨#[97, 115, 107]⟩, B (kindT m), B (D fr.toNat), B (fT f0 f1 f2 f3 f4 f5 f6 f7 f8)]) (⟨#[32]⟩ : ByteArray).data.toList = qT m fr tu f0 f1 f2 f3 f4 f5 f6 f7 f8 := by
    unfold qT qW
    rw [if_neg hm]
    show Lib.join [[97, 115, 107], kindT m, D fr.toNat, fT f0 f1 f2 f3 f4 f5 f6 f7 f8] [32] = _
    rw [Lib.join_cons]
    simp [Lib.joinTail]
  rw [e1, if_pos ⟨by simp only [qT, List.length_append, List.length_cons, List.length_nil]; omega, by simp⟩]
  rfl
theorem kind_at {m : Nat} (h : m < 6) : rdOf ByteArray.empty [(⟨#[114, 101, 97, 99, 104]⟩ : ByteArray), ⟨#[108, 111, 111, 112]⟩, ⟨#[104, 111, 108, 101]⟩, ⟨#[100, 114, 111, 112]⟩, ⟨#[100, 101, 110, 105, 101, 100]⟩, ⟨#[108, 101, 102, 116]⟩] (m : Int) = B (kindT m) := by
  match m, h with
  | 0, _ => rfl
  | 1, _ => rfl
  | 2, _ => rfl
  | 3, _ => rfl
  | 4, _ => rfl
  | 5, _ => rfl
theorem refQ_ev {m : Nat} (hm : m < 6) {fr tu f0 f1 f2 f3 f4 f5 f6 f7 f8 : Int} (h1 : small fr) (h2 : m = 0 → small tu) (hf : (fT f0 f1 f2 f3 f4 f5 f6 f7 f8).length ≤ 100)
    (hp : Ev (fun k => crossbuckref04_Print.f k f0 f1 f2 f3 f4 f5 f6 f7 f8) (B (fT f0 f1 f2 f3 f4 f5 f6 f7 f8))) : Ev (fun k => crossbuckref25_Query.f k (m : Int) fr tu f0 f1 f2 f3 f4 f5 f6 f7 f8) (B (qT m fr tu f0 f1 f2 f3 f4 f5 f6 f7 f8)) := by
  obtain ⟨K1, hd1⟩ := digS h1
  obtain ⟨K2, hp⟩ := hp
  have l1 := kindT_len m
  have l2 : (D fr.toNat).length ≤ 8 := D_len7 (by have := h1.2; omega)
  have e1 : (⟨#[97, 115, 107, 32]⟩ : ByteArray) = B [97, 115, 107, 32] := rfl
  have e2 : (⟨#[32]⟩ : ByteArray) = B [32] := rfl
  by_cases c : m = 0
  · obtain ⟨K3, hd2⟩ := digS (h2 c)
    have l3 : (D tu.toNat).length ≤ 8 := D_len7 (by have := (h2 c).2; omega)
    subst c
    refine ⟨K1 + K2 + K3, fun k hk => ?_⟩
    dsimp only
    unfold crossbuckref25_Query.f
    rw [Option.bind_some, kind_at hm, if_pos (by omega), if_pos (by simp)]
    have g1 : crossbuckref25_n.f k fr = some (B (D fr.toNat)) := hd1 k (by omega)
    have g2 : crossbuckref25_n.f k tu = some (B (D tu.toNat)) := hd2 k (by omega)
    have g3 : crossbuckref04_Print.f k f0 f1 f2 f3 f4 f5 f6 f7 f8 = some (B (fT f0 f1 f2 f3 f4 f5 f6 f7 f8)) := hp k (by omega)
    simp only [g1, g2, g3, Option.bind_some, e1, e2, B_add, B_size, List.length_append, List.length_cons, List.length_nil]
    rw [if_pos (by omega), if_pos (by omega), if_pos (by omega), if_pos (by rfl), if_pos (by omega), if_pos (by omega), if_pos (by omega), if_pos (by omega)]
    simp [qT, qW]
  · refine ⟨K1 + K2, fun k hk => ?_⟩
    dsimp only
    unfold crossbuckref25_Query.f
    rw [Option.bind_some, kind_at hm, if_pos (by omega), if_pos (by simp; omega)]
    have g1 : crossbuckref25_n.f k fr = some (B (D fr.toNat)) := hd1 k (by omega)
    have g3 : crossbuckref04_Print.f k f0 f1 f2 f3 f4 f5 f6 f7 f8 = some (B (fT f0 f1 f2 f3 f4 f5 f6 f7 f8)) := hp k (by omega)
    simp only [g1, g3, Option.bind_some, e1, e2, B_add, B_size, List.length_append, List.length_cons, List.length_nil]
    rw [if_pos (by omega), if_pos (by omega), if_pos (by omega), if_neg (by omega), if_pos (by omega), if_pos (by omega)]
    simp [qT, qW, c]
end Go.Proofs.YtloclimoffhbhaaDoor.Scr
