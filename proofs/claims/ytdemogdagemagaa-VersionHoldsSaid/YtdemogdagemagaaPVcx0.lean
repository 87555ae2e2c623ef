-- The walks of the chain's functions (version), by hand; the library's few by the print.
import Derived.Test.YtdemogdagemagaaProg
import Derived.Below
import Derived.Deep.Draws
import Derived.Deep.AppendLies
import Derived.Maps.AppendAt
import Derived.OwnWalk
import Derived.Laws.BytesArg
import Derived.Laws.MakeOwn
import Derived.Laws.OwnMore
import Derived.Deep.OwnRows
import Derived.Tactics
import Derived.Lib.ConvBytes
import Derived.Laws.Slices
import Derived.WalkKit
import Derived.KernelRfl
import Derived.RowKit3
import Derived.Deep.LoopGhost
import Derived.Deep.QuietTactic
import Derived.BigQuiet
import Derived.WideLaws
import Derived.Deep.DeepCutAuto
import Derived.Deep.CutBlock
import Derived.Deep.RegionHeld3
import Derived.Laws.Rows
import Derived.Lib.AppendStr
import Derived.ArgAppend
import Derived.Laws.IdiomCopy
import Derived.OrdersHeld
import Derived.Laws.BitsLemmas
import Derived.RowKit
import Derived.Test.YtdemogdagemagaaMapB
import Derived.DeepKeys4
import Derived.LoopN
import Derived.Laws.PanicsMore
import Derived.Test.YtdemogdagemagaaWWords
import Derived.Test.YtdemogdagemagaaWLast
import Derived.Test.YtdemogdagemagaaWTab
import Derived.Test.YtdemogdagemagaaWFour
import Derived.Test.YtdemogdagemagaaWQPut
import Derived.Test.YtdemogdagemagaaWApart
import Derived.Test.YtdemogdagemagaaWArr
import Derived.Test.YtdemogdagemagaaWZeros
import Derived.Test.YtdemogdagemagaaWFoot
import Derived.Test.YtdemogdagemagaaWKept
import Derived.Test.YtdemogdagemagaaWShare
import Derived.Test.YtdemogdagemagaaWN
import Derived.Test.YtdemogdagemagaaWFootNe
import Derived.Test.YtdemogdagemagaaWAt
import Derived.Test.YtdemogdagemagaaWEqStruct
import Derived.Test.YtdemogdagemagaaWRepsOne
import Derived.Test.YtdemogdagemagaaWInv
import Derived.Test.YtdemogdagemagaaWInvWords
import Derived.Test.YtdemogdagemagaaWGuard
import Derived.Test.YtdemogdagemagaaWNEv
import Derived.Test.YtdemogdagemagaaWMore
import Derived.Test.YtdemogdagemagaaMapB
import Derived.Test.YtdemogdagemagaaShelf
namespace Go.Proofs.Ytdemogdagemagaa.PVc
open Go.RowKit Go.Proofs.YtdemogdagemagaaW.PrintWords Go.Proofs.YtdemogdagemagaaW.PrintLast Go.Proofs.YtdemogdagemagaaW.PrintMore
attribute [local go_sem] max2_int min2_int max_two min_two max_three min_three max_four min_four   -- for this text's walks alone
set_option linter.unusedVariables false
set_option linter.unusedSimpArgs false




def errW : Option Int → Value
  | none => .nilIface
  | some c => .iface 0 (.int .i64 c)
theorem errW_none : errW none = .nilIface := rfl
theorem errW_some (c : Int) : errW (some c) = .iface 0 (.int .i64 c) := rfl

theorem info3 : (Try.prog.info? 3).map (fun i => (i.zero, i.size, i.bytes)) = some (some (.int .i64 0), 1, 8) := by kernel_rfl
theorem info96 : (Try.prog.info? 96).map (fun i => (i.zero, i.size, i.bytes)) = some (some (.agg #[(.int .i64 0), (.int .i64 0)]), 2, 16) := by kernel_rfl
theorem info105 : (Try.prog.info? 105).map (fun i => (i.zero, i.size, i.bytes)) = some (some (.agg #[(.int .i64 0), (.string ⟨#[]⟩)]), 2, 24) := by kernel_rfl
-- the values' own types
/-! #### struct type 96 -/
structure S96 where
  f0 : Int
  f1 : Int
def z96 : S96 := ⟨(0 : Int), (0 : Int)⟩
def k96 : Kd S96 := Kd.iso (Kd.pair (Kd.int .i64) (Kd.int .i64)) (fun x : S96 => (x.f0, x.f1))
theorem k96_open {w : World} {x : S96} {cs : List Value} (h : k96.K w x cs) : cs = [.int .i64 x.f0, .int .i64 x.f1] := by
  obtain ⟨_, _, rfl, rfl, rfl⟩ := h
  exact rfl
theorem k96_openM {w : World} {base : Nat} {ok : Nat → Prop} {x : S96} {cs : List Value} (h : k96.M w base ok x cs) : cs = [.int .i64 x.f0, .int .i64 x.f1] := by
  obtain ⟨_, _, rfl, rfl, rfl⟩ := h
  exact rfl
theorem k96_mk (w : World) (x : S96)  : k96.K w x [.int .i64 x.f0, .int .i64 x.f1] := ⟨[.int .i64 x.f0], [.int .i64 x.f1], rfl, rfl, rfl⟩
theorem k96_mkM (w : World) (base : Nat) (ok : Nat → Prop) (x : S96)  : k96.M w base ok x [.int .i64 x.f0, .int .i64 x.f1] := ⟨[.int .i64 x.f0], [.int .i64 x.f1], rfl, rfl, rfl⟩
def rd_T96 (xs : List S96) (i : Int) : S96 := xs.getD i.toNat z96
theorem at_T96 {w : World} {A : Option Addr} {n : Nat} {xs : List S96} (h : Kd.C k96 w A n xs) (i : Int) (h0 : 0 ≤ i) (h1 : i < n) : ∃ ad , A = some ad ∧ w.cell? (ad.add (i.toNat * 2)) = some (.int .i64 (rd_T96 xs i).f0) ∧ w.cell? ⟨(ad.add (i.toNat * 2)).block, (ad.add (i.toNat * 2)).off + 1, none⟩ = some (.int .i64 (rd_T96 xs i).f1) := by
  obtain ⟨ad, c, e, _, hK, hc0⟩ := Kd.C_get h z96 i h0 h1
  have hc : ∀ j u, c[j]? = some u → w.cell? (ad.add (i.toNat * 2 + j)) = some u := hc0
  obtain rfl := k96_open hK
  exact ⟨ad, e, hc 0 _ rfl, by rw [← add_field _ _ 1 (by omega)]; exact hc 1 _ rfl⟩

/-! #### struct type 105 -/
structure S105 where
  f0 : Int
  f1 : ByteArray
def z105 : S105 := ⟨(0 : Int), (⟨#[]⟩ : ByteArray)⟩
def k105 : Kd S105 := Kd.iso (Kd.pair (Kd.int .i64) Kd.string) (fun x : S105 => (x.f0, x.f1))
theorem k105_open {w : World} {x : S105} {cs : List Value} (h : k105.K w x cs) : cs = [.int .i64 x.f0, .string x.f1] := by
  obtain ⟨_, _, rfl, rfl, rfl⟩ := h
  exact rfl
theorem k105_openM {w : World} {base : Nat} {ok : Nat → Prop} {x : S105} {cs : List Value} (h : k105.M w base ok x cs) : cs = [.int .i64 x.f0, .string x.f1] := by
  obtain ⟨_, _, rfl, rfl, rfl⟩ := h
  exact rfl
theorem k105_mk (w : World) (x : S105)  : k105.K w x [.int .i64 x.f0, .string x.f1] := ⟨[.int .i64 x.f0], [.string x.f1], rfl, rfl, rfl⟩
theorem k105_mkM (w : World) (base : Nat) (ok : Nat → Prop) (x : S105)  : k105.M w base ok x [.int .i64 x.f0, .string x.f1] := ⟨[.int .i64 x.f0], [.string x.f1], rfl, rfl, rfl⟩
def rd_T105 (xs : List S105) (i : Int) : S105 := xs.getD i.toNat z105
theorem at_T105 {w : World} {A : Option Addr} {n : Nat} {xs : List S105} (h : Kd.C k105 w A n xs) (i : Int) (h0 : 0 ≤ i) (h1 : i < n) : ∃ ad , A = some ad ∧ w.cell? (ad.add (i.toNat * 2)) = some (.int .i64 (rd_T105 xs i).f0) ∧ w.cell? ⟨(ad.add (i.toNat * 2)).block, (ad.add (i.toNat * 2)).off + 1, none⟩ = some (.string (rd_T105 xs i).f1) := by
  obtain ⟨ad, c, e, _, hK, hc0⟩ := Kd.C_get h z105 i h0 h1
  have hc : ∀ j u, c[j]? = some u → w.cell? (ad.add (i.toNat * 2 + j)) = some u := hc0
  obtain rfl := k105_open hK
  exact ⟨ad, e, hc 0 _ rfl, by rw [← add_field _ _ 1 (by omega)]; exact hc 1 _ rfl⟩




/-! ### slices_Index_int_int: function 54 -/
def slices_Index_int_int.l0 : Nat → List Int → Int → Int → Int → Option (Int)
  | 0, _, _, _, _ => none
  | k + 1, x0, x1, x7, x8 => if x8 < x7 then (if 0 ≤ x8 then (if x8 < (x0.length : Int) then (if x1 = (rd x0 x8) then (some x8) else (slices_Index_int_int.l0 k x0 x1 x7 (wrap64 (x8 + 1)))) else (none)) else (none)) else (some (-1))
def slices_Index_int_int.f (k : Nat) (l0 : List Int) (a1 : Int) : Option (Int) := slices_Index_int_int.l0 k l0 a1 (l0.length : Int) 0
theorem slices_Index_int_int.mono_l : ∀ k, (∀ y0 y1 y2 y3, LeO (slices_Index_int_int.l0 k y0 y1 y2 y3) (slices_Index_int_int.l0 (k + 1) y0 y1 y2 y3))
  | 0 => fun _ _ _ _ r h => by simp [slices_Index_int_int.l0] at h
  | k + 1 => by
    have ih0 := slices_Index_int_int.mono_l k
    · intro y0 y1 y2 y3
      unfold slices_Index_int_int.l0
      repeat' first
      | (with_reducible exact ih0 _ _ _ _)
      | (with_reducible exact LeO.refl _)
      | (with_reducible exact LeO.none _)
      | (with_reducible refine LeO.ite ?_ ?_)
      | (with_reducible refine LeO.bind ?_ (fun _ => ?_))
      | exact ih0 _ _ _ _
      | exact LeO.none _
      | refine LeO.ite ?_ ?_
      | refine LeO.bind ?_ (fun _ => ?_)
theorem slices_Index_int_int.mono : ∀ a0 a1 k, LeO (slices_Index_int_int.f k a0 a1) (slices_Index_int_int.f (k + 1) a0 a1) := by
  intro a0 a1 k
  have ih0 := slices_Index_int_int.mono_l k
  unfold slices_Index_int_int.f
  repeat' first
      | (with_reducible exact ih0 _ _ _ _)
      | (with_reducible exact LeO.refl _)
      | (with_reducible exact LeO.none _)
      | (with_reducible refine LeO.ite ?_ ?_)
      | (with_reducible refine LeO.bind ?_ (fun _ => ?_))
      | exact ih0 _ _ _ _
      | exact LeO.none _
      | refine LeO.ite ?_ ?_
      | refine LeO.bind ?_ (fun _ => ?_)
set_option maxHeartbeats 8000000 in
set_option maxRecDepth 100000 in
theorem slices_Index_int_int.calls (k : Nat) (A0 : Option Addr) (c0 : Nat) (l0 : List Int) (a1 : Int) (r : Int) (w : World) (hr0 : Kd.C (Kd.int .i64) w A0 l0.length l0) (hc0 : l0.length ≤ c0) (h : slices_Index_int_int.f k l0 a1 = some r) :
    Calls Try.prog 54 #[.slice A0 l0.length c0, .int .i64 a1] w fun e w' => e = .returned (.int .i64 r) ∧ Drawn0 w w' := by
  have HR0 := Aside0.mk hr0
  have HC0 := Aside0.mk hc0
  clear hr0 hc0
  have H : (slices_Index_int_int.l0 k l0 a1 (l0.length : Int) 0) = some r := h
  clear h
  have H' := Aside0.mk H
  clear H
  go_enter Try.func54, Try.ntmps54
  go_wp2
  go_loopg [8] k (fun kq v8 w' => ∃ (x8_1 : Int), v8 = .int .i64 x8_1 ∧ Aside0 (slices_Index_int_int.l0 kq l0 a1 (l0.length : Int) x8_1 = some r) ∧ Aside0 (kq ≤ k) ∧ Drawn0 w w')
  case atStart => exact ⟨(0), (by first | rfl | (simp; done) | (simp [*]; done)), H', ⟨Nat.le_refl _⟩, by repeat (first | exact Drawn0.refl _ | apply Drawn0.step)⟩
  case round =>
    clear H'
    try clear p2
    obtain ⟨x8_1, rfl, HA, HK1, ⟨m1, rfl⟩⟩ := hrel
    cases gk with
    | zero => exact absurd HA.out (by simp [slices_Index_int_int.l0])
    | succ k1 =>
      have H := HA.out
      clear HA
      simp only [slices_Index_int_int.l0] at H
      by_cases c3 : x8_1 < (l0.length : Int)
      · rw [if_pos c3] at H
        have c3b0 : decide (x8_1 < (l0.length : Int)) = true := decide_eq_true c3
        clear c3
        by_cases c4 : 0 ≤ x8_1
        · rw [if_pos c4] at H
          have c4b0 : decide (0 ≤ x8_1) = true := decide_eq_true c4
          clear c4
          by_cases c5 : x8_1 < (l0.length : Int)
          · rw [if_pos c5] at H
            have c5b0 : decide (x8_1 < (l0.length : Int)) = true := decide_eq_true c5
            clear c5
            by_cases c6 : a1 = (rd l0 x8_1)
            · rw [if_pos c6] at H
              have c6b0 : (a1 == (rd l0 x8_1)) = true := beq_iff_eq.mpr c6
              have c6b1 : (a1 != (rd l0 x8_1)) = false := bne_eq_false_iff_eq.mpr c6
              clear c6
              obtain rfl := Option.some.inj H
              have p107 : 0 ≤ (x8_1 : Int) := of_decide_eq_true (by first | (with_reducible assumption) | assumption)
              have q107 : x8_1 < (l0.length : Int) := of_decide_eq_true (by first | (with_reducible assumption) | assumption)
              obtain ⟨ad107, e107, hx107_0⟩ := Kd.at_int HR0.out x8_1 p107 q107
              cases e107
              replace p107 := eq_true p107
              replace q107 := eq_true q107
              go_wp2
              go_ret
              exact ⟨by first | rfl | (simp; done) | (simp [*]; done), by repeat (first | exact Drawn0.refl _ | apply Drawn0.step)⟩
            · rw [if_neg c6] at H
              have c6b0 : (a1 == (rd l0 x8_1)) = false := beq_eq_false_iff_ne.mpr c6
              have c6b1 : (a1 != (rd l0 x8_1)) = true := bne_iff_ne.mpr c6
              have H' := Aside0.mk H
              clear H
              have p107 : 0 ≤ (x8_1 : Int) := of_decide_eq_true (by first | (with_reducible assumption) | assumption)
              have q107 : x8_1 < (l0.length : Int) := of_decide_eq_true (by first | (with_reducible assumption) | assumption)
              obtain ⟨ad107, e107, hx107_0⟩ := Kd.at_int HR0.out x8_1 p107 q107
              cases e107
              replace p107 := eq_true p107
              replace q107 := eq_true q107
              go_wp2
              go_roundg k1
              case measure => have := HK1.out; omega
              case rel => exact ⟨(wrap64 (x8_1 + 1)), (by first | rfl | (simp; done) | (simp [*]; done)), H', ⟨by have := HK1.out; omega⟩, by repeat (first | exact Drawn0.refl _ | apply Drawn0.step)⟩
          · rw [if_neg c5] at H
            exact absurd H (by simp)
        · rw [if_neg c4] at H
          exact absurd H (by simp)
      · rw [if_neg c3] at H
        have c3b0 : decide (x8_1 < (l0.length : Int)) = false := decide_eq_false c3
        clear c3
        obtain rfl := Option.some.inj H
        go_wp2
        go_ret
        exact ⟨by first | rfl | (simp; done) | (simp [*]; done), by repeat (first | exact Drawn0.refl _ | apply Drawn0.step)⟩




/-! ### slices_Contains_int_int: function 58 -/
def slices_Contains_int_int.f (k : Nat) (l0 : List Int) (a1 : Int) : Option (Bool) := (slices_Index_int_int.f k l0 a1).bind fun t108 => (some (decide (t108 ≥ 0)))
theorem slices_Contains_int_int.mono : ∀ a0 a1 k, LeO (slices_Contains_int_int.f k a0 a1) (slices_Contains_int_int.f (k + 1) a0 a1) := by
  intro a0 a1 k
  unfold slices_Contains_int_int.f
  repeat' first
      | (with_reducible exact slices_Index_int_int.mono _ _ _)
      | (with_reducible exact LeO.refl _)
      | (with_reducible exact LeO.none _)
      | (with_reducible refine LeO.ite ?_ ?_)
      | (with_reducible refine LeO.bind ?_ (fun _ => ?_))
      | exact slices_Index_int_int.mono _ _ _
      | exact LeO.none _
      | refine LeO.ite ?_ ?_
      | refine LeO.bind ?_ (fun _ => ?_)
set_option maxHeartbeats 8000000 in
set_option maxRecDepth 100000 in
theorem slices_Contains_int_int.calls (k : Nat) (A0 : Option Addr) (c0 : Nat) (l0 : List Int) (a1 : Int) (r : Bool) (w : World) (hr0 : Kd.C (Kd.int .i64) w A0 l0.length l0) (hc0 : l0.length ≤ c0) (h : slices_Contains_int_int.f k l0 a1 = some r) :
    Calls Try.prog 58 #[.slice A0 l0.length c0, .int .i64 a1] w fun e w' => e = .returned (.bool r) ∧ Drawn0 w w' := by
  have HR0 := Aside0.mk hr0
  have HC0 := Aside0.mk hc0
  clear hr0 hc0
  have H : ((slices_Index_int_int.f k l0 a1).bind fun t108 => (some (decide (t108 ≥ 0)))) = some r := h
  clear h
  replace H := Option.bind_eq_some_iff.mp H
  obtain ⟨t108, A30, H⟩ := H
  replace H : (some (decide (t108 ≥ 0))) = some r := H
  have A3 := Aside0.mk A30
  clear A30
  obtain rfl := Option.some.inj H
  go_enter Try.func58, Try.ntmps58
  go_wp2_with (first | ((with_reducible refine gate_callee (f := 54) rfl ?_); refine goesL_ (some 7) rfl rfl Try.func54 (by kernel_rfl) rfl #[.slice A0 l0.length c0, .int .i64 a1] rfl (by (try simp only [List.map_toArray, List.map_cons, List.map_nil]); first | done | rfl | (simp only [List.length_drop, List.length_take]; rfl)) ?_; (with_reducible refine (slices_Index_int_int.calls k _ _ l0 a1 t108 _ ?side1 ?side2 A3.out).mono ?_); (case side1 => repeat (first | exact HR0.out | (with_reducible refine Kd.C_alloc ?_ _) | (with_reducible refine Kd.C_drewN ?_ _) | (with_reducible refine Kd.C_drew ?_))); (case side2 => exact HC0.out); rintro e w' ⟨rfl, ⟨nd, rfl⟩⟩; refine ⟨_, rfl, ?_⟩))
  go_ret
  exact ⟨by first | rfl | (simp; done) | (simp [*]; done), by repeat (first | exact Drawn0.refl _ | apply Drawn0.step)⟩



def View (w : World) (g : Nat) (its : List S96) (ps : List Int) : Prop := ∃ A0 c0 A1 c1, w.heap[g]? = some (.cells #[.slice A0 its.length c0, .slice A1 ps.length c1] 99 (0, 0)) ∧ its.length ≤ c0 ∧ ps.length ≤ c1 ∧ Kd.C k96 w A0 its.length its ∧ Kd.C (Kd.int .i64) w A1 ps.length ps
theorem View.below {w w1 : World} {g : Nat} {its : List S96} {ps : List Int} (h : View w g its ps) (hb : Below w.heap.size w w1) : View w1 g its ps := by
  obtain ⟨A0, c0, A1, c1, h1, h2, h3, h4, h5⟩ := h
  exact ⟨A0, c0, A1, c1, blk_below h1 hb, h2, h3, Kd.C_below h4 hb, Kd.C_below h5 hb⟩
theorem cell99_0 {W : World} {g : Nat} {v0 v1 : Value} (h : W.heap[g]? = some (.cells #[v0, v1] 99 (0, 0))) : W.cell? ⟨g, 0, none⟩ = some v0 := (blk_cell h 0).trans rfl
theorem cell99_1 {W : World} {g : Nat} {v0 v1 : Value} (h : W.heap[g]? = some (.cells #[v0, v1] 99 (0, 0))) : W.cell? ⟨g, 1, none⟩ = some v1 := (blk_cell h 1).trans rfl
def lastE (its : List S96) : Int := (rd_T96 its ((its.length : Int) - 1)).f0
def nowV (its : List S96) : Int := (rd_T96 its ((its.length : Int) - 1)).f1
theorem wrap64_id (n : Int) (h₀ : -9223372036854775808 ≤ n) (h₁ : n < 9223372036854775808) : wrap64 n = n := by unfold wrap64; omega
theorem w64_len {n : Nat} (h0 : 0 < n) (h1 : n ≤ 1000000) : IntKind.i64.wrap ((n : Int) - 1) = (n : Int) - 1 := (i64_w _).trans (wrap64_id _ (by omega) (by omega))
set_option maxHeartbeats 8000000 in
set_option maxRecDepth 100000 in
theorem last_.calls (g : Nat) (its : List S96) (ps : List Int) (w : World) (hV : View w g its ps) (h0 : 0 < its.length) (h1 : its.length ≤ 1000000) :
    Calls Try.prog 51 #[.pointer (some ⟨g, 0, none⟩)] w fun e w' => e = .returned (.int .i64 (lastE its)) ∧ Below w.heap.size w w' := by
  have HB := Aside0.mk (Below.refl w.heap.size w)
  obtain ⟨A0, c0, A1, c1, hb, hc0, hc1, hr0, hr1⟩ := hV
  have hz0 := cell99_0 hb
  have hz1 := cell99_1 hb
  obtain ⟨ji, hj⟩ : ∃ j : Int, j = (its.length : Int) - 1 := ⟨_, rfl⟩
  have hji : IntKind.i64.wrap ((its.length : Int) - 1) = ji := by rw [hj]; exact w64_len h0 h1
  have p : 0 ≤ ji := by omega
  have q : ji < (its.length : Int) := by omega
  unfold lastE
  rw [← hj]
  clear hj
  obtain ⟨ad, e1, hx0, hx1⟩ := at_T96 hr0 ji p q
  cases e1
  clear h0 h1 hb hc0 hc1 hr0 hr1
  replace p := eq_true p
  replace q := eq_true q
  go_enter Try.func51, Try.ntmps51
  go_wp2
  repeat (go_quiet (fail); try go_wp2)
  go_ret
  exact ⟨rfl, by repeat (first | (with_reducible first | exact HB.out | apply below_alloc | apply pw_below_drewN | apply below_drew1) | exact HB.out)⟩


def atGo (its : List S96) (e : Int) : Nat → Int
  | 0 => -1
  | i + 1 => if (rd_T96 its (i : Int)).f0 ≤ e then (i : Int) else atGo its e i
def atE (its : List S96) (e : Int) : Int := atGo its e its.length
set_option maxHeartbeats 8000000 in
set_option maxRecDepth 100000 in
theorem at_.calls (g : Nat) (its : List S96) (ps : List Int) (a1 r : Int) (w : World) (hV : View w g its ps) (h0 : 0 < its.length) (h1 : its.length ≤ 1000000) (h : atE its a1 = r) :
    Calls Try.prog 57 #[.pointer (some ⟨g, 0, none⟩), .int .i64 a1] w fun e w' => e = .returned (.int .i64 r) ∧ Below w.heap.size w w' := by
  have HB := Aside0.mk (Below.refl w.heap.size w)
  obtain ⟨A0, c0, A1, c1, hb, hc0, hc1, hr0, hr1⟩ := hV
  have hz0 := cell99_0 hb
  have hz1 := cell99_1 hb
  obtain ⟨ji, hj⟩ : ∃ j : Int, j = (its.length : Int) - 1 := ⟨_, rfl⟩
  have hji : IntKind.i64.wrap ((its.length : Int) - 1) = ji := by rw [hj]; exact w64_len h0 h1
  have HJ := Aside0.mk hj
  have HR0 := Aside0.mk hr0
  have HA := Aside0.mk h
  have H1 := Aside0.mk h1
  clear hj h h0 h1 hb hc0 hc1 hr0 hr1
  go_enter Try.func57, Try.ntmps57
  go_wp2
  go_loopg [5] its.length (fun kq v5 w' => ∃ x5 : Int, v5 = .int .i64 x5 ∧ Aside0 (x5 = (kq : Int) - 1) ∧ Aside0 (kq ≤ its.length) ∧ Aside0 (atGo its a1 kq = r) ∧ Drawn0 w w')
  case atStart => exact ⟨ji, rfl, HJ, ⟨Nat.le_refl _⟩, HA, by repeat (first | exact Drawn0.refl _ | apply Drawn0.step)⟩
  case round =>
    clear HA HJ hji
    obtain ⟨x5, rfl, HX, HK, HA, ⟨m1, rfl⟩⟩ := hrel
    cases gk with
    | zero =>
      have hx := HX.out
      have c : decide (0 ≤ x5) = false := decide_eq_false (by omega)
      have HE : -1 = r := HA.out
      subst HE
      clear hx HX HA
      go_wp2
      go_ret
      exact ⟨rfl, by repeat (first | (with_reducible first | exact HB.out | apply below_alloc | apply pw_below_drewN | apply below_drew1) | exact HB.out)⟩
    | succ k =>
      have hx : x5 = (k : Int) := by have := HX.out; omega
      have hk := HK.out
      have c : decide (0 ≤ x5) = true := decide_eq_true (by omega)
      have p : 0 ≤ x5 := by omega
      have q : x5 < (its.length : Int) := by omega
      have HA2 : (if (rd_T96 its x5).f0 ≤ a1 then x5 else atGo its a1 k) = r := by rw [hx]; exact HA.out
      have HX2 := Aside0.mk hx
      obtain ⟨ad, e1, hx0, hx1⟩ := at_T96 HR0.out x5 p q
      cases e1
      replace p := eq_true p
      replace q := eq_true q
      clear hx HX HA hk
      by_cases c2 : (rd_T96 its x5).f0 ≤ a1
      · have c2b := decide_eq_true c2
        rw [if_pos c2] at HA2
        clear c2
        subst HA2
        go_wp2
        go_ret
        exact ⟨rfl, by repeat (first | (with_reducible first | exact HB.out | apply below_alloc | apply pw_below_drewN | apply below_drew1) | exact HB.out)⟩
      · have c2b := decide_eq_false c2
        rw [if_neg c2] at HA2
        clear c2
        have HA3 := Aside0.mk HA2
        clear HA2
        go_wp2
        go_roundg k
        case measure => omega
        case rel => exact ⟨_, rfl, ⟨by have := HX2.out; have := HK.out; have := H1.out; rw [wrap64_id _ (by omega) (by omega)]; omega⟩, ⟨by have := HK.out; omega⟩, HA3, by repeat (first | exact Drawn0.refl _ | apply Drawn0.step)⟩


set_option maxHeartbeats 8000000 in
set_option maxRecDepth 100000 in
theorem now_.calls (g : Nat) (its : List S96) (ps : List Int) (w : World) (hV : View w g its ps) (h0 : 0 < its.length) (h1 : its.length ≤ 1000000) :
    Calls Try.prog 36 #[.pointer (some ⟨g, 0, none⟩)] w fun e w' => e = .returned (.int .i64 (nowV its)) ∧ Below w.heap.size w w' := by
  have HB := Aside0.mk (Below.refl w.heap.size w)
  obtain ⟨A0, c0, A1, c1, hb, hc0, hc1, hr0, hr1⟩ := hV
  have hz0 := cell99_0 hb
  have hz1 := cell99_1 hb
  obtain ⟨ji, hj⟩ : ∃ j : Int, j = (its.length : Int) - 1 := ⟨_, rfl⟩
  have hji : IntKind.i64.wrap ((its.length : Int) - 1) = ji := by rw [hj]; exact w64_len h0 h1
  have p : 0 ≤ ji := by omega
  have q : ji < (its.length : Int) := by omega
  unfold nowV
  rw [← hj]
  clear hj
  obtain ⟨ad, e1, hx0, hx1⟩ := at_T96 hr0 ji p q
  cases e1
  clear h0 h1 hb hc0 hc1 hr0 hr1
  replace p := eq_true p
  replace q := eq_true q
  go_enter Try.func36, Try.ntmps36
  go_wp2
  repeat (go_quiet (fail); try go_wp2)
  go_ret
  exact ⟨rfl, by repeat (first | (with_reducible first | exact HB.out | apply below_alloc | apply pw_below_drewN | apply below_drew1) | exact HB.out)⟩
set_option maxHeartbeats 8000000 in
theorem live_.calls (g : Nat) (its : List S96) (ps : List Int) (w : World) (hV : View w g its ps) :
    Calls Try.prog 33 #[.pointer (some ⟨g, 0, none⟩)] w fun e w' => e = .returned (.int .i64 (its.length : Int)) ∧ Below w.heap.size w w' := by
  have HB := Aside0.mk (Below.refl w.heap.size w)
  obtain ⟨A0, c0, A1, c1, hb, hc0, hc1, hr0, hr1⟩ := hV
  have hz0 := cell99_0 hb
  have hz1 := cell99_1 hb
  clear hb hc0 hc1 hr0 hr1
  go_enter Try.func33, Try.ntmps33
  go_wp2
  go_ret
  exact ⟨rfl, by repeat (first | (with_reducible first | exact HB.out | apply below_alloc | apply pw_below_drewN | apply below_drew1) | exact HB.out)⟩
set_option maxHeartbeats 8000000 in
theorem pins_.calls (g : Nat) (its : List S96) (ps : List Int) (w : World) (hV : View w g its ps) :
    Calls Try.prog 35 #[.pointer (some ⟨g, 0, none⟩)] w fun e w' => e = .returned (.int .i64 (ps.length : Int)) ∧ Below w.heap.size w w' := by
  have HB := Aside0.mk (Below.refl w.heap.size w)
  obtain ⟨A0, c0, A1, c1, hb, hc0, hc1, hr0, hr1⟩ := hV
  have hz0 := cell99_0 hb
  have hz1 := cell99_1 hb
  clear hb hc0 hc1 hr0 hr1
  go_enter Try.func35, Try.ntmps35
  go_wp2
  go_ret
  exact ⟨rfl, by repeat (first | (with_reducible first | exact HB.out | apply below_alloc | apply pw_below_drewN | apply below_drew1) | exact HB.out)⟩


theorem View.drewN {w : World} {g : Nat} {its : List S96} {ps : List Int} (h : View w g its ps) (m : Nat) : View (w.drewN m) g its ps := h.below (pw_below_drewN (Below.refl _ _) m)
theorem View.drew {w : World} {g : Nat} {its : List S96} {ps : List Int} (h : View w g its ps) : View w.drew g its ps := h.drewN 1
theorem View.c0 {w : World} {g : Nat} {its : List S96} {ps : List Int} (h : View w g its ps) : ∃ A0 c0, w.cell? ⟨g, 0, none⟩ = some (.slice A0 its.length c0) ∧ its.length ≤ c0 ∧ Kd.C k96 w A0 its.length its := by
  obtain ⟨A0, c0, A1, c1, hb, hc0, hc1, hr0, hr1⟩ := h
  exact ⟨A0, c0, cell99_0 hb, hc0, hr0⟩
theorem View.c1 {w : World} {g : Nat} {its : List S96} {ps : List Int} (h : View w g its ps) : ∃ A1 c1, w.cell? ⟨g, 1, none⟩ = some (.slice A1 ps.length c1) ∧ ps.length ≤ c1 ∧ Kd.C (Kd.int .i64) w A1 ps.length ps := by
  obtain ⟨A0, c0, A1, c1, hb, hc0, hc1, hr0, hr1⟩ := h
  exact ⟨A1, c1, cell99_1 hb, hc1, hr1⟩
/-- The place of the first that is a. -/
def idxE : List Int → Int → Nat → Int
  | [], _, _ => -1
  | x :: l, a, i => if a = x then (i : Int) else idxE l a (i + 1)
theorem index_l (ps : List Int) (a : Int) (hl : ps.length ≤ 1000000) : ∀ (l : List Int) (i k : Nat), ps.drop i = l → l.length < k → slices_Index_int_int.l0 k ps a (ps.length : Int) (i : Int) = some (idxE l a i) := by
  intro l
  induction l with
  | nil =>
    intro i k hd hk
    obtain ⟨k, rfl⟩ : ∃ m, k = m + 1 := ⟨k - 1, by omega⟩
    have : ps.length ≤ i := by simpa using hd
    have h2 : ¬ (i : Int) < (ps.length : Int) := by omega
    simp only [slices_Index_int_int.l0, if_neg h2, idxE]
  | cons x l ih =>
    intro i k hd hk
    obtain ⟨k, rfl⟩ : ∃ m, k = m + 1 := ⟨k - 1, by omega⟩
    have hlt : i < ps.length := by
      apply Classical.byContradiction
      intro hc
      rw [List.drop_eq_nil_of_le (by omega)] at hd
      cases hd
    have h2 : (i : Int) < (ps.length : Int) := by omega
    rw [List.drop_eq_getElem_cons hlt] at hd
    injection hd with hx hd
    have hr : rd ps (i : Int) = x := by rw [← hx]; simp [rd, List.getD, hlt]
    have hw : wrap64 ((i : Int) + 1) = ((i + 1 : Nat) : Int) := by rw [wrap64_id _ (by omega) (by omega)]; simp
    simp only [slices_Index_int_int.l0, if_pos h2, hr, idxE, hw]
    rw [if_pos (show 0 ≤ (i : Int) by omega)]
    by_cases hax : a = x
    · rw [if_pos hax, if_pos hax]
    · rw [if_neg hax, if_neg hax]
      exact ih (i + 1) k hd (by simp at hk; omega)
theorem index_f (ps : List Int) (a : Int) (hl : ps.length ≤ 1000000) : slices_Index_int_int.f (ps.length + 1) ps a = some (idxE ps a 0) := index_l ps a hl ps 0 _ rfl (by omega)
theorem idxE_ge (a : Int) : ∀ (l : List Int) (i : Nat), (0 ≤ idxE l a i) ↔ a ∈ l := by
  intro l
  induction l with
  | nil => intro i; simp [idxE]
  | cons x l ih =>
    intro i
    by_cases h : a = x
    · simp [idxE, h]
    · simp [idxE, h, ih]
theorem contains_f (ps : List Int) (a : Int) (hl : ps.length ≤ 1000000) : slices_Contains_int_int.f (ps.length + 1) ps a = some (decide (a ∈ ps)) := by
  unfold slices_Contains_int_int.f
  rw [index_f ps a hl, Option.bind_some]
  congr 1
  exact decide_eq_decide.2 (idxE_ge a ps 0)
def hasE (its : List S96) (ps : List Int) (a : Int) : Bool := decide (lastE its ≤ a) || decide (a ∈ ps)
set_option maxHeartbeats 8000000 in
set_option maxRecDepth 100000 in
theorem has_.calls (g : Nat) (its : List S96) (ps : List Int) (a1 : Int) (r : Bool) (w : World) (hV : View w g its ps) (h0 : 0 < its.length) (h1 : its.length ≤ 1000000) (h2 : ps.length ≤ 1000000) (h : hasE its ps a1 = r) :
    Calls Try.prog 38 #[.pointer (some ⟨g, 0, none⟩), .int .i64 a1] w fun e w' => e = .returned (.bool r) ∧ Below w.heap.size w w' := by
  have HB := Aside0.mk (Below.refl w.heap.size w)
  have HV := Aside0.mk hV
  clear hV
  by_cases c : lastE its ≤ a1
  · have cb := decide_eq_true c
    have hr : r = true := by rw [← h]; simp [hasE, cb]
    subst hr
    clear h c
    go_enter Try.func38, Try.ntmps38
    go_wp2_with (first
      | (go_at_call 51; (with_reducible refine (last_.calls g its ps _ ?side1 h0 h1).mono ?_); (case side1 => repeat (first | exact HV.out | apply View.drewN | apply View.drew)); rintro e w8 ⟨rfl, hb8⟩; have HB8 := Aside0.mk (below_step HB.out hb8); clear hb8))
    go_ret
    exact ⟨rfl, by repeat (first | (with_reducible first | exact HB8.out | apply below_alloc | apply pw_below_drewN | apply below_drew1) | exact HB8.out)⟩
  · have cb := decide_eq_false c
    have hr : r = decide (a1 ∈ ps) := by rw [← h]; simp [hasE, cb]
    subst hr
    clear h c
    go_enter Try.func38, Try.ntmps38
    go_wp2_with (first
      | (go_at_call 51; (with_reducible refine (last_.calls g its ps _ ?side1 h0 h1).mono ?_); (case side1 => repeat (first | exact HV.out | apply View.drewN | apply View.drew)); rintro e w8 ⟨rfl, hb8⟩; have HB8 := Aside0.mk (below_step HB.out hb8); obtain ⟨A1, c1, hz1, hc1, hr1⟩ := (HV.out.below hb8).c1; have HR1 := Aside0.mk hr1; clear hb8 hr1)
      | (go_at_call 58; (with_reducible refine (slices_Contains_int_int.calls (ps.length + 1) _ _ ps a1 _ _ ?side1 hc1 (contains_f ps a1 h2)).mono ?_); (case side1 => repeat (first | exact HR1.out | (with_reducible refine Kd.C_drewN ?_ _) | (with_reducible refine Kd.C_drew ?_))); rintro e w' ⟨rfl, ⟨nd, rfl⟩⟩))
    go_ret
    exact ⟨rfl, by repeat (first | (with_reducible first | exact HB8.out | apply below_alloc | apply pw_below_drewN | apply below_drew1) | exact HB8.out)⟩


theorem atGo_lt (its : List S96) (e : Int) : ∀ n, atGo its e n < n
  | 0 => by simp [atGo]
  | n + 1 => by
    have := atGo_lt its e n
    unfold atGo
    split <;> omega
def getE (its : List S96) (ps : List Int) (a : Int) : Int × Bool := if hasE its ps a = true then (if atE its a < 0 then (0, false) else ((rd_T96 its (atE its a)).f1, true)) else (0, false)
set_option maxHeartbeats 8000000 in
set_option maxRecDepth 100000 in
theorem get_.calls (g : Nat) (its : List S96) (ps : List Int) (a1 : Int) (r1 : Int) (r2 : Bool) (w : World) (hV : View w g its ps) (h0 : 0 < its.length) (h1 : its.length ≤ 1000000) (h2 : ps.length ≤ 1000000) (h : getE its ps a1 = (r1, r2)) :
    Calls Try.prog 37 #[.pointer (some ⟨g, 0, none⟩), .int .i64 a1] w fun e w' => e = .returned (.tuple #[.int .i64 r1, .bool r2]) ∧ Below w.heap.size w w' := by
  have HB := Aside0.mk (Below.refl w.heap.size w)
  have HV := Aside0.mk hV
  clear hV
  unfold getE at h
  by_cases c : hasE its ps a1 = true
  · rw [if_pos c] at h
    have c1 := Aside0.mk c
    by_cases cn : atE its a1 < 0
    · rw [if_pos cn] at h
      obtain ⟨rfl, rfl⟩ := Prod.mk.inj h
      have cb := decide_eq_true cn
      generalize hat : atE its a1 = ai at cb
      have A1 := Aside0.mk hat
      clear c cn h hat
      go_enter Try.func37, Try.ntmps37
      go_wp2_with (first
        | (go_at_call 38; (with_reducible refine (has_.calls g its ps a1 true _ ?side1 h0 h1 h2 c1.out).mono ?_); (case side1 => repeat (first | exact HV.out | apply View.drewN | apply View.drew)); rintro e w8 ⟨rfl, hb8⟩; have HB8 := Aside0.mk (below_step HB.out hb8); have HV8 := Aside0.mk (HV.out.below hb8); clear hb8)
        | (go_at_call 57; (with_reducible refine (at_.calls g its ps a1 ai _ ?side1 h0 h1 A1.out).mono ?_); (case side1 => repeat (first | exact HV8.out | apply View.drewN | apply View.drew)); rintro e w9 ⟨rfl, hb9⟩; have HB9 := Aside0.mk (below_step HB8.out hb9); clear hb9))
      refine bodyPost_ret (results_tmp2 rfl _ _ _) rfl ?_
      exact ⟨rfl, by repeat (first | (with_reducible first | exact HB9.out | apply below_alloc | apply pw_below_drewN | apply below_drew1) | exact HB9.out)⟩
    · rw [if_neg cn] at h
      obtain ⟨rfl, rfl⟩ := Prod.mk.inj h
      have cb := decide_eq_false cn
      have hlt : atE its a1 < (its.length : Int) := atGo_lt its a1 _
      generalize hat : atE its a1 = ai at *
      have A1 := Aside0.mk hat
      have hp : 0 ≤ ai := by omega
      have p := eq_true hp
      have q := eq_true hlt
      have HLT := Aside0.mk hlt
      have HP := Aside0.mk hp
      clear c cn h hat hlt hp
      go_enter Try.func37, Try.ntmps37
      go_wp2_with (first
        | (go_at_call 38; (with_reducible refine (has_.calls g its ps a1 true _ ?side1 h0 h1 h2 c1.out).mono ?_); (case side1 => repeat (first | exact HV.out | apply View.drewN | apply View.drew)); rintro e w8 ⟨rfl, hb8⟩; have HB8 := Aside0.mk (below_step HB.out hb8); have HV8 := Aside0.mk (HV.out.below hb8); clear hb8)
        | (go_at_call 57; (with_reducible refine (at_.calls g its ps a1 ai _ ?side1 h0 h1 A1.out).mono ?_); (case side1 => repeat (first | exact HV8.out | apply View.drewN | apply View.drew)); rintro e w9 ⟨rfl, hb9⟩; have HB9 := Aside0.mk (below_step HB8.out hb9); obtain ⟨A0, c0, hz0, hc0, hr0⟩ := (HV8.out.below hb9).c0; obtain ⟨ad, e1, hx0, hx1⟩ := at_T96 hr0 ai HP.out HLT.out; cases e1; clear hb9 hr0))
      refine bodyPost_ret (results_tmp2 rfl _ _ _) rfl ?_
      exact ⟨rfl, by repeat (first | (with_reducible first | exact HB9.out | apply below_alloc | apply pw_below_drewN | apply below_drew1) | exact HB9.out)⟩
  · rw [if_neg c] at h
    obtain ⟨rfl, rfl⟩ := Prod.mk.inj h
    have c1 := Aside0.mk (show hasE its ps a1 = false by simpa using c)
    clear c h
    go_enter Try.func37, Try.ntmps37
    go_wp2_with (first
      | (go_at_call 38; (with_reducible refine (has_.calls g its ps a1 false _ ?side1 h0 h1 h2 c1.out).mono ?_); (case side1 => repeat (first | exact HV.out | apply View.drewN | apply View.drew)); rintro e w8 ⟨rfl, hb8⟩; have HB8 := Aside0.mk (below_step HB.out hb8); clear hb8))
    refine bodyPost_ret (results_tmp2 rfl _ _ _) rfl ?_
    exact ⟨rfl, by repeat (first | (with_reducible first | exact HB8.out | apply below_alloc | apply pw_below_drewN | apply below_drew1) | exact HB8.out)⟩


/-- A chain of the call's own: its box at g, its rows; all in S. -/
def Chn (w0 w : World) (S : Nat → Prop) (g : Nat) (its : List S96) (ps : List Int) : Prop := ∃ v0 v1, w.heap[g]? = some (.cells #[v0, v1] 99 (0, 0)) ∧ w0.heap.size ≤ g ∧ S g ∧ k96.R 96 w w0.heap.size S v0 its ∧ (Kd.int .i64).R 3 w w0.heap.size S v1 ps
theorem Chn.view {w0 w : World} {S : Nat → Prop} {g : Nat} {its : List S96} {ps : List Int} (h : Chn w0 w S g its ps) : View w g its ps := by
  obtain ⟨v0, v1, hb, hg, hS, h0, h1⟩ := h
  obtain ⟨A0, c0, rfl, hc0, hr0⟩ := Kd.R_reads h0
  obtain ⟨A1, c1, rfl, hc1, hr1⟩ := Kd.R_reads h1
  exact ⟨A0, c0, A1, c1, hb, hc0, hc1, hr0, hr1⟩
theorem Chn.kept {w0 w w1 : World} {S T : Nat → Prop} {g : Nat} {its : List S96} {ps : List Int} (h : Chn w0 w S g its ps) (hk : Kept w w1 T) (hn : ∀ k, S k → ¬ T k) : Chn w0 w1 S g its ps := by
  obtain ⟨v0, v1, hb, hg, hS, h0, h1⟩ := h
  exact ⟨v0, v1, blk_kept hb hk (hn g hS), hg, hS, Kd.R_step h0 (fun k hk1 hlt => hk.2 k hlt (hn k hk1)), Kd.R_step h1 (fun k hk1 hlt => hk.2 k hlt (hn k hk1))⟩
theorem Chn.below {w0 w w1 : World} {S : Nat → Prop} {g : Nat} {its : List S96} {ps : List Int} (h : Chn w0 w S g its ps) (hb : Below w.heap.size w w1) : Chn w0 w1 S g its ps := h.kept (Kept.of_below hb (fun _ => False)) (fun _ _ h => h)
theorem Chn.mono {w0 w : World} {S T : Nat → Prop} {g : Nat} {its : List S96} {ps : List Int} (h : Chn w0 w S g its ps) (hs : ∀ k, S k → T k) : Chn w0 w T g its ps := by
  obtain ⟨v0, v1, hb, hg, hS, h0, h1⟩ := h
  exact ⟨v0, v1, hb, hg, hs g hS, Kd.R_mono h0 hs, Kd.R_mono h1 hs⟩
/-- The chain's rows lie in w: what is new is not in it. -/
theorem Chn.bound {w0 w : World} {S : Nat → Prop} {g : Nat} {its : List S96} {ps : List Int} (h : Chn w0 w S g its ps) : Chn w0 w (fun k => S k ∧ w0.heap.size ≤ k ∧ k < w.heap.size) g its ps := by
  obtain ⟨v0, v1, hb, hg, hS, h0, h1⟩ := h
  exact ⟨v0, v1, hb, hg, ⟨hS, hg, blk_lt hb⟩, Kd.R_mono (Kd.R_bound h0) (fun k hk => ⟨hk.1, hk.2.1, hk.2.2.1⟩), Kd.R_mono (Kd.R_bound h1) (fun k hk => ⟨hk.1, hk.2.1, hk.2.2.1⟩)⟩
set_option maxHeartbeats 8000000 in
set_option maxRecDepth 100000 in
theorem new_.calls (a0 : Int) (w : World) :
    Calls Try.prog 25 #[.int .i64 a0] w fun e w' => ∃ g, e = .returned (.pointer (some ⟨g, 0, none⟩)) ∧ Chn w w' (fun k => w.heap.size ≤ k) g [⟨0, a0⟩] [] ∧ Below w.heap.size w w' := by
  have HB := Aside0.mk (Below.refl w.heap.size w)
  go_enter Try.func25, Try.ntmps25
  go_wp2
  go_ret
  refine ⟨w.heap.size + 1, rfl, ⟨_, _, by have := blk_new (w.alloc (.cells #[.int .i64 0, .int .i64 a0] 96)) (.cells #[.slice (some ⟨w.heap.size, 0, none⟩) 1 1, .slice none 0 0] 99); simpa using this, by omega, by show w.heap.size ≤ w.heap.size + 1; omega, ?_, Kd.R_nil _ _ _ _ _⟩, below_alloc (below_alloc (Below.refl _ _) _) _⟩
  refine Kd.R_below (w := w.alloc (.cells #[.int .i64 0, .int .i64 a0] 96)) ?_ (below_alloc (Below.refl _ _) _)
  have ho := World.ownsRow_lit (base := w.heap.size) (e := 96) (size := 2) w #[.int .i64 0, .int .i64 a0] 1 (Nat.le_refl _) (by simp [maxLen]) (by simp)
  refine ⟨fun k hk => ?_, [.int .i64 0, .int .i64 a0], ho, Reps.c2 (k96_mkM _ _ _ ⟨0, a0⟩) (Reps.none _ 2)⟩
  have : w.heap.size = k := by simpa [Value.ownBlock] using hk
  omega


/-- What a call that writes a chain leaves. -/
def Done (w0 w w' : World) (S : Nat → Prop) (g : Nat) (its : List S96) (ps : List Int) : Prop := Chn w0 w' (fun k => S k ∨ w.heap.size ≤ k) g its ps ∧ Below w0.heap.size w0 w' ∧ Kept w w' S
theorem Done.of_below {w0 w w' : World} {S : Nat → Prop} {g : Nat} {its : List S96} {ps : List Int} (hc : Chn w0 w S g its ps) (hB : Below w0.heap.size w0 w) (hb : Below w.heap.size w w') : Done w0 w w' S g its ps :=
  ⟨(hc.below hb).mono (fun _ h => .inl h), below_step hB hb, Kept.of_below hb S⟩
def pinE (its : List S96) (ps : List Int) (a : Int) : Int × List Int := if 0 ≤ a ∧ hasE its ps a = true then (0, ps ++ [a]) else (3, ps)
set_option maxHeartbeats 8000000 in
set_option maxRecDepth 100000 in
theorem pin_.calls (g : Nat) (S : Nat → Prop) (its : List S96) (ps : List Int) (a1 r : Int) (ps2 : List Int) (w0 w : World) (hC : Chn w0 w S g its ps) (hB : Below w0.heap.size w0 w) (h0 : 0 < its.length) (h1 : its.length ≤ 1000000) (h2 : ps.length < 1000000) (h : pinE its ps a1 = (r, ps2)) :
    Calls Try.prog 29 #[.pointer (some ⟨g, 0, none⟩), .int .i64 a1] w fun e w' => e = .returned (.int .i64 r) ∧ Done w0 w w' S g its ps2 := by
  unfold pinE at h
  have HV := Aside0.mk hC.view
  have HB := Aside0.mk (Below.refl w.heap.size w)
  have HB0 := Aside0.mk hB
  by_cases ca : 0 ≤ a1
  · by_cases ch : hasE its ps a1 = true
    · rw [if_pos ⟨ca, ch⟩] at h
      obtain ⟨rfl, rfl⟩ := Prod.mk.inj h
      clear h
      have cb : decide (a1 < 0) = false := decide_eq_false (by omega)
      have CH := Aside0.mk ch
      clear ca ch
      obtain ⟨v0, v1, hb, hg, hS, hr0, hr1⟩ := hC
      obtain ⟨A1, c1, rfl, hc1, hrr⟩ := Kd.R_reads hr1
      have BK := Aside0.mk hb
      have HR0 := Aside0.mk hr0
      have HR1 := Aside0.mk hr1
      have HS := Aside0.mk hS
      have HG := Aside0.mk hg
      have HL := Aside0.mk h2
      clear hb hg hS hr0 hr1 hc1 hrr hB h2
      go_enter Try.func29, Try.ntmps29
      go_wp2_with (first
        | (go_at_call 38; (with_reducible refine (has_.calls g its ps a1 true _ ?side1 h0 h1 (Nat.le_of_lt HL.out) CH.out).mono ?_); (case side1 => repeat (first | exact HV.out | apply View.drewN | apply View.drew)); rintro e w8 ⟨rfl, hb8⟩; have HB8 := Aside0.mk (below_step HB.out hb8); have BK8 := Aside0.mk (blk_below BK.out hb8); have hz1 := cell99_1 BK8.out; have hf1 := blk_frozen BK8.out 1; have HR8 := Aside0.mk (Kd.R_below HR1.out hb8); clear hb8)
        | ((with_reducible refine gate_builtin (b := .append) (xs := #[.tmp 21, .tmp 23]) rfl ?_); at_builtin; refine Kd.R_append (Kd.int .i64) (w0 := w0) w0.heap.size rfl (.tmp 21) (.tmp 23) 22 3 (.int .i64 0) 8 rfl Try.underlying22 info3 rfl (by decide) (by omega) (.slice A1 ps.length c1) ps a1 [.int .i64 a1] (fun k => S k ∨ w.heap.size ≤ k) (fun _ => False) rfl rfl ?aP (fun _ hk => hk.elim) ?aF ?aO ?aB ?aS ?aL ?_; (case aP => exact rfl); (case aF => exact (fun k hk => .inr (Nat.le_trans HB8.out.size hk))); (case aO => exact Kd.R_mono HR8.out (fun _ h => .inl h)); (case aB => exact below_step HB0.out HB8.out); (case aS => exact Nat.le_trans HB0.out.size HB8.out.size); (case aL => have := HL.out; omega); intro v9 w9 ho hb9 hg9 hat9; obtain ⟨A9, c9, e9⟩ := Kd.R_slice ho; rw [List.length_append, List.length_singleton] at e9; subst e9; have HO := Aside0.mk ho; have HB9 := Aside0.mk hb9; have BK9 := Aside0.mk (blk_grown BK8.out hg9 (Kd.R_ne HR8.out BK8.out (by decide))); have HG9 := Aside0.mk hg9; have HAT := Aside0.mk hat9; have hw1 := cell99_1 BK9.out; have hfw1 := blk_frozen BK9.out 1; clear ho hb9 hg9 hat9))
      go_ret
      refine ⟨rfl, ⟨_, _, blk_put BK9.out 1 _ rfl, HG.out, .inl HS.out, ?_, ?_⟩, below_set HB9.out HG.out, ?_⟩
      · exact Kd.R_set (Kd.R_mono (Kd.R_grown (Kd.R_apartR (Kd.R_below HR0.out HB8.out) HR8.out (by decide)) HG9.out (fun _ h => h.2)) (fun _ h => .inl h.1)) BK9.out (by decide) 1 _
      · exact Kd.R_set HO.out BK9.out (by decide) 1 _
      · exact Kept.setCell (Kept.of_grown HG9.out (Kept.of_below HB8.out S) (fun k hk => .inl (HR8.out.1 k hk))) (.inl HS.out) _
    · rw [if_neg (fun h => ch h.2)] at h
      obtain ⟨rfl, rfl⟩ := Prod.mk.inj h
      clear h
      have cb : decide (a1 < 0) = false := decide_eq_false (by omega)
      have CH := Aside0.mk (show hasE its ps a1 = false by simpa using ch)
      have HC := Aside0.mk hC
      have HL := Aside0.mk h2
      clear ca ch hC hB h2
      go_enter Try.func29, Try.ntmps29
      go_wp2_with (first
        | (go_at_call 38; (with_reducible refine (has_.calls g its ps a1 false _ ?side1 h0 h1 (Nat.le_of_lt HL.out) CH.out).mono ?_); (case side1 => repeat (first | exact HV.out | apply View.drewN | apply View.drew)); rintro e w8 ⟨rfl, hb8⟩; have HB8 := Aside0.mk (below_step HB.out hb8); clear hb8))
      go_ret
      exact ⟨rfl, Done.of_below HC.out HB0.out (by repeat (first | (with_reducible first | exact HB8.out | apply below_alloc | apply pw_below_drewN | apply below_drew1) | exact HB8.out))⟩
  · rw [if_neg (fun h => ca h.1)] at h
    obtain ⟨rfl, rfl⟩ := Prod.mk.inj h
    clear h
    have cb : decide (a1 < 0) = true := decide_eq_true (by omega)
    have HC := Aside0.mk hC
    clear ca hC hB h2 h1 h0
    go_enter Try.func29, Try.ntmps29
    go_wp2
    go_ret
    exact ⟨rfl, Done.of_below HC.out HB0.out (by repeat (first | (with_reducible first | exact HB.out | apply below_alloc | apply pw_below_drewN | apply below_drew1) | exact HB.out))⟩


open Go.Proofs.Ytdemogdagemagaa.Hand
theorem gate_ins {P : Program} {ops : Array Oper} {rest : List Oper} {o : Oper} {a : Act} {Q : Exit → Act → World → Prop} {w : World} {T : TypeId} {m x v : Operand} (h : o.op = Op.insert T m x v) (hw : wpList P ops Q (o :: rest) a w) : wpList P ops Q (o :: rest) a w := hw
theorem wpList_insert_b {κ : Type} {P : Program} {K E : TypeId} {enc : κ → Value} {w : World} {b n : Nat} {f : κ → Bool} [DecidableEq κ] {ops : Array Oper} {rest : List Oper} {o : Oper} {a : Act} {Q : Exit → Act → World → Prop} (hg : o.guard = none) (m x v : Operand) (T : TypeId) (hop : o.op = Op.insert T m x v)
    (KK : Go.Maps.Keyed P K) (ht : P.underlying T = some (.map K E)) (he : P.underlying E = some .bool) (hn : n < maxLen) (hi : ∀ x y, enc x = enc y → x = y) (hm : a.eval m = .map (some b)) (h : MapB P K E enc w b n f)
    (y : κ) (c : Bool) {kl : Lit} (hx : a.eval x = enc y) (hv : a.eval v = .bool c) (hk : keyOf P K (enc y) = some kl)
    (hK : ∀ w', MapB P K E enc w' b (n + 1) (fun z => if z = y then c else f z) → w.grownBy w' (some b) → wpList P ops Q rest (a.put o.dst undef) w') : wpList P ops Q (o :: rest) a w := by
  refine wpList_plain hg fun K' hK' => ?_
  obtain ⟨w', hr, h2, h3⟩ := h.update KK ht he hn hi hk c
  unfold Oper.wp
  simp [execOp, hop, hm, hx, hv, hr, Result.andThen]
  exact hK' _ _ (hK w' h2 h3)
theorem law3 : Go.Maps.Keyed Try.prog 3 := Go.Maps.int_keyed Try.underlying3
theorem key3 (a : Int) (h0 : -9223372036854775808 ≤ a) (h1 : a ≤ 9223372036854775807) : keyOf Try.prog 3 (.int .i64 a) = some (.int .i64 a) := Go.Maps.keyOf_int_mk Try.underlying3 (WalkArith.wf_i64 (by omega))
theorem int_inj (x y : Int) (h : Value.int .i64 x = Value.int .i64 y) : x = y := by injection h
theorem zeroB (w : World) : (zeroValue 4).run Try.prog w = .ok (.bool false) w := by kernel_rfl
abbrev MB (w : World) (b n : Nat) (f : Int → Bool) : Prop := MapB Try.prog 3 4 (Value.int .i64) w b n f
def keepB (its : List S96) (ps : List Int) (i : Int) : Bool := decide (i = (its.length : Int) - 1) || ps.any (fun p => decide (atE its p = i))
def retGo (s : Int → Bool) : List S96 → Nat → List S96
  | [], _ => []
  | x :: l, i => if s (i : Int) = true then x :: retGo s l (i + 1) else retGo s l (i + 1)
def retireE (its : List S96) (ps : List Int) : List S96 := retGo (keepB its ps) its 0
theorem atGo_ge (its : List S96) (e : Int) : ∀ n, -1 ≤ atGo its e n
  | 0 => by simp [atGo]
  | n + 1 => by
    have := atGo_ge its e n
    unfold atGo
    split <;> omega
theorem wS {i : Nat} (h : i ≤ 1000000) : wrap64 ((i : Int) + 1) = ((i + 1 : Nat) : Int) := by rw [wrap64_id _ (by omega) (by omega)]; simp
theorem _root_.Go.Proofs.Ytdemogdagemagaa.Hand.MapB.set {κ : Type} {P : Program} {K E : TypeId} {enc : κ → Value} {w : World} {b n : Nat} {f : κ → Bool} (h : MapB P K E enc w b n f) {g : Nat} (hne : b ≠ g) (i : Nat) (u : Value) : MapB P K E enc (w.setCell ⟨g, i, none⟩ u) b n f :=
  h.kept (row := some g) ⟨rfl, rfl, rfl, by simp [World.setCell], fun k hk hne => Below.heap_setCell _ _ _ _ (fun e => hne (by rw [e]))⟩ (fun e => hne (Option.some.inj e))
theorem below_upd {w w1 w2 : World} {b : Nat} (h : Below w.heap.size w w1) (hg : w1.grownBy w2 (some b)) (hb : w.heap.size ≤ b) : Below w.heap.size w w2 := h.grown hg h.size (fun k hk => by cases hk; exact hb)
set_option maxHeartbeats 8000000 in
set_option maxRecDepth 100000 in
theorem retire_.calls (g : Nat) (S : Nat → Prop) (its : List S96) (ps : List Int) (w0 w : World) (hC : Chn w0 w S g its ps) (hB : Below w0.heap.size w0 w) (h0 : 0 < its.length) (h1 : its.length ≤ 1000000) (h2 : ps.length ≤ 1000000) :
    Calls Try.prog 52 #[.pointer (some ⟨g, 0, none⟩)] w fun e w' => e = .returned (.tuple #[]) ∧ Done w0 w w' S g (retireE its ps) ps := by
  have hmm := @run_makeMap Try.prog
  have HV := Aside0.mk hC.view
  have HB0 := Aside0.mk hB
  have HB := Aside0.mk (Below.refl w.heap.size w)
  have HL1 := Aside0.mk h1
  have HL2 := Aside0.mk h2
  have H0 := Aside0.mk h0
  obtain ⟨v0, v1, hb, hgb, hS, hR0, hR1⟩ := hC
  obtain ⟨A0, c0, rfl, hc0, hr0⟩ := Kd.R_reads hR0
  obtain ⟨A1, c1, rfl, hc1, hr1⟩ := Kd.R_reads hR1
  have HGB := Aside0.mk hgb
  have HS_ := Aside0.mk hS
  have HRP := Aside0.mk hR1
  have hz0 := cell99_0 hb
  have hlt := blk_lt hb
  obtain ⟨ji, hj⟩ : ∃ j : Int, j = (its.length : Int) - 1 := ⟨_, rfl⟩
  have hji : IntKind.i64.wrap ((its.length : Int) - 1) = ji := by rw [hj]; exact w64_len h0 h1
  have HJ := Aside0.mk hj
  have BK := Aside0.mk hb
  have HR0 := Aside0.mk hr0
  have HR1 := Aside0.mk hr1
  clear hj hB hr0 hr1 hb hc0 hc1 h0 h1 h2 hR0 hR1 hgb hS
  go_enter Try.func52, Try.ntmps52
  go_wp2_with (first
    | ((with_reducible refine gate_ins rfl ?_); refine wpList_insert_b rfl _ _ _ 79 rfl law3 Try.underlying79 Try.underlying4 (by unfold maxLen; omega) int_inj rfl (MapB.made _ _ _ _ _) ji true rfl rfl (key3 ji (by have := HJ.out; omega) (by have := HJ.out; have := HL1.out; omega)) ?_; intro w2 hmb hgr; have HM := Aside0.mk hmb; have HB2 := Aside0.mk (below_upd (below_alloc HB.out _) hgr (Nat.le_refl _)); have hz1 := cell99_1 (blk_below BK.out HB2.out); clear hmb hgr))
  have HS0 := Aside0.mk (show ∀ z : Int, (if z = ji then true else false) = true ↔ (z = ji ∨ ∃ p ∈ ps.take 0, atE its p = z) by intro z; by_cases hz : z = ji <;> simp [hz])
  go_loopg [21] ps.length (fun kq v21 wr => ∃ (i n : Nat) (s : Int → Bool), i + kq = ps.length ∧ n = i + 1 ∧ v21 = .int .i64 i ∧ Aside0 (∀ z, s z = true ↔ (z = ji ∨ ∃ p ∈ ps.take i, atE its p = z)) ∧ Aside0 (MB wr w.heap.size n s) ∧ Aside0 (Below w.heap.size w wr))
  case atStart => exact ⟨0, 1, _, by omega, rfl, rfl, HS0, HM, HB2⟩
  case round =>
    clear HS0 HM HB2 hz1 hz0
    obtain ⟨i, n, s, hi, hn, rfl, HS, HM, HB2⟩ := hrel
    have HI := Aside0.mk hi
    have HN := Aside0.mk hn
    clear hn
    by_cases hlt2 : i < ps.length
    · have hci : decide ((i : Int) < (ps.length : Int)) = true := decide_eq_true (by omega)
      have p : 0 ≤ (i : Int) := by omega
      have q : (i : Int) < (ps.length : Int) := by omega
      obtain ⟨ad, e1, hx0⟩ := Kd.at_int (Kd.C_below HR1.out HB2.out) (i : Int) p q
      cases e1
      have e2 : (i : Int).toNat = i := by omega
      rw [e2] at hx0
      clear e2
      have hrd : rd ps (i : Int) = ps[i] := by simp [rd, List.getD, hlt2]
      have HT := Aside0.mk (show ps.take (i + 1) = ps.take i ++ [rd ps (i : Int)] by rw [List.take_succ_eq_append_getElem hlt2, hrd])
      obtain ⟨ai, hai⟩ : ∃ ai, atE its (rd ps (i : Int)) = ai := ⟨_, rfl⟩
      have HAI := Aside0.mk hai
      have HK := Aside0.mk (show ∃ kl, keyOf Try.prog 3 (.int .i64 ai) = some kl from ⟨_, key3 ai (by rw [← hai]; have := atGo_ge its (rd ps (i : Int)) its.length; unfold atE; omega) (by rw [← hai]; have := atGo_lt its (rd ps (i : Int)) its.length; have := HL1.out; unfold atE; omega)⟩)
      replace p := eq_true p
      replace q := eq_true q
      have HLT := Aside0.mk hlt2
      clear hi hai hrd hlt2
      obtain ⟨pi, hpi⟩ : ∃ pi, rd ps (i : Int) = pi := ⟨_, rfl⟩
      rw [hpi] at hx0 HT HAI
      clear hpi
      go_wp2_with (first
        | (go_at_call 57; (with_reducible refine (at_.calls g its ps pi ai _ ?side1 H0.out HL1.out HAI.out).mono ?_); (case side1 => repeat (first | exact HV.out.below HB2.out | apply View.drewN | apply View.drew)); rintro e w8 ⟨rfl, hb8⟩; have HB8 := Aside0.mk (below_step HB2.out hb8); have HM8 := Aside0.mk (HM.out.below hb8); clear hb8)
        | (at_mapUpdate; refine wpList_update_b rfl _ _ _ 79 rfl law3 Try.underlying79 Try.underlying4 (by unfold maxLen; have := HN.out; have := HI.out; have := HL2.out; omega) int_inj rfl HM8.out ai true rfl rfl HK.out.choose_spec ?_; intro w9 hmb9 hgr9; have HM9 := Aside0.mk hmb9; have HB9 := Aside0.mk (below_upd HB8.out hgr9 (Nat.le_refl _)); clear hmb9 hgr9))
      go_roundg (ps.length - (i + 1))
      case measure => have := HI.out; have := HLT.out; omega
      case rel => exact ⟨i + 1, n + 1, _, by have := HI.out; have := HLT.out; omega, by have := HN.out; omega, by rw [wS (by have := HI.out; have := HL2.out; omega)], ⟨fun z => by
        rw [HT.out]
        have hs := HS.out z
        have ha := HAI.out
        by_cases hz : z = ai
        · subst hz; simp; exact .inr (.inr ha)
        · simp only [if_neg hz, hs, List.mem_append, List.mem_singleton]
          constructor
          · rintro (h | ⟨p, hp, h⟩)
            · exact .inl h
            · exact .inr ⟨p, .inl hp, h⟩
          · rintro (h | ⟨p, (hp | rfl), h⟩)
            · exact .inl h
            · exact .inr ⟨p, hp, h⟩
            · exact absurd (h.symm.trans ha) hz⟩, HM9, HB9⟩
    · have hci : decide ((i : Int) < (ps.length : Int)) = false := decide_eq_false (by omega)
      have hcn : decide (i < ps.length) = false := decide_eq_false hlt2
      have hil : ps.length = i := by omega
      have HS1 := Aside0.mk (show ∀ z : Int, s z = keepB its ps z by
        intro z
        have hs := HS.out z
        rw [List.take_of_length_le (by omega)] at hs
        have hj := HJ.out
        apply Bool.eq_iff_iff.2
        rw [hs]
        unfold keepB
        simp [← hj])
      have hz0 := cell99_0 (blk_below BK.out HB2.out)
      clear HS hi hil HI HN hlt2
      go_wp2
      go_loopg [35, 5] its.length (fun kq v35 v5 wr => ∃ (i : Nat) (acc : List S96), i + kq = its.length ∧ v35 = .int .i64 i ∧ Aside0 (acc ++ retGo (keepB its ps) (its.drop i) i = retireE its ps) ∧ Aside0 (acc.length ≤ i) ∧ Aside0 (k96.R 96 wr w.heap.size (fun k => k ≠ w.heap.size) v5 acc) ∧ Aside0 (MB wr w.heap.size n s) ∧ Aside0 (Below w.heap.size w wr))
      case atStart => exact ⟨0, [], by omega, rfl, ⟨rfl⟩, ⟨Nat.le_refl _⟩, ⟨Kd.R_nil _ _ _ _ _⟩, HM, HB2⟩
      case round =>
        clear HM HB2 hz0
        obtain ⟨i, acc, hi, rfl, HA, HAL, HO, HM, HB2⟩ := hrel
        have HI := Aside0.mk hi
        by_cases hlt2 : i < its.length
        · have hcn : decide (i < its.length) = true := decide_eq_true hlt2
          have p : 0 ≤ (i : Int) := by omega
          have q : (i : Int) < (its.length : Int) := by omega
          obtain ⟨ad, e1, hx0, hx1⟩ := at_T96 (Kd.C_below HR0.out HB2.out) (i : Int) p q
          cases e1
          have e2 : (i : Int).toNat = i := by omega
          rw [e2] at hx0 hx1
          have hrd : rd_T96 its (i : Int) = its[i] := by simp [rd_T96, List.getD, hlt2]
          have HD := Aside0.mk (show its.drop i = rd_T96 its (i : Int) :: its.drop (i + 1) by rw [hrd]; exact List.drop_eq_getElem_cons hlt2)
          have HLT := Aside0.mk hlt2
          obtain ⟨x, hx⟩ : ∃ x, rd_T96 its (i : Int) = x := ⟨_, rfl⟩
          rw [hx] at hx0 hx1 HD
          clear hx hrd e2 hi hlt2
          replace p := eq_true p
          replace q := eq_true q
          obtain ⟨A5, c5, e5⟩ := Kd.R_slice HO.out
          subst e5
          by_cases hs : keepB its ps (i : Int) = true
          · have HA2 := Aside0.mk (show (acc ++ [x]) ++ retGo (keepB its ps) (its.drop (i + 1)) (i + 1) = retireE its ps by rw [← HA.out, HD.out]; simp [retGo, hs])
            go_wp2_with (first
              | ((with_reducible refine gate_dst (N := 7) rfl ?_); refine box_event ?hg (N := 7) ?hd (cs := #[.int .i64 0, .int .i64 0]) (t := 96) ?hr ?_; (case hd => rfl); (case hg => rfl); (case hr => first | (go_simp; done) | (go_simp; rfl)); intro g7 hg7 w7 hbox hb7; have hcz0 : w7.cell? ⟨g7, 0, none⟩ = some (.int .i64 0) := (blk_cell hbox 0).trans rfl; have hcz1 : w7.cell? ⟨g7, 1, none⟩ = some (.int .i64 0) := (blk_cell hbox 1).trans rfl; have hf0 := blk_frozen hbox 0; have hf1 := blk_frozen hbox 1; have HG7 := Aside0.mk (show w.heap.size ≤ g7 by rw [hg7]; exact HB2.out.size); have HMW := Aside0.mk (((HM.out.below hb7).set (fun e => by have := HM.out.lt; omega : w.heap.size ≠ g7) 0 (.int .i64 x.f0)).set (fun e => by have := HM.out.lt; omega : w.heap.size ≠ g7) 1 (.int .i64 x.f1)); have HBW := Aside0.mk (below_set (j := 1) (v := .int .i64 x.f1) (below_set (j := 0) (v := .int .i64 x.f0) (below_step HB2.out hb7) HG7.out) HG7.out); have HOW := Aside0.mk (Kd.R_far (p := ⟨g7, 1, none⟩) (Kd.R_far (p := ⟨g7, 0, none⟩) (Kd.R_below (Kd.R_elderB HO.out g7 (by omega)) hb7) (fun _ hk => hk.2) (.int .i64 x.f0)) (fun _ hk => hk.2) (.int .i64 x.f1)); clear hbox hb7 hg7)
              | (at_lookup; refine wpList_lookup_b rfl _ _ 79 rfl law3 Try.underlying79 Try.underlying4 (zeroB _) rfl HMW.out (i : Int) rfl (key3 _ (by omega) (by have := HLT.out; have := HL1.out; omega)) ?_; rw [HS1.out, hs])
              | ((with_reducible refine gate_builtin (b := .append) (xs := #[.tmp 43, .tmp 45]) rfl ?_); at_builtin; refine Kd.R_append k96 (w0 := w) w.heap.size rfl (.tmp 43) (.tmp 45) 97 96 (.agg #[.int .i64 0, .int .i64 0]) 16 rfl Try.underlying97 info96 rfl (by decide) (by omega) (.slice A5 acc.length c5) acc x [.int .i64 x.f0, .int .i64 x.f1] (fun k => k ≠ w.heap.size) (fun _ => False) rfl (by first | (go_simp; done) | (go_simp; rfl) | (simp [Act.eval, World.setCell]; done) | (simp [Act.eval, World.setCell]; rfl)) ?aP (fun _ hk => hk.elim) ?aF ?aO ?aB ?aS ?aL ?_; (case aP => exact k96_mkM _ _ _ _); (case aF => exact (fun k hk => by have := HMW.out.lt; omega)); (case aO => exact Kd.R_mono HOW.out (fun _ h => h.1)); (case aB => exact HBW.out); (case aS => exact HBW.out.size); (case aL => have := HAL.out; have := HLT.out; have := HL1.out; omega); intro v9 w9 ho hb9 hg9 hat9; obtain ⟨A9, c9, e9⟩ := Kd.R_slice ho; rw [List.length_append, List.length_singleton] at e9; subst e9; have HO9 := Aside0.mk ho; have HB9 := Aside0.mk hb9; have HM9 := Aside0.mk (HMW.out.kept hg9 (fun e => HO.out.1 _ e.symm rfl)); clear ho hb9 hg9 hat9))
            go_roundg (its.length - (i + 1))
            case measure => have := HI.out; have := HLT.out; omega
            case rel => exact ⟨i + 1, acc ++ [x], by have := HI.out; have := HLT.out; omega, by rw [wS (by have := HI.out; have := HL1.out; omega)], HA2, ⟨by have := HAL.out; simp; omega⟩, HO9, HM9, HB9⟩
          · have hs : keepB its ps (i : Int) = false := by simpa using hs
            have HA2 := Aside0.mk (show acc ++ retGo (keepB its ps) (its.drop (i + 1)) (i + 1) = retireE its ps by rw [← HA.out, HD.out]; simp [retGo, hs])
            go_wp2_with (first
              | ((with_reducible refine gate_dst (N := 7) rfl ?_); refine box_event ?hg (N := 7) ?hd (cs := #[.int .i64 0, .int .i64 0]) (t := 96) ?hr ?_; (case hd => rfl); (case hg => rfl); (case hr => first | (go_simp; done) | (go_simp; rfl)); intro g7 hg7 w7 hbox hb7; have hcz0 : w7.cell? ⟨g7, 0, none⟩ = some (.int .i64 0) := (blk_cell hbox 0).trans rfl; have hcz1 : w7.cell? ⟨g7, 1, none⟩ = some (.int .i64 0) := (blk_cell hbox 1).trans rfl; have hf0 := blk_frozen hbox 0; have hf1 := blk_frozen hbox 1; have HG7 := Aside0.mk (show w.heap.size ≤ g7 by rw [hg7]; exact HB2.out.size); have HMW := Aside0.mk (((HM.out.below hb7).set (fun e => by have := HM.out.lt; omega : w.heap.size ≠ g7) 0 (.int .i64 x.f0)).set (fun e => by have := HM.out.lt; omega : w.heap.size ≠ g7) 1 (.int .i64 x.f1)); have HBW := Aside0.mk (below_set (j := 1) (v := .int .i64 x.f1) (below_set (j := 0) (v := .int .i64 x.f0) (below_step HB2.out hb7) HG7.out) HG7.out); have HOW := Aside0.mk (Kd.R_far (p := ⟨g7, 1, none⟩) (Kd.R_far (p := ⟨g7, 0, none⟩) (Kd.R_below (Kd.R_elderB HO.out g7 (by omega)) hb7) (fun _ hk => hk.2) (.int .i64 x.f0)) (fun _ hk => hk.2) (.int .i64 x.f1)); clear hbox hb7 hg7)
              | (at_lookup; refine wpList_lookup_b rfl _ _ 79 rfl law3 Try.underlying79 Try.underlying4 (zeroB _) rfl HMW.out (i : Int) rfl (key3 _ (by omega) (by have := HLT.out; have := HL1.out; omega)) ?_; rw [HS1.out, hs]))
            go_roundg (its.length - (i + 1))
            case measure => have := HI.out; have := HLT.out; omega
            case rel => exact ⟨i + 1, acc, by have := HI.out; have := HLT.out; omega, by rw [wS (by have := HI.out; have := HL1.out; omega)], HA2, ⟨by have := HAL.out; omega⟩, ⟨Kd.R_mono HOW.out (fun _ h => h.1)⟩, HMW, HBW⟩
        · have hcn : decide (i < its.length) = false := decide_eq_false hlt2
          have hl : its.length ≤ i := by omega
          have HE := HA.out
          rw [List.drop_eq_nil_of_le hl] at HE
          simp only [retGo, List.append_nil] at HE
          have HE := Aside0.mk HE
          obtain ⟨A5, c5, e5⟩ := Kd.R_slice HO.out
          subst e5
          have BK2 := Aside0.mk (blk_below BK.out HB2.out)
          have hz0 := cell99_0 BK2.out
          have hf0 := blk_frozen BK2.out 0
          clear hl hi hlt2 HA
          go_wp2
          go_end0
          refine ⟨rfl, ⟨_, _, blk_put BK2.out 0 _ rfl, HGB.out, .inl HS_.out, ?_, ?_⟩, below_set (below_step HB0.out HB2.out) HGB.out, Kept.setCell (Kept.of_below HB2.out S) (.inl HS_.out) _⟩
          · rw [← HE.out]
            exact Kd.R_set (Kd.R_mono (Kd.R_lower (Kd.R_bound HO.out) HB0.out.size) (fun k hk => .inr hk.2.1)) BK2.out (by decide) 0 _
          · exact Kd.R_set (Kd.R_mono (Kd.R_below HRP.out HB2.out) (fun _ h => .inl h)) BK2.out (by decide) 0 _


def pubE (its : List S96) (ps : List Int) (e v : Int) : Int × List S96 := if e ≤ lastE its then (5, its) else (0, retireE (its ++ [⟨e, v⟩]) ps)
theorem Done.chn {w0 w w1 : World} {S : Nat → Prop} {g : Nat} {its : List S96} {ps : List Int} (h : Done w0 w w1 S g its ps) : Chn w0 w1 (fun k => S k ∨ w.heap.size ≤ k) g its ps := h.1
theorem Done.bl {w0 w w1 : World} {S : Nat → Prop} {g : Nat} {its : List S96} {ps : List Int} (h : Done w0 w w1 S g its ps) : Below w0.heap.size w0 w1 := h.2.1
theorem Done.then_ {w0 w w1 w2 : World} {S : Nat → Prop} {g : Nat} {its its2 : List S96} {ps ps2 : List Int} (h : Done w0 w w1 S g its ps) (k : Done w0 w1 w2 (fun k => S k ∨ w.heap.size ≤ k) g its2 ps2) : Done w0 w w2 S g its2 ps2 :=
  ⟨k.1.mono (fun _ hk => hk.elim id (fun hk => .inr (Nat.le_trans h.2.2.1 hk))), k.2.1, h.2.2.then_ k.2.2 (fun _ hk => hk)⟩
set_option maxHeartbeats 8000000 in
set_option maxRecDepth 100000 in
theorem publish_.calls (g : Nat) (S : Nat → Prop) (its its2 : List S96) (ps : List Int) (a1 a2 r : Int) (w0 w : World) (hC : Chn w0 w S g its ps) (hB : Below w0.heap.size w0 w) (h0 : 0 < its.length) (h1 : its.length < 1000000) (h2 : ps.length ≤ 1000000) (h : pubE its ps a1 a2 = (r, its2)) :
    Calls Try.prog 27 #[.pointer (some ⟨g, 0, none⟩), .int .i64 a1, .int .i64 a2] w fun e w' => e = .returned (.int .i64 r) ∧ Done w0 w w' S g its2 ps := by
  unfold pubE at h
  have HV := Aside0.mk hC.view
  have HB := Aside0.mk (Below.refl w.heap.size w)
  have HB0 := Aside0.mk hB
  have HL1 := Aside0.mk h1
  have HL2 := Aside0.mk h2
  have H0 := Aside0.mk h0
  by_cases c : a1 ≤ lastE its
  · rw [if_pos c] at h
    obtain ⟨rfl, rfl⟩ := Prod.mk.inj h
    have cb := decide_eq_true c
    have HC := Aside0.mk hC
    clear c h hC hB h1 h2
    go_enter Try.func27, Try.ntmps27
    go_wp2_with (first
      | (go_at_call 51; (with_reducible refine (last_.calls g its ps _ ?side1 H0.out (Nat.le_of_lt HL1.out)).mono ?_); (case side1 => repeat (first | exact HV.out | apply View.drewN | apply View.drew)); rintro e w8 ⟨rfl, hb8⟩; have HB8 := Aside0.mk (below_step HB.out hb8); clear hb8))
    go_ret
    exact ⟨rfl, Done.of_below HC.out HB0.out (by repeat (first | (with_reducible first | exact HB8.out | apply below_alloc | apply pw_below_drewN | apply below_drew1) | exact HB8.out))⟩
  · rw [if_neg c] at h
    obtain ⟨rfl, rfl⟩ := Prod.mk.inj h
    have cb := decide_eq_false c
    obtain ⟨v0, v1, hb, hg, hS, hr0, hr1⟩ := hC
    obtain ⟨A0, c0, rfl, hc0, hrr⟩ := Kd.R_reads hr0
    have BK := Aside0.mk hb
    have HR0 := Aside0.mk hr0
    have HR1 := Aside0.mk hr1
    have HS := Aside0.mk hS
    have HG := Aside0.mk hg
    clear c h hB h1 h2 hb hg hS hr0 hr1 hc0 hrr
    go_enter Try.func27, Try.ntmps27
    go_wp2_with (first
      | (go_at_call 51; (with_reducible refine (last_.calls g its ps _ ?side1 H0.out (Nat.le_of_lt HL1.out)).mono ?_); (case side1 => repeat (first | exact HV.out | apply View.drewN | apply View.drew)); rintro e w8 ⟨rfl, hb8⟩; have HB8 := Aside0.mk (below_step HB.out hb8); have BK8 := Aside0.mk (blk_below BK.out hb8); have hz0 := cell99_0 BK8.out; have HR8 := Aside0.mk (Kd.R_below HR0.out hb8); clear hb8)
      | ((with_reducible refine gate_builtin (b := .append) (xs := #[.tmp 19, .tmp 23]) rfl ?_); at_builtin; refine Kd.R_append k96 (w0 := w0) w0.heap.size rfl (.tmp 19) (.tmp 23) 97 96 (.agg #[.int .i64 0, .int .i64 0]) 16 rfl Try.underlying97 info96 rfl (by decide) (by omega) (.slice A0 its.length c0) its ⟨a1, a2⟩ [.int .i64 a1, .int .i64 a2] (fun k => S k ∨ w.heap.size ≤ k) (fun _ => False) rfl (by first | rfl | (go_simp; done) | (go_simp; rfl)) ?aP (fun _ hk => hk.elim) ?aF ?aO ?aB ?aS ?aL ?_; (case aP => exact k96_mkM _ _ _ ⟨a1, a2⟩); (case aF => exact (fun k hk => .inr (Nat.le_trans HB8.out.size hk))); (case aO => exact Kd.R_mono HR8.out (fun _ h => .inl h)); (case aB => exact below_step HB0.out HB8.out); (case aS => exact Nat.le_trans HB0.out.size HB8.out.size); (case aL => have := HL1.out; omega); intro v9 w9 ho hb9 hg9 hat9; obtain ⟨A9, c9, e9⟩ := Kd.R_slice ho; rw [List.length_append, List.length_singleton] at e9; subst e9; have BK9 := Aside0.mk (blk_grown BK8.out hg9 (Kd.R_ne HR8.out BK8.out (by decide))); have HD9 := Aside0.mk (show Done w0 w (w9.setCell ⟨g, 0, none⟩ (.slice A9 (its.length + 1) c9)) S g (its ++ [⟨a1, a2⟩]) ps from ⟨⟨_, _, blk_put BK9.out 0 _ rfl, HG.out, .inl HS.out, Kd.R_set ho BK9.out (by decide) 0 _, Kd.R_set (Kd.R_mono (Kd.R_grown (Kd.R_apartR (Kd.R_below HR1.out HB8.out) HR8.out (by decide)) hg9 (fun _ h => h.2)) (fun _ h => .inl h.1)) BK9.out (by decide) 0 _⟩, below_set hb9 HG.out, Kept.setCell (Kept.of_grown hg9 (Kept.of_below HB8.out S) (fun k hk => .inl (HR8.out.1 k hk))) (.inl HS.out) _⟩); have hw0 := cell99_0 BK9.out; have hfw0 := blk_frozen BK9.out 0; clear ho hb9 hg9 hat9)
      | (go_at_call 52; (with_reducible refine (retire_.calls g (fun k => S k ∨ w.heap.size ≤ k) (its ++ [⟨a1, a2⟩]) ps w0 _ HD9.out.chn HD9.out.bl (by simp) (by have := HL1.out; simp; omega) HL2.out).mono ?_); rintro e w10 ⟨rfl, hd10⟩; have HD10 := Aside0.mk (HD9.out.then_ hd10); clear hd10))
    go_ret
    exact ⟨rfl, HD10.out⟩


theorem grown_putRow {α : Type} [Inhabited α] {enc : α → Value} {w : World} {g q : Nat} {d : Array α} : w.grownBy (Sort.putRow enc (Sort.ahead w q) g 0 d) (some g) :=
  ⟨rfl, rfl, rfl, by simp [Sort.putRow, Sort.mapBlock, Sort.ahead], fun k hk hne => by
    have : g ≠ k := fun e => hne (by rw [e])
    simp [Sort.putRow, Sort.mapBlock, Sort.ahead, Array.getElem?_modify, this]⟩
theorem reps_inv {α : Type} {enc : α → Value} (xs : List α) (cs : List Value) (h : Reps (fun (x : α) (cs : List Value) => cs = [enc x]) 1 xs cs) : cs = xs.map enc := by
  apply List.ext_getElem (by simpa using h.1)
  intro j h1 h2
  have hj : j < xs.length := by simpa using h2
  have := h.2 j xs[j] (List.getElem?_eq_getElem hj)
  rw [Nat.mul_one, List.drop_eq_getElem_cons h1, List.take_succ_cons, List.take_zero] at this
  rw [List.getElem_map]
  exact (List.cons.inj this).1
theorem delete_.calls (A : Option Addr) (c base i : Nat) (ok : Nat → Prop) (ps : List Int) (w : World) (hR : (Kd.int .i64).R 3 w base ok (.slice A ps.length c) ps) (hi : i < ps.length) (hl : ps.length ≤ 1000000) :
    Calls Try.prog 55 #[.slice A ps.length c, .int .i64 (i : Int), .int .i64 (((i + 1 : Nat)) : Int)] w fun e w' => e = .returned (.slice A (ps.length - 1) c) ∧ (Kd.int .i64).R 3 w' base ok (.slice A (ps.length - 1) c) (ps.take i ++ ps.drop (i + 1)) ∧ w.grownBy w' (.slice A ps.length c : Value).ownBlock := by
  obtain ⟨hok, inner, ho, hre⟩ := hR
  have hin : inner = ps.map (Value.int .i64) := by
    exact reps_inv ps inner hre
  subst hin
  obtain ⟨g, cap, e, hb, hg, hc, hm, _, hH⟩ := Lib.holds_of_ownsRow (enc := Value.int .i64) ho (by intro e; injection e with _ e _; omega)
  injection e with e1 _ e3
  subst e1; subst e3
  refine (Try.slices_Delete_int g 0 c i (i + 1) ps w hH hc (by unfold maxLen at hm; omega) (by omega) (by omega)).mono ?_
  rintro e w' ⟨rfl, q, rfl⟩
  have hone : i + 1 - i = 1 := by omega
  rw [hone]
  have hlen : (ps.take i ++ ps.drop (i + 1) ++ List.replicate 1 0).length = ps.length := by simp; omega
  have hlen2 : (ps.take i ++ ps.drop (i + 1)).length = ps.length - 1 := by simp; omega
  have hup := Lib.ownsRow_putRow (q := q) (k := ps.length - 1) (ys := ps.take i ++ ps.drop (i + 1) ++ List.replicate 1 0) ho hlen (by omega)
  have ht : (ps.take i ++ ps.drop (i + 1) ++ List.replicate 1 0).take (ps.length - 1) = ps.take i ++ ps.drop (i + 1) := by
    rw [← hlen2]
    exact List.take_left
  rw [ht] at hup
  refine ⟨by first | rfl | (congr 2; omega), ?_, grown_putRow⟩
  have := Kd.R_of_own (enc := Value.int .i64) (h1 := fun _ => rfl) (ok := ok) (v := .slice (some ⟨g, 0, none⟩) (ps.length - 1) c) (xs := ps.take i ++ ps.drop (i + 1)) (by rw [hlen2]; exact hup) hok
  exact this


theorem idxE_erase (a : Int) : ∀ (l : List Int) (k : Nat), a ∈ l → ∃ i, idxE l a k = ((k + i : Nat) : Int) ∧ i < l.length ∧ l.take i ++ l.drop (i + 1) = l.erase a := by
  intro l
  induction l with
  | nil => intro k h; cases h
  | cons x l ih =>
    intro k h
    by_cases e : a = x
    · subst e
      exact ⟨0, by simp [idxE], by simp, by simp⟩
    · obtain ⟨i, h1, h2, h3⟩ := ih (k + 1) (by simpa [e] using h)
      refine ⟨i + 1, ?_, by simp; omega, ?_⟩
      · simp only [idxE, if_neg e, h1]
        omega
      · rw [List.erase_cons_tail (by simpa using fun h => e h.symm), ← h3]
        simp
theorem idxE_none (a : Int) (l : List Int) (k : Nat) (h : a ∉ l) : idxE l a k = -1 := by
  induction l generalizing k with
  | nil => rfl
  | cons x l ih =>
    simp at h
    simp only [idxE, if_neg h.1]
    exact ih _ h.2
def unpE (its : List S96) (ps : List Int) (a : Int) : Int × List S96 × List Int := if a ∈ ps then (0, retireE its (ps.erase a), ps.erase a) else (23, its, ps)
set_option maxHeartbeats 8000000 in
set_option maxRecDepth 100000 in
theorem unpin_.calls (g : Nat) (S : Nat → Prop) (its its2 : List S96) (ps ps2 : List Int) (a1 r : Int) (w0 w : World) (hC : Chn w0 w S g its ps) (hB : Below w0.heap.size w0 w) (h0 : 0 < its.length) (h1 : its.length ≤ 1000000) (h2 : ps.length ≤ 1000000) (h : unpE its ps a1 = (r, its2, ps2)) :
    Calls Try.prog 31 #[.pointer (some ⟨g, 0, none⟩), .int .i64 a1] w fun e w' => e = .returned (.int .i64 r) ∧ Done w0 w w' S g its2 ps2 := by
  unfold unpE at h
  have HB := Aside0.mk (Below.refl w.heap.size w)
  have HB0 := Aside0.mk hB
  have HL1 := Aside0.mk h1
  have HL2 := Aside0.mk h2
  have H0 := Aside0.mk h0
  by_cases c : a1 ∈ ps
  · rw [if_pos c] at h
    simp only [Prod.mk.injEq] at h
    obtain ⟨rfl, rfl, rfl⟩ := h
    obtain ⟨i, hidx, hi, her⟩ := idxE_erase a1 ps 0 c
    rw [Nat.zero_add] at hidx
    have HIX := Aside0.mk ((index_f ps a1 h2).trans (congrArg some hidx))
    have HI := Aside0.mk hi
    have HER := Aside0.mk her
    have cb : decide ((i : Int) < 0) = false := decide_eq_false (by omega)
    obtain ⟨v0, v1, hb, hg, hS, hr0, hr1⟩ := hC
    obtain ⟨A1, c1, rfl, hc1, hrr⟩ := Kd.R_reads hr1
    have BK := Aside0.mk hb
    have HR0 := Aside0.mk hr0
    have HR1 := Aside0.mk hr1
    have HRR := Aside0.mk hrr
    have HS := Aside0.mk hS
    have HG := Aside0.mk hg
    have hz1 := cell99_1 hb
    clear c hB h1 h2 h0 hb hg hS hr0 hr1 hrr hi hidx her
    go_enter Try.func31, Try.ntmps31
    go_wp2_with (first
      | (go_at_call 54; (with_reducible refine (slices_Index_int_int.calls (ps.length + 1) _ _ ps a1 (i : Int) _ ?side1 hc1 HIX.out).mono ?_); (case side1 => repeat (first | exact HRR.out | (with_reducible refine Kd.C_drewN ?_ _) | (with_reducible refine Kd.C_drew ?_))); rintro e w' ⟨rfl, ⟨nd, rfl⟩⟩)
      | (go_at_call 55; rw [wS (by have := HI.out; have := HL2.out; omega)]; (with_reducible refine (delete_.calls A1 c1 w0.heap.size i S ps _ ?side1 HI.out HL2.out).mono ?_); (case side1 => repeat (first | exact HR1.out | apply Kd.R_drewN | apply Kd.R_drew)); rintro e w8 ⟨rfl, ho, hg8⟩; rw [HER.out] at ho; have BK9 := Aside0.mk (blk_grown (blk_drewN BK.out nd) hg8 (Kd.R_ne HR1.out BK.out (by decide))); have HD9 := Aside0.mk (show Done w0 w (w8.setCell ⟨g, 1, none⟩ (.slice A1 (ps.length - 1) c1)) S g its (ps.erase a1) from ⟨⟨_, _, blk_put BK9.out 1 _ rfl, HG.out, .inl HS.out, Kd.R_set (Kd.R_mono (Kd.R_grown (w := w.drewN nd) (Kd.R_drewN (Kd.R_apartR HR0.out HR1.out (by decide)) nd) hg8 (fun _ h => h.2)) (fun _ h => .inl h.1)) BK9.out (by decide) 1 _, Kd.R_set (Kd.R_mono ho (fun _ h => .inl h)) BK9.out (by decide) 1 _⟩, below_set (Below.grown (pw_below_drewN HB0.out nd) hg8 (by exact HB0.out.size) (Kd.R_base HR1.out)) HG.out, Kept.setCell (Kept.of_grown hg8 (Kept.drewN (Kept.refl w S) nd) (fun k hk => .inl (HR1.out.1 k hk))) (.inl HS.out) _⟩); have hw1 := cell99_1 BK9.out; have hfw1 := blk_frozen BK9.out 1; clear ho hg8)
      | (go_at_call 52; (with_reducible refine (retire_.calls g (fun k => S k ∨ w.heap.size ≤ k) its (ps.erase a1) w0 _ HD9.out.chn HD9.out.bl H0.out HL1.out (Nat.le_trans (List.length_erase_le) HL2.out)).mono ?_); rintro e w10 ⟨rfl, hd10⟩; have HD10 := Aside0.mk (HD9.out.then_ hd10); clear hd10))
    go_ret
    exact ⟨rfl, HD10.out⟩
  · rw [if_neg c] at h
    simp only [Prod.mk.injEq] at h
    obtain ⟨rfl, rfl, rfl⟩ := h
    have HIX := Aside0.mk ((index_f ps a1 h2).trans (congrArg some (idxE_none a1 ps 0 c)))
    have HC := Aside0.mk hC
    obtain ⟨v0, v1, hb, hg, hS, hr0, hr1⟩ := hC
    obtain ⟨A1, c1, rfl, hc1, hrr⟩ := Kd.R_reads hr1
    have HRR := Aside0.mk hrr
    have hz1 := cell99_1 hb
    clear c hB h1 h2 h0 hb hg hS hr0 hr1 hrr
    go_enter Try.func31, Try.ntmps31
    go_wp2_with (first
      | (go_at_call 54; (with_reducible refine (slices_Index_int_int.calls (ps.length + 1) _ _ ps a1 (-1) _ ?side1 hc1 HIX.out).mono ?_); (case side1 => repeat (first | exact HRR.out | (with_reducible refine Kd.C_drewN ?_ _) | (with_reducible refine Kd.C_drew ?_))); rintro e w' ⟨rfl, ⟨nd, rfl⟩⟩))
    go_ret
    exact ⟨rfl, Done.of_below HC.out HB0.out (by repeat (first | (with_reducible first | exact HB.out | apply below_alloc | apply pw_below_drewN | apply below_drew1) | exact HB.out))⟩


/-- A chain of the call's own, wherever its rows are. -/
def CH (w0 w : World) (g : Nat) (its : List S96) (ps : List Int) : Prop := (∃ S, Chn w0 w S g its ps) ∧ Below w0.heap.size w0 w
theorem CH.view {w0 w : World} {g : Nat} {its : List S96} {ps : List Int} (h : CH w0 w g its ps) : View w g its ps := let ⟨⟨_, h⟩, _⟩ := h; h.view
theorem CH.below {w0 w w1 : World} {g : Nat} {its : List S96} {ps : List Int} (h : CH w0 w g its ps) (hb : Below w.heap.size w w1) : CH w0 w1 g its ps := let ⟨⟨S, h⟩, h2⟩ := h; ⟨⟨S, h.below hb⟩, below_step h2 hb⟩
theorem CH.bl {w0 w : World} {g : Nat} {its : List S96} {ps : List Int} (h : CH w0 w g its ps) : Below w0.heap.size w0 w := h.2
theorem ch_new (a0 : Int) (w0 w : World) (hB : Below w0.heap.size w0 w) : Calls Try.prog 25 #[.int .i64 a0] w fun e w' => ∃ g, e = .returned (.pointer (some ⟨g, 0, none⟩)) ∧ CH w0 w' g [⟨0, a0⟩] [] := by
  refine (new_.calls a0 w).mono ?_
  rintro e w' ⟨g, rfl, ⟨v0, v1, hb, hg, hS, h0, h1⟩, hbl⟩
  exact ⟨g, rfl, ⟨_, v0, v1, hb, Nat.le_trans hB.size hg, hS, Kd.R_lower h0 hB.size, Kd.R_lower h1 hB.size⟩, below_step hB hbl⟩
theorem ch_pin (g : Nat) (its : List S96) (ps : List Int) (a1 r : Int) (ps2 : List Int) (w0 w : World) (hC : CH w0 w g its ps) (h0 : 0 < its.length) (h1 : its.length ≤ 1000000) (h2 : ps.length < 1000000) (h : pinE its ps a1 = (r, ps2)) :
    Calls Try.prog 29 #[.pointer (some ⟨g, 0, none⟩), .int .i64 a1] w fun e w' => e = .returned (.int .i64 r) ∧ CH w0 w' g its ps2 := by
  obtain ⟨⟨S, hc⟩, hb⟩ := hC
  refine (pin_.calls g S its ps a1 r ps2 w0 w hc hb h0 h1 h2 h).mono ?_
  rintro e w' ⟨rfl, hd⟩
  exact ⟨rfl, ⟨_, hd.chn⟩, hd.bl⟩
theorem ch_publish (g : Nat) (its its2 : List S96) (ps : List Int) (a1 a2 r : Int) (w0 w : World) (hC : CH w0 w g its ps) (h0 : 0 < its.length) (h1 : its.length < 1000000) (h2 : ps.length ≤ 1000000) (h : pubE its ps a1 a2 = (r, its2)) :
    Calls Try.prog 27 #[.pointer (some ⟨g, 0, none⟩), .int .i64 a1, .int .i64 a2] w fun e w' => e = .returned (.int .i64 r) ∧ CH w0 w' g its2 ps := by
  obtain ⟨⟨S, hc⟩, hb⟩ := hC
  refine (publish_.calls g S its its2 ps a1 a2 r w0 w hc hb h0 h1 h2 h).mono ?_
  rintro e w' ⟨rfl, hd⟩
  exact ⟨rfl, ⟨_, hd.chn⟩, hd.bl⟩
theorem ch_unpin (g : Nat) (its its2 : List S96) (ps ps2 : List Int) (a1 r : Int) (w0 w : World) (hC : CH w0 w g its ps) (h0 : 0 < its.length) (h1 : its.length ≤ 1000000) (h2 : ps.length ≤ 1000000) (h : unpE its ps a1 = (r, its2, ps2)) :
    Calls Try.prog 31 #[.pointer (some ⟨g, 0, none⟩), .int .i64 a1] w fun e w' => e = .returned (.int .i64 r) ∧ CH w0 w' g its2 ps2 := by
  obtain ⟨⟨S, hc⟩, hb⟩ := hC
  refine (unpin_.calls g S its its2 ps ps2 a1 r w0 w hc hb h0 h1 h2 h).mono ?_
  rintro e w' ⟨rfl, hd⟩
  exact ⟨rfl, ⟨_, hd.chn⟩, hd.bl⟩
theorem ch_get (g : Nat) (its : List S96) (ps : List Int) (a1 r1 : Int) (r2 : Bool) (w0 w : World) (hC : CH w0 w g its ps) (h0 : 0 < its.length) (h1 : its.length ≤ 1000000) (h2 : ps.length ≤ 1000000) (h : getE its ps a1 = (r1, r2)) :
    Calls Try.prog 37 #[.pointer (some ⟨g, 0, none⟩), .int .i64 a1] w fun e w' => e = .returned (.tuple #[.int .i64 r1, .bool r2]) ∧ CH w0 w' g its ps := by
  refine (get_.calls g its ps a1 r1 r2 w hC.view h0 h1 h2 h).mono ?_
  rintro e w' ⟨rfl, hb⟩
  exact ⟨rfl, hC.below hb⟩
theorem ch_live (g : Nat) (its : List S96) (ps : List Int) (w0 w : World) (hC : CH w0 w g its ps) :
    Calls Try.prog 33 #[.pointer (some ⟨g, 0, none⟩)] w fun e w' => e = .returned (.int .i64 (its.length : Int)) ∧ CH w0 w' g its ps := by
  refine (live_.calls g its ps w hC.view).mono ?_
  rintro e w' ⟨rfl, hb⟩
  exact ⟨rfl, hC.below hb⟩
theorem ch_pins (g : Nat) (its : List S96) (ps : List Int) (w0 w : World) (hC : CH w0 w g its ps) :
    Calls Try.prog 35 #[.pointer (some ⟨g, 0, none⟩)] w fun e w' => e = .returned (.int .i64 (ps.length : Int)) ∧ CH w0 w' g its ps := by
  refine (pins_.calls g its ps w hC.view).mono ?_
  rintro e w' ⟨rfl, hb⟩
  exact ⟨rfl, hC.below hb⟩
theorem ch_now (g : Nat) (its : List S96) (ps : List Int) (w0 w : World) (hC : CH w0 w g its ps) (h0 : 0 < its.length) (h1 : its.length ≤ 1000000) :
    Calls Try.prog 36 #[.pointer (some ⟨g, 0, none⟩)] w fun e w' => e = .returned (.int .i64 (nowV its)) ∧ CH w0 w' g its ps := by
  refine (now_.calls g its ps w hC.view h0 h1).mono ?_
  rintro e w' ⟨rfl, hb⟩
  exact ⟨rfl, hC.below hb⟩
set_option maxHeartbeats 8000000 in
set_option maxRecDepth 100000 in
theorem awake_.calls (w : World) : Calls Try.prog 24 #[] w fun e w' => e = .returned (.bool true) ∧ Below w.heap.size w w' := by
  have p1 : pinE [⟨0, 5⟩] [] 0 = (0, [0]) := rfl
  have p2 : pubE [⟨0, 5⟩] [0] 1 6 = (0, [⟨0, 5⟩, ⟨1, 6⟩]) := rfl
  have p3 : getE [⟨0, 5⟩, ⟨1, 6⟩] [0] 0 = (5, true) := rfl
  have p4 : unpE [⟨0, 5⟩, ⟨1, 6⟩] [0] 0 = (0, [⟨1, 6⟩], []) := rfl
  go_enter Try.func24, Try.ntmps24
  go_wp2_with (first
    | (go_at_call 25; refine (ch_new 5 w _ (Below.refl _ _)).mono ?_; rintro e w1 ⟨g, rfl, hc1⟩; have C1 := Aside0.mk hc1; clear hc1)
    | (go_at_call 29; refine (ch_pin g _ _ 0 0 [0] w _ C1.out (by decide) (by decide) (by decide) p1).mono ?_; rintro e w2 ⟨rfl, hc⟩; have C2 := Aside0.mk hc; clear hc)
    | (go_at_call 27; refine (ch_publish g _ _ _ 1 6 0 w _ C2.out (by decide) (by decide) (by decide) p2).mono ?_; rintro e w3 ⟨rfl, hc⟩; have C3 := Aside0.mk hc; clear hc)
    | (go_at_call 37; refine (ch_get g _ _ 0 5 true w _ C3.out (by decide) (by decide) (by decide) p3).mono ?_; rintro e w4 ⟨rfl, hc⟩; have C4 := Aside0.mk hc; clear hc)
    | (go_at_call 33; refine (ch_live g _ _ w _ C6.out).mono ?_; rintro e w7 ⟨rfl, hc⟩; have C7 := Aside0.mk hc; clear hc)
    | (go_at_call 33; refine (ch_live g _ _ w _ C4.out).mono ?_; rintro e w5 ⟨rfl, hc⟩; have C5 := Aside0.mk hc; clear hc)
    | (go_at_call 31; refine (ch_unpin g _ _ _ _ 0 0 w _ C5.out (by decide) (by decide) (by decide) p4).mono ?_; rintro e w6 ⟨rfl, hc⟩; have C6 := Aside0.mk hc; clear hc)
    | (go_at_call 36; refine (ch_now g _ _ w _ C7.out (by decide) (by decide)).mono ?_; rintro e w8 ⟨rfl, hc⟩; have C8 := Aside0.mk hc; clear hc))
  go_ret
  exact ⟨rfl, C8.out.bl⟩

end Go.Proofs.Ytdemogdagemagaa.PVc
