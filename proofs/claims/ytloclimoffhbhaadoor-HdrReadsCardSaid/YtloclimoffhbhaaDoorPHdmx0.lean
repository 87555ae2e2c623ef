-- Written by wip/myprint.py and wip/merge.py (this session's own programs); Lean checks it.
import Derived.Test.YtloclimoffhbhaaDoorProg
import Derived.Below
import Derived.Deep.Draws
import Derived.Deep.AppendLies
import Derived.Maps.AppendAt
import Derived.OwnWalk
import Derived.Laws.BytesArg
import Derived.Laws.MakeOwn
import Derived.Laws.OwnMore
import Derived.Deep.OwnRows
import Derived.Tactics
import Derived.Lib.ConvBytes
import Derived.Laws.Slices
import Derived.WalkKit
import Derived.KernelRfl
import Derived.RowKit3
import Derived.Deep.LoopGhost
import Derived.Deep.QuietTactic
import Derived.BigQuiet
import Derived.WideLaws
import Derived.Deep.DeepCutAuto
import Derived.Deep.CutBlock
import Derived.Deep.RegionHeld3
import Derived.Laws.Rows
import Derived.Lib.AppendStr
import Derived.ArgAppend
import Derived.Laws.IdiomCopy
import Derived.OrdersHeld
import Derived.Laws.BitsLemmas
import Derived.RowKit
import Derived.Test.YtloclimoffhbhaaDoorGood
import Derived.LoopN
import Derived.Laws.PanicsMore
import Derived.Test.YtloclimoffhbhaaDoorWWords
import Derived.Test.YtloclimoffhbhaaDoorWLast
import Derived.Test.YtloclimoffhbhaaDoorWTab
import Derived.Test.YtloclimoffhbhaaDoorWFour
import Derived.Test.YtloclimoffhbhaaDoorWQPut
import Derived.Test.YtloclimoffhbhaaDoorWApart
import Derived.Test.YtloclimoffhbhaaDoorWArr
import Derived.Test.YtloclimoffhbhaaDoorWZeros
import Derived.Test.YtloclimoffhbhaaDoorWFoot
import Derived.Test.YtloclimoffhbhaaDoorWKept
import Derived.Test.YtloclimoffhbhaaDoorWShare
import Derived.Test.YtloclimoffhbhaaDoorWN
import Derived.Test.YtloclimoffhbhaaDoorWFootNe
import Derived.Test.YtloclimoffhbhaaDoorWAt
import Derived.Test.YtloclimoffhbhaaDoorWEqStruct
import Derived.Test.YtloclimoffhbhaaDoorWRepsOne
import Derived.Test.YtloclimoffhbhaaDoorWInv
import Derived.Test.YtloclimoffhbhaaDoorWInvWords
import Derived.Test.YtloclimoffhbhaaDoorWGuard
import Derived.Test.YtloclimoffhbhaaDoorWNEv
import Derived.Test.YtloclimoffhbhaaDoorWMore
namespace Go.Proofs.YtloclimoffhbhaaDoor.PHdm
open Go.RowKit Go.Proofs.YtloclimoffhbhaaDoorW.PrintWords Go.Proofs.YtloclimoffhbhaaDoorW.PrintLast Go.Proofs.YtloclimoffhbhaaDoorW.PrintMore
attribute [local go_sem] max2_int min2_int max_two min_two max_three min_three max_four min_four   -- for this text's walks alone
set_option linter.unusedVariables false
set_option linter.unusedSimpArgs false



def errW : Option Int → Value
  | none => .nilIface
  | some c => .iface 0 (.int .i64 c)
theorem errW_none : errW none = .nilIface := rfl
theorem errW_some (c : Int) : errW (some c) = .iface 0 (.int .i64 c) := rfl

theorem info3 : (Tryd.prog.info? 3).map (fun i => (i.zero, i.size, i.bytes)) = some (some (.int .i64 0), 1, 8) := by kernel_rfl
theorem info5 : (Tryd.prog.info? 5).map (fun i => (i.zero, i.size, i.bytes)) = some (some (.int .u8 0), 1, 1) := by kernel_rfl
theorem info9 : (Tryd.prog.info? 9).map (fun i => (i.zero, i.size, i.bytes)) = some (some (.string ⟨#[]⟩), 1, 16) := by kernel_rfl
-- the values' own types
def rd_L2 (xs : List (List ByteArray)) (i : Int) : (List ByteArray) := xs.getD i.toNat ([] : List ByteArray)
theorem at_L2 {w : World} {A : Option Addr} {n : Nat} {xs : List (List ByteArray)} (h : Kd.C (Kd.slice 9 Kd.string) w A n xs) (i : Int) (h0 : 0 ≤ i) (h1 : i < n) : ∃ ad A0 c0, A = some ad ∧ w.cell? (ad.add i.toNat) = some (.slice A0 (rd_L2 xs i).length c0) ∧ (rd_L2 xs i).length ≤ c0 ∧ Kd.string.C w A0 (rd_L2 xs i).length (rd_L2 xs i) := by
  obtain ⟨ad, c, e, _, hK, hc0⟩ := Kd.C_get h ([] : List ByteArray) i h0 h1
  have hc : ∀ j u, c[j]? = some u → w.cell? (ad.add (i.toNat * 1 + j)) = some u := hc0
  obtain ⟨A0, c0, rfl, l0, g0⟩ := hK
  exact ⟨ad, A0, c0, e, by have hq := hc 0 _ rfl; rwa [Nat.mul_one, Nat.add_zero] at hq, l0, g0⟩

end Go.Proofs.YtloclimoffhbhaaDoor.PHdm

namespace Go.Proofs.YtloclimoffhbhaaDoor.PHdm
open Go.RowKit Go.Proofs.YtloclimoffhbhaaDoorW.PrintWords Go.Proofs.YtloclimoffhbhaaDoorW.PrintLast Go.Proofs.YtloclimoffhbhaaDoorW.PrintMore
attribute [local go_sem] max2_int min2_int max_two min_two max_three min_three max_four min_four   -- for this text's walks alone
set_option linter.unusedVariables false
set_option linter.unusedSimpArgs false

theorem eqA67 (d : Nat) (w : World) (x0 y0 : Int) (x1 y1 : Int) (x2 y2 : Int) (x3 y3 : Int) (x4 y4 : Int) :
    (Op.equalIn (d + 2) 67 (.agg #[.int .u32 x0, .int .u32 x1, .int .u8 x2, .int .u16 x3, .int .u16 x4]) (.agg #[.int .u32 y0, .int .u32 y1, .int .u8 y2, .int .u16 y3, .int .u16 y4])).run Tryd.prog w = .ok (x0 == y0 && (x1 == y1 && (x2 == y2 && (x3 == y3 && (x4 == y4))))) w := by
  refine eqA_of Tryd.underlying67 (by kernel_rfl) ?_
  refine eqf_cons (by rfl) (by go_simp; rfl) (by go_simp; rfl) (by go_simp) ?_
  refine eqf_cons (by rfl) (by go_simp; rfl) (by go_simp; rfl) (by go_simp) ?_
  refine eqf_cons (by rfl) (by go_simp; rfl) (by go_simp; rfl) (by go_simp) ?_
  refine eqf_cons (by rfl) (by go_simp; rfl) (by go_simp; rfl) (by go_simp) ?_
  exact eqf_last (by rfl) (by go_simp; rfl) (by go_simp; rfl) (by go_simp)
end Go.Proofs.YtloclimoffhbhaaDoor.PHdm

namespace Go.Proofs.YtloclimoffhbhaaDoor.PHdm
open Go.RowKit Go.Proofs.YtloclimoffhbhaaDoorW.PrintWords Go.Proofs.YtloclimoffhbhaaDoorW.PrintLast Go.Proofs.YtloclimoffhbhaaDoorW.PrintMore
attribute [local go_sem] max2_int min2_int max_two min_two max_three min_three max_four min_four   -- for this text's walks alone
set_option linter.unusedVariables false
set_option linter.unusedSimpArgs false

/-! ### strconv_Itoa_76: function 76 (by hand) -/
def strconv_Itoa_76.f (a0 : Int) : Option ByteArray := if -9223372036854775808 ≤ a0 ∧ a0 ≤ 9223372036854775807 then some ⟨(Lib.itoa a0).toArray⟩ else none
theorem strconv_Itoa_76.calls (a0 : Int) (r : ByteArray) (w : World) (hG : Hand.Good false true w) (h : strconv_Itoa_76.f a0 = some r) :
    Calls Tryd.prog 76 #[.int .i64 a0] w fun e w' => e = .returned (.string r) ∧ Below w.heap.size w w' := by
  unfold strconv_Itoa_76.f at h
  by_cases c : -9223372036854775808 ≤ a0 ∧ a0 ≤ 9223372036854775807
  · rw [if_pos c] at h
    obtain rfl := Option.some.inj h
    exact Hand.itoa_calls a0 w hG c.1 c.2
  · rw [if_neg c] at h; cases h

end Go.Proofs.YtloclimoffhbhaaDoor.PHdm

namespace Go.Proofs.YtloclimoffhbhaaDoor.PHdm
open Go.RowKit Go.Proofs.YtloclimoffhbhaaDoorW.PrintWords Go.Proofs.YtloclimoffhbhaaDoorW.PrintLast Go.Proofs.YtloclimoffhbhaaDoorW.PrintMore
attribute [local go_sem] max2_int min2_int max_two min_two max_three min_three max_four min_four   -- for this text's walks alone
set_option linter.unusedVariables false
set_option linter.unusedSimpArgs false

/-! ### strings_Join: function 77 (by hand) -/
def strings_Join.f (l0 : List ByteArray) (a1 : ByteArray) : Option ByteArray := if (Lib.join (l0.map (·.data.toList)) a1.data.toList).length ≤ 140737488355328 ∧ l0.length ≤ 140737488355328 then some ⟨(Lib.join (l0.map (·.data.toList)) a1.data.toList).toArray⟩ else none
theorem strings_Join.calls (A0 : Option Addr) (c0 : Nat) (l0 : List ByteArray) (a1 : ByteArray) (r : ByteArray) (w : World) (hr0 : Kd.C Kd.string w A0 l0.length l0) (hc0 : l0.length ≤ c0) (h : strings_Join.f l0 a1 = some r) :
    Calls Tryd.prog 77 #[.slice A0 l0.length c0, .string a1] w fun e w' => e = .returned (.string r) ∧ Below w.heap.size w w' := by
  unfold strings_Join.f at h
  by_cases c : (Lib.join (l0.map (·.data.toList)) a1.data.toList).length ≤ 140737488355328 ∧ l0.length ≤ 140737488355328
  · rw [if_pos c] at h
    obtain rfl := Option.some.inj h
    exact Hand.join_calls A0 c0 l0 a1 w hr0 hc0 c.1 c.2
  · rw [if_neg c] at h; cases h

end Go.Proofs.YtloclimoffhbhaaDoor.PHdm

namespace Go.Proofs.YtloclimoffhbhaaDoor.PHdm
open Go.RowKit Go.Proofs.YtloclimoffhbhaaDoorW.PrintWords Go.Proofs.YtloclimoffhbhaaDoorW.PrintLast Go.Proofs.YtloclimoffhbhaaDoorW.PrintMore
attribute [local go_sem] max2_int min2_int max_two min_two max_three min_three max_four min_four   -- for this text's walks alone
set_option linter.unusedVariables false
set_option linter.unusedSimpArgs false

/-! ### hdr_Addr: function 53 -/
def hdr_Addr.l0 : Nat → Int → List ByteArray → Int → Option (ByteArray)
  | 0, _, _, _ => none
  | k + 1, x0, x3, x4 => if x4 ≥ 0 then (if 0 ≤ x4 then ((strconv_Itoa_76.f (wrap64 (Go.bits .and .u32 (shr .u32 x0 x4) 255))).bind fun t121 => (if x3.length < 8796093022208 then (hdr_Addr.l0 k x0 (x3 ++ [t121]) (wrap64 (x4 - 8))) else (none))) else (none)) else ((strings_Join.f x3 (⟨#[46]⟩ : ByteArray)).bind fun t125 => (some t125))
def hdr_Addr.f (k : Nat) (a0 : Int) : Option (ByteArray) := hdr_Addr.l0 k a0 ([] : List ByteArray) 24
theorem hdr_Addr.mono_l : ∀ k, (∀ y0 y1 y2, LeO (hdr_Addr.l0 k y0 y1 y2) (hdr_Addr.l0 (k + 1) y0 y1 y2))
  | 0 => fun _ _ _ r h => by simp [hdr_Addr.l0] at h
  | k + 1 => by
    have ih0 := hdr_Addr.mono_l k
    · intro y0 y1 y2
      unfold hdr_Addr.l0
      repeat' first
      | (with_reducible exact ih0 _ _ _)
      | (with_reducible exact LeO.refl _)
      | (with_reducible exact LeO.none _)
      | (with_reducible refine LeO.ite ?_ ?_)
      | (with_reducible refine LeO.bind ?_ (fun _ => ?_))
      | exact ih0 _ _ _
      | exact LeO.none _
      | refine LeO.ite ?_ ?_
      | refine LeO.bind ?_ (fun _ => ?_)
theorem hdr_Addr.mono : ∀ a0 k, LeO (hdr_Addr.f k a0) (hdr_Addr.f (k + 1) a0) := by
  intro a0 k
  have ih0 := hdr_Addr.mono_l k
  unfold hdr_Addr.f
  repeat' first
      | (with_reducible exact ih0 _ _ _)
      | (with_reducible exact LeO.refl _)
      | (with_reducible exact LeO.none _)
      | (with_reducible refine LeO.ite ?_ ?_)
      | (with_reducible refine LeO.bind ?_ (fun _ => ?_))
      | exact ih0 _ _ _
      | exact LeO.none _
      | refine LeO.ite ?_ ?_
      | refine LeO.bind ?_ (fun _ => ?_)
set_option maxHeartbeats 8000000 in
set_option maxRecDepth 100000 in
theorem hdr_Addr.calls (k : Nat) (a0 : Int) (r : ByteArray) (w : World) (hG : Hand.Good false true w) (h : hdr_Addr.f k a0 = some r) :
    Calls Tryd.prog 53 #[.int .u32 a0] w fun e w' => e = .returned (.string r) ∧ Below w.heap.size w w' := by
  have HB := Aside0.mk (Below.refl w.heap.size w)
  have hGG := Aside0.mk hG
  clear hG
  have H : (hdr_Addr.l0 k a0 ([] : List ByteArray) 24) = some r := h
  clear h
  have H' := Aside0.mk H
  clear H
  go_enter Tryd.func53, Tryd.ntmps53
  go_wp2
  go_loopg [3, 4] k (fun kq v3 v4 w' => ∃ (x3_1 : List ByteArray) (x4_1 : Int), v4 = .int .i64 x4_1 ∧ Aside0 (hdr_Addr.l0 kq a0 x3_1 x4_1 = some r) ∧ Aside0 (kq ≤ k) ∧ Aside0 (Kd.R Kd.string 9 w' w.heap.size (fun _ => True) v3 x3_1) ∧ Aside0 (Below w.heap.size w w'))
  case atStart => exact ⟨(([] : List ByteArray)), (24), (by first | rfl | (simp; done) | (simp [*]; done)), H', ⟨Nat.le_refl _⟩, ⟨by first | exact Kd.R_nil _ _ _ _ _ | exact Kd.N_nil _ _ _ _ _ | exact Kd.V_nil _ _ _ _ _ | exact Kd.Q_nil _ _ _ _ _ | exact Kd.S_nil _ _ _ _ _⟩, ⟨by repeat (first | (with_reducible first | exact HB.out | apply below_alloc | apply pw_below_drewN | apply below_drew1) | exact HB.out)⟩⟩
  case round =>
    clear H'
    obtain ⟨x3_1, x4_1, rfl, HA, HK1, HO_3, HB⟩ := hrel
    cases gk with
    | zero => exact absurd HA.out (by simp [hdr_Addr.l0])
    | succ k1 =>
      have H := HA.out
      clear HA
      simp only [hdr_Addr.l0] at H
      by_cases c2 : x4_1 ≥ 0
      · rw [if_pos c2] at H
        have c2b0 : decide (0 ≤ x4_1) = true := decide_eq_true c2
        clear c2
        by_cases c3 : 0 ≤ x4_1
        · rw [if_pos c3] at H
          have c3b0 := eq_true c3
          have c3b1 : decide (0 ≤ x4_1) = true := decide_eq_true c3
          clear c3
          obtain ⟨ji4, hji4⟩ : ∃ j_ : Int, (shr .u32 a0 x4_1) = j_ := ⟨_, rfl⟩
          replace H : ((strconv_Itoa_76.f (wrap64 (Go.bits .and .u32 (ji4) 255))).bind fun t121 => (if x3_1.length < 8796093022208 then (hdr_Addr.l0 k1 a0 (x3_1 ++ [t121]) (wrap64 (x4_1 - 8))) else (none))) = some r := by first | (rw [hji4] at H; exact H) | (simp only [hji4] at H ⊢; exact H)
          have hji4_ : (a0 / 2 ^ min x4_1.toNat 32) = ji4 := hji4
          have hji4z : x4_1 ≤ 32 → (a0 / 2 ^ x4_1.toNat) = ji4 := shr_small hji4
          replace H := Option.bind_eq_some_iff.mp H
          obtain ⟨t121, A50, H⟩ := H
          replace H : (if x3_1.length < 8796093022208 then (hdr_Addr.l0 k1 a0 (x3_1 ++ [t121]) (wrap64 (x4_1 - 8))) else (none)) = some r := H
          have A5 := Aside0.mk A50
          clear A50
          by_cases c6 : x3_1.length < 8796093022208
          · rw [if_pos c6] at H
            have LMc6 := Aside0.mk c6
            clear c6
            obtain ⟨y122, hy122⟩ : ∃ y_ : List ByteArray, y_ = (x3_1 ++ [t121]) := ⟨_, rfl⟩
            replace H : (hdr_Addr.l0 k1 a0 y122 (wrap64 (x4_1 - 8))) = some r := by first | (rw [hy122]; with_reducible exact H) | (have H2_ := (Option.bind_some _ _).symm.trans H; rw [hy122]; with_reducible exact H2_) | (have H2_ := (Option.bind_some _ _).symm.trans H; with_reducible exact H2_) | with_reducible exact H | (rw [hy122]; exact H) | exact H
            have Ny122 := Aside0.mk hy122
            clear hy122
            have H' := Aside0.mk H
            clear H
            go_wp2_with (first | ((with_reducible refine gate_callee (f := 76) rfl ?_); refine goesL_ (some 15) rfl rfl Tryd.func76 (by kernel_rfl) rfl #[.int .i64 (wrap64 (Go.bits .and .u32 (ji4) 255))] rfl (by (try simp only [List.map_toArray, List.map_cons, List.map_nil]); first | done | (simp only [hji4]; rfl) | rfl | (simp only [List.length_drop, List.length_take]; rfl)) ?_; (with_reducible refine (strconv_Itoa_76.calls (wrap64 (Go.bits .and .u32 (ji4) 255)) t121 _ (Hand.Good.below false true hGG.out (by repeat (first | (with_reducible first | exact HB.out | apply below_alloc | apply pw_below_drewN | apply below_drew1) | exact HB.out)) rfl rfl) A5.out).mono ?_); rintro e w7 ⟨rfl, hb⟩; refine ⟨_, rfl, ?_⟩; have n0_ := Aside0.mk (Kd.R_below (by (with_reducible repeat (first | apply Kd.R_alloc | apply Kd.R_drewN | apply Kd.R_drew)); exact HO_3.out) hb); have n1_ := Aside0.mk (below_step (by repeat (first | (with_reducible first | exact HB.out | apply below_alloc | apply pw_below_drewN | apply below_drew1) | exact HB.out)) hb); clear HO_3; clear HB; have HO_3 := n0_; have HB := n1_; clear n0_ n1_; (try clear hb); (try clear hb2); (try clear hk); (try clear hi)) | ((with_reducible refine gate_builtin (b := .append) (xs := #[.tmp 9, .tmp 16]) rfl ?_); at_builtin; refine Kd.R_append Kd.string (w0 := w) w.heap.size rfl (.tmp 9) (.tmp 16) 30 9 (.string ⟨#[]⟩) 16 rfl Tryd.underlying30 info9 rfl (by decide) (by omega) u3 x3_1 t121 [.string t121] (fun _ => True) (fun _ => False) rfl rfl ?aP (fun _ hk => hk.elim) ?aF ?aO ?aB ?aS ?aL ?_; (case aP => exact rfl); (case aB => exact (by repeat (first | (with_reducible first | exact HB.out | apply below_alloc | apply pw_below_drewN | apply below_drew1) | exact HB.out))); (case aF => exact (fun _ _ => trivial)); (case aO => exact (by (with_reducible repeat (first | apply Kd.R_alloc | apply Kd.R_drewN | apply Kd.R_drew)); exact HO_3.out)); (case aS => exact (below_size (by repeat (first | (with_reducible first | exact HB.out | apply below_alloc | apply pw_below_drewN | apply below_drew1) | exact HB.out)))); (case aL => have := LMc6.out; omega); intro v123 w8 ho hb hg hat; rw [← Ny122.out] at ho; have n0_ := Aside0.mk (hb); have n1_ := Aside0.mk (ho); clear HB; clear HO_3; have HB := n0_; have HO124 := n1_; clear n0_ n1_; clear ho hb hg hat))
            go_roundg k1
            case measure => have := HK1.out; omega
            case rel => exact ⟨(y122), (wrap64 (x4_1 - 8)), (by first | rfl | (simp; done) | (simp [*]; done)), H', ⟨by have := HK1.out; omega⟩, ⟨by (with_reducible repeat (first | apply Kd.R_alloc | apply Kd.R_drewN | apply Kd.R_drew)); exact HO124.out⟩, ⟨by repeat (first | (with_reducible first | exact HB.out | apply below_alloc | apply pw_below_drewN | apply below_drew1) | exact HB.out)⟩⟩
          · rw [if_neg c6] at H
            exact absurd H (by simp)
        · rw [if_neg c3] at H
          exact absurd H (by simp)
      · rw [if_neg c2] at H
        have c2b0 : decide (0 ≤ x4_1) = false := decide_eq_false c2
        clear c2
        replace H := Option.bind_eq_some_iff.mp H
        obtain ⟨t125, A90, H⟩ := H
        replace H : (some t125) = some r := H
        have A9 := Aside0.mk A90
        clear A90
        obtain rfl := Option.some.inj H
        obtain ⟨Ao10, co10, eo10⟩ := Kd.R_slice HO_3.out
        subst eo10
        go_wp2_with (first | ((with_reducible refine gate_callee (f := 77) rfl ?_); refine goesL_ (some 19) rfl rfl Tryd.func77 (by kernel_rfl) rfl #[.slice Ao10 x3_1.length co10, .string (⟨#[46]⟩ : ByteArray)] rfl (by (try simp only [List.map_toArray, List.map_cons, List.map_nil]); first | done | rfl | (simp only [List.length_drop, List.length_take]; rfl)) ?_; (with_reducible refine (strings_Join.calls _ _ x3_1 (⟨#[46]⟩ : ByteArray) t125 _ ?side1 ?side2 A9.out).mono ?_); (case side1 => repeat (first | exact (Kd.R_reads' HO_3.out).2.2 | (with_reducible refine Kd.C_alloc ?_ _) | (with_reducible refine Kd.C_drewN ?_ _) | (with_reducible refine Kd.C_drew ?_))); (case side2 => exact (Kd.R_reads' HO_3.out).2.1); rintro e w11 ⟨rfl, hb⟩; refine ⟨_, rfl, ?_⟩; have n0_ := Aside0.mk (Kd.R_below (by (with_reducible repeat (first | apply Kd.R_alloc | apply Kd.R_drewN | apply Kd.R_drew)); exact HO_3.out) hb); have n1_ := Aside0.mk (below_step (by repeat (first | (with_reducible first | exact HB.out | apply below_alloc | apply pw_below_drewN | apply below_drew1) | exact HB.out)) hb); clear HO_3; clear HB; have HO_3 := n0_; have HB := n1_; clear n0_ n1_; (try clear hb); (try clear hb2); (try clear hk); (try clear hi)))
        go_ret
        exact ⟨by first | rfl | (simp [errW_none, errW_some] <;> rfl) | (simp [*, errW_none, errW_some] <;> rfl), by repeat (first | (with_reducible first | exact HB.out | apply below_alloc | apply pw_below_drewN | apply below_drew1) | exact HB.out)⟩

end Go.Proofs.YtloclimoffhbhaaDoor.PHdm

namespace Go.Proofs.YtloclimoffhbhaaDoor.PHdm
open Go.RowKit Go.Proofs.YtloclimoffhbhaaDoorW.PrintWords Go.Proofs.YtloclimoffhbhaaDoorW.PrintLast Go.Proofs.YtloclimoffhbhaaDoorW.PrintMore
attribute [local go_sem] max2_int min2_int max_two min_two max_three min_three max_four min_four   -- for this text's walks alone
set_option linter.unusedVariables false
set_option linter.unusedSimpArgs false

/-! ### hdr_Bit: function 38 -/
def hdr_Bit.j0 : Nat → Int → Bool → Int → Int → Int → Int → Int → Option (Bool)
  | 0, _, _, _, _, _, _, _ => none
  | k + 1, x1, x5, x102000, x102001, x102002, x102003, x102004 => if x5 = true then (some false) else (if x1 < 32 then (if 0 ≤ (wrap64 (31 - x1)) then (some ((Go.bits .and .u32 (shr .u32 x102000 (wrap64 (31 - x1))) 1) == 1)) else (none)) else (if x1 < 64 then (if 0 ≤ (wrap64 (31 - (wrap64 (x1 - 32)))) then (some ((Go.bits .and .u32 (shr .u32 x102001 (wrap64 (31 - (wrap64 (x1 - 32))))) 1) == 1)) else (none)) else (if x1 < 72 then (if 0 ≤ (wrap64 (7 - (wrap64 (x1 - 64)))) then (some ((Go.bits .and .u8 (shr .u8 x102002 (wrap64 (7 - (wrap64 (x1 - 64))))) 1) == 1)) else (none)) else (if x1 < 88 then (if 0 ≤ (wrap64 (15 - (wrap64 (x1 - 72)))) then (some ((Go.bits .and .u16 (shr .u16 x102003 (wrap64 (15 - (wrap64 (x1 - 72))))) 1) == 1)) else (none)) else (if 0 ≤ (wrap64 (15 - (wrap64 (x1 - 88)))) then (some ((Go.bits .and .u16 (shr .u16 x102004 (wrap64 (15 - (wrap64 (x1 - 88))))) 1) == 1)) else (none))))))
def hdr_Bit.f (k : Nat) (a0_0 : Int) (a0_1 : Int) (a0_2 : Int) (a0_3 : Int) (a0_4 : Int) (a1 : Int) : Option (Bool) := if a1 < 0 then (hdr_Bit.j0 k a1 true a0_0 a0_1 a0_2 a0_3 a0_4) else (hdr_Bit.j0 k a1 (decide (a1 ≥ 104)) a0_0 a0_1 a0_2 a0_3 a0_4)
theorem hdr_Bit.mono_l : ∀ k, (∀ y0 y1 y2 y3 y4 y5 y6, LeO (hdr_Bit.j0 k y0 y1 y2 y3 y4 y5 y6) (hdr_Bit.j0 (k + 1) y0 y1 y2 y3 y4 y5 y6))
  | 0 => fun _ _ _ _ _ _ _ r h => by simp [hdr_Bit.j0] at h
  | k + 1 => by
    have ih0 := hdr_Bit.mono_l k
    · intro y0 y1 y2 y3 y4 y5 y6
      unfold hdr_Bit.j0
      repeat' first
      | (with_reducible exact ih0 _ _ _ _ _ _ _)
      | (with_reducible exact LeO.refl _)
      | (with_reducible exact LeO.none _)
      | (with_reducible refine LeO.ite ?_ ?_)
      | (with_reducible refine LeO.bind ?_ (fun _ => ?_))
      | exact ih0 _ _ _ _ _ _ _
      | exact LeO.none _
      | refine LeO.ite ?_ ?_
      | refine LeO.bind ?_ (fun _ => ?_)
theorem hdr_Bit.mono : ∀ a0 a1 a2 a3 a4 a5 k, LeO (hdr_Bit.f k a0 a1 a2 a3 a4 a5) (hdr_Bit.f (k + 1) a0 a1 a2 a3 a4 a5) := by
  intro a0 a1 a2 a3 a4 a5 k
  have ih0 := hdr_Bit.mono_l k
  unfold hdr_Bit.f
  repeat' first
      | (with_reducible exact ih0 _ _ _ _ _ _ _)
      | (with_reducible exact LeO.refl _)
      | (with_reducible exact LeO.none _)
      | (with_reducible refine LeO.ite ?_ ?_)
      | (with_reducible refine LeO.bind ?_ (fun _ => ?_))
      | exact ih0 _ _ _ _ _ _ _
      | exact LeO.none _
      | refine LeO.ite ?_ ?_
      | refine LeO.bind ?_ (fun _ => ?_)
set_option maxHeartbeats 8000000 in
set_option maxRecDepth 100000 in
theorem hdr_Bit.calls (k : Nat) (a0_0 : Int) (a0_1 : Int) (a0_2 : Int) (a0_3 : Int) (a0_4 : Int) (a1 : Int) (r : Bool) (w : World) (h : hdr_Bit.f k a0_0 a0_1 a0_2 a0_3 a0_4 a1 = some r) :
    Calls Tryd.prog 38 #[.agg #[.int .u32 a0_0, .int .u32 a0_1, .int .u8 a0_2, .int .u16 a0_3, .int .u16 a0_4], .int .i64 a1] w fun e w' => e = .returned (.bool r) ∧ Below w.heap.size w w' := by
  have hu67 := Tryd.underlying67
  have HB := Aside0.mk (Below.refl w.heap.size w)
  have H : (if a1 < 0 then (hdr_Bit.j0 k a1 true a0_0 a0_1 a0_2 a0_3 a0_4) else (hdr_Bit.j0 k a1 (decide (a1 ≥ 104)) a0_0 a0_1 a0_2 a0_3 a0_4)) = some r := h
  clear h
  have HC3 := Aside0.mk H
  clear H
  go_enter Tryd.func38, Tryd.ntmps38
  go_upto_region 1 with (first | ((with_reducible refine gate_dst (N := 2) rfl ?_); refine box_event ?hg (N := 2) ?hd (cs := #[.int .u32 a0_0, .int .u32 a0_1, .int .u8 a0_2, .int .u16 a0_3, .int .u16 a0_4]) (t := 67) ?hr ?_; (case hd => rfl); (case hg => rfl); (case hr => first | (go_simp; done) | (go_simp; rfl)); intro gb101 hg w4 hbox hb; have n0_ := Aside0.mk (below_step (by repeat (first | (with_reducible first | exact HB.out | apply below_alloc | apply pw_below_drewN | apply below_drew1) | exact HB.out)) hb); have n1_ := Aside0.mk (hbox); have n2_ := Aside0.mk ((by rw [hg]; exact (below_size (by repeat (first | (with_reducible first | exact HB.out | apply below_alloc | apply pw_below_drewN | apply below_drew1) | exact HB.out))) : w.heap.size ≤ gb101)); have n3_ := Aside0.mk ((by rw [hg]; exact (below_size (by repeat (first | (with_reducible first | exact HB.out | apply below_alloc | apply pw_below_drewN | apply below_drew1) | exact HB.out))) : w.heap.size ≤ gb101)); clear HB; have HB := n0_; have BK101 := n1_; have GW101 := n2_; have GE101 := n3_; clear n0_ n1_ n2_ n3_; clear hb hbox hg))
  (try simp only [Act.put, List.setIfInBounds_toArray, List.set_cons_zero, List.set_cons_succ])
  go_cut [5] (fun v5 wc => ∃ (kq : Nat) (x5_2 : Bool), v5 = .bool x5_2 ∧ Aside0 (hdr_Bit.j0 kq a1 x5_2 a0_0 a0_1 a0_2 a0_3 a0_4 = some r) ∧ Aside0 (kq ≤ k) ∧ Aside0 (wc.heap[gb101]? = some (.cells #[.int .u32 a0_0, .int .u32 a0_1, .int .u8 a0_2, .int .u16 a0_3, .int .u16 a0_4] 67 (0, 0))) ∧ Aside0 (Below w.heap.size w wc))
  case first =>
    have H := HC3.out
    clear HC3
    by_cases c5 : a1 < 0
    · rw [if_pos c5] at H
      have c5b0 : decide (a1 < 0) = true := decide_eq_true c5
      clear c5
      (first | rw [c5b0] | (simp only [i64_w, i32_w]; rw [c5b0]) | skip)
      have H' := Aside0.mk H
      clear H
      go_wp2
      go_meet
      case rel => exact ⟨_, (true), (by first | rfl | (simp; done) | (simp [*]; done)), H', ⟨by first | omega | exact Nat.le_refl _⟩, ⟨by (with_reducible repeat (first | refine blk_drewN ?_ _ | refine blk_drew ?_ | refine blk_alloc ?_ _)); exact BK101.out⟩, ⟨by repeat (first | (with_reducible first | exact HB.out | apply below_alloc | apply pw_below_drewN | apply below_drew1 | refine below_set ?_ GE101.out) | exact HB.out)⟩⟩
    · rw [if_neg c5] at H
      have c5b0 : decide (a1 < 0) = false := decide_eq_false c5
      clear c5
      (first | rw [c5b0] | (simp only [i64_w, i32_w]; rw [c5b0]) | skip)
      have H' := Aside0.mk H
      clear H
      go_wp2
      go_meet
      case rel => exact ⟨_, (decide (a1 ≥ 104)), (by first | rfl | (simp; done) | (simp [*]; done)), H', ⟨by first | omega | exact Nat.le_refl _⟩, ⟨by (with_reducible repeat (first | refine blk_drewN ?_ _ | refine blk_drew ?_ | refine blk_alloc ?_ _)); exact BK101.out⟩, ⟨by repeat (first | (with_reducible first | exact HB.out | apply below_alloc | apply pw_below_drewN | apply below_drew1 | refine below_set ?_ GE101.out) | exact HB.out)⟩⟩
  case rest =>
    clear HC3
    try clear p2
    try clear c3
    try clear c5
    try clear c5b0
    obtain ⟨kq, x5_2, rfl, HA, HJ2, BK101, HB⟩ := hcut
    cases kq with
    | zero => exact absurd HA.out (by simp [hdr_Bit.j0])
    | succ kj2 =>
      have H := HA.out
      clear HA
      simp only [hdr_Bit.j0] at H
      by_cases c6 : x5_2 = true
      · subst c6
        have H1 : (some false) = some r := by rw [if_pos rfl] at H; exact H
        clear H
        have H := H1
        clear H1
        obtain rfl := Option.some.inj H
        go_wp2
        go_ret
        exact ⟨by first | rfl | (simp [errW_none, errW_some] <;> rfl) | (simp [*, errW_none, errW_some] <;> rfl), by repeat (first | (with_reducible first | exact HB.out | apply below_alloc | apply pw_below_drewN | apply below_drew1 | refine below_set ?_ GE101.out) | exact HB.out)⟩
      · replace c6 := Bool.eq_false_iff.mpr c6
        subst c6
        have H1 : (if a1 < 32 then (if 0 ≤ (wrap64 (31 - a1)) then (some ((Go.bits .and .u32 (shr .u32 a0_0 (wrap64 (31 - a1))) 1) == 1)) else (none)) else (if a1 < 64 then (if 0 ≤ (wrap64 (31 - (wrap64 (a1 - 32)))) then (some ((Go.bits .and .u32 (shr .u32 a0_1 (wrap64 (31 - (wrap64 (a1 - 32))))) 1) == 1)) else (none)) else (if a1 < 72 then (if 0 ≤ (wrap64 (7 - (wrap64 (a1 - 64)))) then (some ((Go.bits .and .u8 (shr .u8 a0_2 (wrap64 (7 - (wrap64 (a1 - 64))))) 1) == 1)) else (none)) else (if a1 < 88 then (if 0 ≤ (wrap64 (15 - (wrap64 (a1 - 72)))) then (some ((Go.bits .and .u16 (shr .u16 a0_3 (wrap64 (15 - (wrap64 (a1 - 72))))) 1) == 1)) else (none)) else (if 0 ≤ (wrap64 (15 - (wrap64 (a1 - 88)))) then (some ((Go.bits .and .u16 (shr .u16 a0_4 (wrap64 (15 - (wrap64 (a1 - 88))))) 1) == 1)) else (none)))))) = some r := by rw [if_neg (show ¬ (false = true) by decide)] at H; exact H
        clear H
        have H := H1
        clear H1
        by_cases c7 : a1 < 32
        · rw [if_pos c7] at H
          have c7b0 : decide (a1 < 32) = true := decide_eq_true c7
          clear c7
          obtain ⟨ji8, hji8⟩ : ∃ j_ : Int, (wrap64 (31 - a1)) = j_ := ⟨_, rfl⟩
          replace H : (if 0 ≤ (ji8) then (some ((Go.bits .and .u32 (shr .u32 a0_0 (ji8)) 1) == 1)) else (none)) = some r := by first | (rw [hji8] at H; exact H) | (simp only [hji8] at H ⊢; exact H)
          have hji8w : (IntKind.i64.wrap (31 - a1)) = ji8 := (i64_w _).trans hji8
          by_cases c9 : 0 ≤ (ji8)
          · rw [if_pos c9] at H
            have c9b0 := eq_true c9
            have c9b1 : decide (0 ≤ (ji8)) = true := decide_eq_true c9
            clear c9
            obtain ⟨ji10, hji10⟩ : ∃ j_ : Int, (shr .u32 a0_0 (ji8)) = j_ := ⟨_, rfl⟩
            replace H : (some ((Go.bits .and .u32 (ji10) 1) == 1)) = some r := by first | (rw [hji10] at H; exact H) | (simp only [hji10] at H ⊢; exact H)
            have hji10_ : (a0_0 / 2 ^ min (ji8).toNat 32) = ji10 := hji10
            have hji10z : (ji8) ≤ 32 → (a0_0 / 2 ^ (ji8).toNat) = ji10 := shr_small hji10
            obtain rfl := Option.some.inj H
            have hcz11_0 : wc.cell? ⟨gb101, 0, none⟩ = some (.int .u32 a0_0) := (blk_cell BK101.out 0).trans rfl
            have hcz11_1 : wc.cell? ⟨gb101, 1, none⟩ = some (.int .u32 a0_1) := (blk_cell BK101.out 1).trans rfl
            have hcz11_2 : wc.cell? ⟨gb101, 2, none⟩ = some (.int .u8 a0_2) := (blk_cell BK101.out 2).trans rfl
            have hcz11_3 : wc.cell? ⟨gb101, 3, none⟩ = some (.int .u16 a0_3) := (blk_cell BK101.out 3).trans rfl
            have hcz11_4 : wc.cell? ⟨gb101, 4, none⟩ = some (.int .u16 a0_4) := (blk_cell BK101.out 4).trans rfl
            have hfz11_0 := blk_frozen BK101.out 0
            have hfz11_1 := blk_frozen BK101.out 1
            have hfz11_2 := blk_frozen BK101.out 2
            have hfz11_3 := blk_frozen BK101.out 3
            have hfz11_4 := blk_frozen BK101.out 4
            go_wp2
            go_ret
            exact ⟨by first | rfl | (simp [errW_none, errW_some] <;> rfl) | (simp only [← hji8, ← hji10]; first | rfl | (simp [errW_none, errW_some] <;> rfl)) | (simp [*, errW_none, errW_some] <;> rfl), by repeat (first | (with_reducible first | exact HB.out | apply below_alloc | apply pw_below_drewN | apply below_drew1 | refine below_set ?_ GE101.out) | exact HB.out)⟩
          · rw [if_neg c9] at H
            exact absurd H (by simp)
        · rw [if_neg c7] at H
          have c7b0 : decide (a1 < 32) = false := decide_eq_false c7
          clear c7
          by_cases c12 : a1 < 64
          · rw [if_pos c12] at H
            have c12b0 : decide (a1 < 64) = true := decide_eq_true c12
            clear c12
            obtain ⟨ji13, hji13⟩ : ∃ j_ : Int, (wrap64 (31 - (wrap64 (a1 - 32)))) = j_ := ⟨_, rfl⟩
            replace H : (if 0 ≤ (ji13) then (some ((Go.bits .and .u32 (shr .u32 a0_1 (ji13)) 1) == 1)) else (none)) = some r := by first | (rw [hji13] at H; exact H) | (simp only [hji13] at H ⊢; exact H)
            have hji13w : (IntKind.i64.wrap (31 - (wrap64 (a1 - 32)))) = ji13 := (i64_w _).trans hji13
            by_cases c14 : 0 ≤ (ji13)
            · rw [if_pos c14] at H
              have c14b0 := eq_true c14
              have c14b1 : decide (0 ≤ (ji13)) = true := decide_eq_true c14
              clear c14
              obtain ⟨ji15, hji15⟩ : ∃ j_ : Int, (shr .u32 a0_1 (ji13)) = j_ := ⟨_, rfl⟩
              replace H : (some ((Go.bits .and .u32 (ji15) 1) == 1)) = some r := by first | (rw [hji15] at H; exact H) | (simp only [hji15] at H ⊢; exact H)
              have hji15_ : (a0_1 / 2 ^ min (ji13).toNat 32) = ji15 := hji15
              have hji15z : (ji13) ≤ 32 → (a0_1 / 2 ^ (ji13).toNat) = ji15 := shr_small hji15
              obtain rfl := Option.some.inj H
              have hcz16_0 : wc.cell? ⟨gb101, 0, none⟩ = some (.int .u32 a0_0) := (blk_cell BK101.out 0).trans rfl
              have hcz16_1 : wc.cell? ⟨gb101, 1, none⟩ = some (.int .u32 a0_1) := (blk_cell BK101.out 1).trans rfl
              have hcz16_2 : wc.cell? ⟨gb101, 2, none⟩ = some (.int .u8 a0_2) := (blk_cell BK101.out 2).trans rfl
              have hcz16_3 : wc.cell? ⟨gb101, 3, none⟩ = some (.int .u16 a0_3) := (blk_cell BK101.out 3).trans rfl
              have hcz16_4 : wc.cell? ⟨gb101, 4, none⟩ = some (.int .u16 a0_4) := (blk_cell BK101.out 4).trans rfl
              have hfz16_0 := blk_frozen BK101.out 0
              have hfz16_1 := blk_frozen BK101.out 1
              have hfz16_2 := blk_frozen BK101.out 2
              have hfz16_3 := blk_frozen BK101.out 3
              have hfz16_4 := blk_frozen BK101.out 4
              go_wp2
              go_ret
              exact ⟨by first | rfl | (simp [errW_none, errW_some] <;> rfl) | (simp only [← hji13, ← hji15]; first | rfl | (simp [errW_none, errW_some] <;> rfl)) | (simp [*, errW_none, errW_some] <;> rfl), by repeat (first | (with_reducible first | exact HB.out | apply below_alloc | apply pw_below_drewN | apply below_drew1 | refine below_set ?_ GE101.out) | exact HB.out)⟩
            · rw [if_neg c14] at H
              exact absurd H (by simp)
          · rw [if_neg c12] at H
            have c12b0 : decide (a1 < 64) = false := decide_eq_false c12
            clear c12
            by_cases c17 : a1 < 72
            · rw [if_pos c17] at H
              have c17b0 : decide (a1 < 72) = true := decide_eq_true c17
              clear c17
              obtain ⟨ji18, hji18⟩ : ∃ j_ : Int, (wrap64 (7 - (wrap64 (a1 - 64)))) = j_ := ⟨_, rfl⟩
              replace H : (if 0 ≤ (ji18) then (some ((Go.bits .and .u8 (shr .u8 a0_2 (ji18)) 1) == 1)) else (none)) = some r := by first | (rw [hji18] at H; exact H) | (simp only [hji18] at H ⊢; exact H)
              have hji18w : (IntKind.i64.wrap (7 - (wrap64 (a1 - 64)))) = ji18 := (i64_w _).trans hji18
              by_cases c19 : 0 ≤ (ji18)
              · rw [if_pos c19] at H
                have c19b0 := eq_true c19
                have c19b1 : decide (0 ≤ (ji18)) = true := decide_eq_true c19
                clear c19
                obtain ⟨ji20, hji20⟩ : ∃ j_ : Int, (shr .u8 a0_2 (ji18)) = j_ := ⟨_, rfl⟩
                replace H : (some ((Go.bits .and .u8 (ji20) 1) == 1)) = some r := by first | (rw [hji20] at H; exact H) | (simp only [hji20] at H ⊢; exact H)
                have hji20_ : (a0_2 / 2 ^ min (ji18).toNat 8) = ji20 := hji20
                have hji20z : (ji18) ≤ 8 → (a0_2 / 2 ^ (ji18).toNat) = ji20 := shr_small hji20
                obtain rfl := Option.some.inj H
                have hcz21_0 : wc.cell? ⟨gb101, 0, none⟩ = some (.int .u32 a0_0) := (blk_cell BK101.out 0).trans rfl
                have hcz21_1 : wc.cell? ⟨gb101, 1, none⟩ = some (.int .u32 a0_1) := (blk_cell BK101.out 1).trans rfl
                have hcz21_2 : wc.cell? ⟨gb101, 2, none⟩ = some (.int .u8 a0_2) := (blk_cell BK101.out 2).trans rfl
                have hcz21_3 : wc.cell? ⟨gb101, 3, none⟩ = some (.int .u16 a0_3) := (blk_cell BK101.out 3).trans rfl
                have hcz21_4 : wc.cell? ⟨gb101, 4, none⟩ = some (.int .u16 a0_4) := (blk_cell BK101.out 4).trans rfl
                have hfz21_0 := blk_frozen BK101.out 0
                have hfz21_1 := blk_frozen BK101.out 1
                have hfz21_2 := blk_frozen BK101.out 2
                have hfz21_3 := blk_frozen BK101.out 3
                have hfz21_4 := blk_frozen BK101.out 4
                go_wp2
                go_ret
                exact ⟨by first | rfl | (simp [errW_none, errW_some] <;> rfl) | (simp only [← hji18, ← hji20]; first | rfl | (simp [errW_none, errW_some] <;> rfl)) | (simp [*, errW_none, errW_some] <;> rfl), by repeat (first | (with_reducible first | exact HB.out | apply below_alloc | apply pw_below_drewN | apply below_drew1 | refine below_set ?_ GE101.out) | exact HB.out)⟩
              · rw [if_neg c19] at H
                exact absurd H (by simp)
            · rw [if_neg c17] at H
              have c17b0 : decide (a1 < 72) = false := decide_eq_false c17
              clear c17
              by_cases c22 : a1 < 88
              · rw [if_pos c22] at H
                have c22b0 : decide (a1 < 88) = true := decide_eq_true c22
                clear c22
                obtain ⟨ji23, hji23⟩ : ∃ j_ : Int, (wrap64 (15 - (wrap64 (a1 - 72)))) = j_ := ⟨_, rfl⟩
                replace H : (if 0 ≤ (ji23) then (some ((Go.bits .and .u16 (shr .u16 a0_3 (ji23)) 1) == 1)) else (none)) = some r := by first | (rw [hji23] at H; exact H) | (simp only [hji23] at H ⊢; exact H)
                have hji23w : (IntKind.i64.wrap (15 - (wrap64 (a1 - 72)))) = ji23 := (i64_w _).trans hji23
                by_cases c24 : 0 ≤ (ji23)
                · rw [if_pos c24] at H
                  have c24b0 := eq_true c24
                  have c24b1 : decide (0 ≤ (ji23)) = true := decide_eq_true c24
                  clear c24
                  obtain ⟨ji25, hji25⟩ : ∃ j_ : Int, (shr .u16 a0_3 (ji23)) = j_ := ⟨_, rfl⟩
                  replace H : (some ((Go.bits .and .u16 (ji25) 1) == 1)) = some r := by first | (rw [hji25] at H; exact H) | (simp only [hji25] at H ⊢; exact H)
                  have hji25_ : (a0_3 / 2 ^ min (ji23).toNat 16) = ji25 := hji25
                  have hji25z : (ji23) ≤ 16 → (a0_3 / 2 ^ (ji23).toNat) = ji25 := shr_small hji25
                  obtain rfl := Option.some.inj H
                  have hcz26_0 : wc.cell? ⟨gb101, 0, none⟩ = some (.int .u32 a0_0) := (blk_cell BK101.out 0).trans rfl
                  have hcz26_1 : wc.cell? ⟨gb101, 1, none⟩ = some (.int .u32 a0_1) := (blk_cell BK101.out 1).trans rfl
                  have hcz26_2 : wc.cell? ⟨gb101, 2, none⟩ = some (.int .u8 a0_2) := (blk_cell BK101.out 2).trans rfl
                  have hcz26_3 : wc.cell? ⟨gb101, 3, none⟩ = some (.int .u16 a0_3) := (blk_cell BK101.out 3).trans rfl
                  have hcz26_4 : wc.cell? ⟨gb101, 4, none⟩ = some (.int .u16 a0_4) := (blk_cell BK101.out 4).trans rfl
                  have hfz26_0 := blk_frozen BK101.out 0
                  have hfz26_1 := blk_frozen BK101.out 1
                  have hfz26_2 := blk_frozen BK101.out 2
                  have hfz26_3 := blk_frozen BK101.out 3
                  have hfz26_4 := blk_frozen BK101.out 4
                  go_wp2
                  go_ret
                  exact ⟨by first | rfl | (simp [errW_none, errW_some] <;> rfl) | (simp only [← hji23, ← hji25]; first | rfl | (simp [errW_none, errW_some] <;> rfl)) | (simp [*, errW_none, errW_some] <;> rfl), by repeat (first | (with_reducible first | exact HB.out | apply below_alloc | apply pw_below_drewN | apply below_drew1 | refine below_set ?_ GE101.out) | exact HB.out)⟩
                · rw [if_neg c24] at H
                  exact absurd H (by simp)
              · rw [if_neg c22] at H
                have c22b0 : decide (a1 < 88) = false := decide_eq_false c22
                clear c22
                obtain ⟨ji27, hji27⟩ : ∃ j_ : Int, (wrap64 (15 - (wrap64 (a1 - 88)))) = j_ := ⟨_, rfl⟩
                replace H : (if 0 ≤ (ji27) then (some ((Go.bits .and .u16 (shr .u16 a0_4 (ji27)) 1) == 1)) else (none)) = some r := by first | (rw [hji27] at H; exact H) | (simp only [hji27] at H ⊢; exact H)
                have hji27w : (IntKind.i64.wrap (15 - (wrap64 (a1 - 88)))) = ji27 := (i64_w _).trans hji27
                by_cases c28 : 0 ≤ (ji27)
                · rw [if_pos c28] at H
                  have c28b0 := eq_true c28
                  have c28b1 : decide (0 ≤ (ji27)) = true := decide_eq_true c28
                  clear c28
                  obtain ⟨ji29, hji29⟩ : ∃ j_ : Int, (shr .u16 a0_4 (ji27)) = j_ := ⟨_, rfl⟩
                  replace H : (some ((Go.bits .and .u16 (ji29) 1) == 1)) = some r := by first | (rw [hji29] at H; exact H) | (simp only [hji29] at H ⊢; exact H)
                  have hji29_ : (a0_4 / 2 ^ min (ji27).toNat 16) = ji29 := hji29
                  have hji29z : (ji27) ≤ 16 → (a0_4 / 2 ^ (ji27).toNat) = ji29 := shr_small hji29
                  obtain rfl := Option.some.inj H
                  have hcz30_0 : wc.cell? ⟨gb101, 0, none⟩ = some (.int .u32 a0_0) := (blk_cell BK101.out 0).trans rfl
                  have hcz30_1 : wc.cell? ⟨gb101, 1, none⟩ = some (.int .u32 a0_1) := (blk_cell BK101.out 1).trans rfl
                  have hcz30_2 : wc.cell? ⟨gb101, 2, none⟩ = some (.int .u8 a0_2) := (blk_cell BK101.out 2).trans rfl
                  have hcz30_3 : wc.cell? ⟨gb101, 3, none⟩ = some (.int .u16 a0_3) := (blk_cell BK101.out 3).trans rfl
                  have hcz30_4 : wc.cell? ⟨gb101, 4, none⟩ = some (.int .u16 a0_4) := (blk_cell BK101.out 4).trans rfl
                  have hfz30_0 := blk_frozen BK101.out 0
                  have hfz30_1 := blk_frozen BK101.out 1
                  have hfz30_2 := blk_frozen BK101.out 2
                  have hfz30_3 := blk_frozen BK101.out 3
                  have hfz30_4 := blk_frozen BK101.out 4
                  go_wp2
                  go_ret
                  exact ⟨by first | rfl | (simp [errW_none, errW_some] <;> rfl) | (simp only [← hji27, ← hji29]; first | rfl | (simp [errW_none, errW_some] <;> rfl)) | (simp [*, errW_none, errW_some] <;> rfl), by repeat (first | (with_reducible first | exact HB.out | apply below_alloc | apply pw_below_drewN | apply below_drew1 | refine below_set ?_ GE101.out) | exact HB.out)⟩
                · rw [if_neg c28] at H
                  exact absurd H (by simp)

end Go.Proofs.YtloclimoffhbhaaDoor.PHdm

namespace Go.Proofs.YtloclimoffhbhaaDoor.PHdm
open Go.RowKit Go.Proofs.YtloclimoffhbhaaDoorW.PrintWords Go.Proofs.YtloclimoffhbhaaDoorW.PrintLast Go.Proofs.YtloclimoffhbhaaDoorW.PrintMore
attribute [local go_sem] max2_int min2_int max_two min_two max_three min_three max_four min_four   -- for this text's walks alone
set_option linter.unusedVariables false
set_option linter.unusedSimpArgs false

/-! ### crossbucklaw02_awake: function 31 -/
def crossbucklaw02_awake.f (k : Nat)  : Option (Bool) := (hdr_Addr.f k 167772161).bind fun t126 => (if t126.toList = ([49, 48, 46, 48, 46, 48, 46, 49] : List UInt8) then ((hdr_Bit.f k 167772161 0 0 0 0 4).bind fun t127 => (some t127)) else (some false))
theorem crossbucklaw02_awake.mono : ∀ k, LeO (crossbucklaw02_awake.f k ) (crossbucklaw02_awake.f (k + 1) ) := by
  intro  k
  unfold crossbucklaw02_awake.f
  repeat' first
      | (with_reducible exact hdr_Addr.mono _ _)
      | (with_reducible exact hdr_Bit.mono _ _ _ _ _ _ _)
      | (with_reducible exact LeO.refl _)
      | (with_reducible exact LeO.none _)
      | (with_reducible refine LeO.ite ?_ ?_)
      | (with_reducible refine LeO.bind ?_ (fun _ => ?_))
      | exact hdr_Addr.mono _ _
      | exact hdr_Bit.mono _ _ _ _ _ _ _
      | exact LeO.none _
      | refine LeO.ite ?_ ?_
      | refine LeO.bind ?_ (fun _ => ?_)
set_option maxHeartbeats 8000000 in
set_option maxRecDepth 100000 in
theorem crossbucklaw02_awake.calls (k : Nat)  (r : Bool) (w : World) (hG : Hand.Good false true w) (h : crossbucklaw02_awake.f k  = some r) :
    Calls Tryd.prog 31 #[] w fun e w' => e = .returned (.bool r) ∧ Below w.heap.size w w' := by
  have hu67 := Tryd.underlying67
  have HB := Aside0.mk (Below.refl w.heap.size w)
  have hGG := Aside0.mk hG
  clear hG
  have H : ((hdr_Addr.f k 167772161).bind fun t126 => (if t126.toList = ([49, 48, 46, 48, 46, 48, 46, 49] : List UInt8) then ((hdr_Bit.f k 167772161 0 0 0 0 4).bind fun t127 => (some t127)) else (some false))) = some r := h
  clear h
  replace H := Option.bind_eq_some_iff.mp H
  obtain ⟨t126, A10, H⟩ := H
  replace H : (if t126.toList = ([49, 48, 46, 48, 46, 48, 46, 49] : List UInt8) then ((hdr_Bit.f k 167772161 0 0 0 0 4).bind fun t127 => (some t127)) else (some false)) = some r := H
  have A1 := Aside0.mk A10
  clear A10
  by_cases c2 : t126.toList = ([49, 48, 46, 48, 46, 48, 46, 49] : List UInt8)
  · rw [if_pos c2] at H
    have c2b0 : (t126.toList == ([49, 48, 46, 48, 46, 48, 46, 49] : List UInt8)) = true := beq_iff_eq.mpr c2
    have c2b1 : (t126.toList != ([49, 48, 46, 48, 46, 48, 46, 49] : List UInt8)) = false := bne_eq_false_iff_eq.mpr c2
    clear c2
    replace H := Option.bind_eq_some_iff.mp H
    obtain ⟨t127, A30, H⟩ := H
    replace H : (some t127) = some r := H
    have A3 := Aside0.mk A30
    clear A30
    obtain rfl := Option.some.inj H
    go_enter Tryd.func31, Tryd.ntmps31
    go_wp2_with (first | ((with_reducible refine gate_callee (f := 53) rfl ?_); refine goesL_ (some 1) rfl rfl Tryd.func53 (by kernel_rfl) rfl #[.int .u32 167772161] rfl (by (try simp only [List.map_toArray, List.map_cons, List.map_nil]); first | done | rfl | (simp only [List.length_drop, List.length_take]; rfl)) ?_; (with_reducible refine (hdr_Addr.calls k 167772161 t126 _ (Hand.Good.below false true hGG.out (by repeat (first | (with_reducible first | exact HB.out | apply below_alloc | apply pw_below_drewN | apply below_drew1) | exact HB.out)) rfl rfl) A1.out).mono ?_); rintro e w4 ⟨rfl, hb⟩; refine ⟨_, rfl, ?_⟩; have n0_ := Aside0.mk (below_step (by repeat (first | (with_reducible first | exact HB.out | apply below_alloc | apply pw_below_drewN | apply below_drew1) | exact HB.out)) hb); clear HB; have HB := n0_; clear n0_; (try clear hb); (try clear hb2); (try clear hk); (try clear hi)) | (go_at_call 38; (with_reducible refine (hdr_Bit.calls k 167772161 0 0 0 0 4 t127 _ A3.out).mono ?_); rintro e w5 ⟨rfl, hb⟩; have n0_ := Aside0.mk (below_step (by repeat (first | (with_reducible first | exact HB.out | apply below_alloc | apply pw_below_drewN | apply below_drew1) | exact HB.out)) hb); clear HB; have HB := n0_; clear n0_; (try clear hb); (try clear hb2); (try clear hk); (try clear hi)))
    go_ret
    exact ⟨by first | rfl | (simp [errW_none, errW_some] <;> rfl) | (simp [*, errW_none, errW_some] <;> rfl), by repeat (first | (with_reducible first | exact HB.out | apply below_alloc | apply pw_below_drewN | apply below_drew1) | exact HB.out)⟩
  · rw [if_neg c2] at H
    have c2b0 : (t126.toList == ([49, 48, 46, 48, 46, 48, 46, 49] : List UInt8)) = false := beq_eq_false_iff_ne.mpr c2
    have c2b1 : (t126.toList != ([49, 48, 46, 48, 46, 48, 46, 49] : List UInt8)) = true := bne_iff_ne.mpr c2
    obtain rfl := Option.some.inj H
    go_enter Tryd.func31, Tryd.ntmps31
    go_wp2_with (first | ((with_reducible refine gate_callee (f := 53) rfl ?_); refine goesL_ (some 1) rfl rfl Tryd.func53 (by kernel_rfl) rfl #[.int .u32 167772161] rfl (by (try simp only [List.map_toArray, List.map_cons, List.map_nil]); first | done | rfl | (simp only [List.length_drop, List.length_take]; rfl)) ?_; (with_reducible refine (hdr_Addr.calls k 167772161 t126 _ (Hand.Good.below false true hGG.out (by repeat (first | (with_reducible first | exact HB.out | apply below_alloc | apply pw_below_drewN | apply below_drew1) | exact HB.out)) rfl rfl) A1.out).mono ?_); rintro e w6 ⟨rfl, hb⟩; refine ⟨_, rfl, ?_⟩; have n0_ := Aside0.mk (below_step (by repeat (first | (with_reducible first | exact HB.out | apply below_alloc | apply pw_below_drewN | apply below_drew1) | exact HB.out)) hb); clear HB; have HB := n0_; clear n0_; (try clear hb); (try clear hb2); (try clear hk); (try clear hi)))
    go_ret
    exact ⟨by first | rfl | (simp [errW_none, errW_some] <;> rfl) | (simp [*, errW_none, errW_some] <;> rfl), by repeat (first | (with_reducible first | exact HB.out | apply below_alloc | apply pw_below_drewN | apply below_drew1) | exact HB.out)⟩

end Go.Proofs.YtloclimoffhbhaaDoor.PHdm

namespace Go.Proofs.YtloclimoffhbhaaDoor.PHdm
open Go.RowKit Go.Proofs.YtloclimoffhbhaaDoorW.PrintWords Go.Proofs.YtloclimoffhbhaaDoorW.PrintLast Go.Proofs.YtloclimoffhbhaaDoorW.PrintMore
attribute [local go_sem] max2_int min2_int max_two min_two max_three min_three max_four min_four   -- for this text's walks alone
set_option linter.unusedVariables false
set_option linter.unusedSimpArgs false

/-! ### hdr_Print: function 50 -/
def hdr_Print.f (k : Nat) (a0_0 : Int) (a0_1 : Int) (a0_2 : Int) (a0_3 : Int) (a0_4 : Int) : Option (ByteArray) := (hdr_Addr.f k a0_0).bind fun t129 => ((hdr_Addr.f k a0_1).bind fun t130 => ((strconv_Itoa_76.f (wrap64 (a0_2))).bind fun t131 => ((strconv_Itoa_76.f (wrap64 (a0_3))).bind fun t132 => ((strconv_Itoa_76.f (wrap64 (a0_4))).bind fun t133 => ((strings_Join.f (([t129, t130, t131, t132, t133] : List ByteArray)) (⟨#[32]⟩ : ByteArray)).bind fun t137 => (some t137))))))
theorem hdr_Print.mono : ∀ a0 a1 a2 a3 a4 k, LeO (hdr_Print.f k a0 a1 a2 a3 a4) (hdr_Print.f (k + 1) a0 a1 a2 a3 a4) := by
  intro a0 a1 a2 a3 a4 k
  unfold hdr_Print.f
  repeat' first
      | (with_reducible exact hdr_Addr.mono _ _)
      | (with_reducible exact LeO.refl _)
      | (with_reducible exact LeO.none _)
      | (with_reducible refine LeO.ite ?_ ?_)
      | (with_reducible refine LeO.bind ?_ (fun _ => ?_))
      | exact hdr_Addr.mono _ _
      | exact LeO.none _
      | refine LeO.ite ?_ ?_
      | refine LeO.bind ?_ (fun _ => ?_)
def hdr_Print.T1 : Bool × List (List Nat × List Nat) := (true, [([], []), ([0], [0]), ([1], [1]), ([], []), ([3], [3]), ([4, 2], [4]), ([], []), ([6], [6]), ([7], [7]), ([8, 5], [8]), ([], []), ([10], [10]), ([11], [11]), ([12, 9], [12]), ([], []), ([14], [14]), ([15], [15]), ([16, 13], [16]), ([2, 5, 9, 13, 17], [2, 5, 9, 13, 17]), ([18, 17], [18]), ([19, 19, 0, 1, 2, 3, 4, 5, 6, 7, 8, 9, 10, 11, 12, 13, 14, 15, 16, 17, 18, 19], [19])])
def hdr_Print.B1 : List Nat := [0, 1, 3, 0, 8, 31, 0, 64, 192, 511, 0, 1024, 3072, 8191, 0, 16384, 49152, 131071, 262143, 524287, 1048575]
theorem hdr_Print.tab1 : rtab .any (opsOf Tryd.f50 1) = hdr_Print.T1 := by kernel_rfl
theorem hdr_Print.bits1 : waitsOk hdr_Print.T1.2 hdr_Print.B1 = true := by kernel_rfl
set_option maxHeartbeats 8000000 in
set_option maxRecDepth 100000 in
theorem hdr_Print.calls (k : Nat) (a0_0 : Int) (a0_1 : Int) (a0_2 : Int) (a0_3 : Int) (a0_4 : Int) (r : ByteArray) (w : World) (hG : Hand.Good false true w) (h : hdr_Print.f k a0_0 a0_1 a0_2 a0_3 a0_4 = some r) :
    Calls Tryd.prog 50 #[.agg #[.int .u32 a0_0, .int .u32 a0_1, .int .u8 a0_2, .int .u16 a0_3, .int .u16 a0_4]] w fun e w' => e = .returned (.string r) ∧ Below w.heap.size w w' := by
  have hu67 := Tryd.underlying67
  have HB := Aside0.mk (Below.refl w.heap.size w)
  have hGG := Aside0.mk hG
  clear hG
  have H : ((hdr_Addr.f k a0_0).bind fun t129 => ((hdr_Addr.f k a0_1).bind fun t130 => ((strconv_Itoa_76.f (wrap64 (a0_2))).bind fun t131 => ((strconv_Itoa_76.f (wrap64 (a0_3))).bind fun t132 => ((strconv_Itoa_76.f (wrap64 (a0_4))).bind fun t133 => ((strings_Join.f (([t129, t130, t131, t132, t133] : List ByteArray)) (⟨#[32]⟩ : ByteArray)).bind fun t137 => (some t137))))))) = some r := h
  clear h
  replace H := Option.bind_eq_some_iff.mp H
  obtain ⟨t129, A20, H⟩ := H
  replace H : ((hdr_Addr.f k a0_1).bind fun t130 => ((strconv_Itoa_76.f (wrap64 (a0_2))).bind fun t131 => ((strconv_Itoa_76.f (wrap64 (a0_3))).bind fun t132 => ((strconv_Itoa_76.f (wrap64 (a0_4))).bind fun t133 => ((strings_Join.f (([t129, t130, t131, t132, t133] : List ByteArray)) (⟨#[32]⟩ : ByteArray)).bind fun t137 => (some t137)))))) = some r := H
  have A2 := Aside0.mk A20
  clear A20
  replace H := Option.bind_eq_some_iff.mp H
  obtain ⟨t130, A30, H⟩ := H
  replace H : ((strconv_Itoa_76.f (wrap64 (a0_2))).bind fun t131 => ((strconv_Itoa_76.f (wrap64 (a0_3))).bind fun t132 => ((strconv_Itoa_76.f (wrap64 (a0_4))).bind fun t133 => ((strings_Join.f (([t129, t130, t131, t132, t133] : List ByteArray)) (⟨#[32]⟩ : ByteArray)).bind fun t137 => (some t137))))) = some r := H
  have A3 := Aside0.mk A30
  clear A30
  replace H := Option.bind_eq_some_iff.mp H
  obtain ⟨t131, A40, H⟩ := H
  replace H : ((strconv_Itoa_76.f (wrap64 (a0_3))).bind fun t132 => ((strconv_Itoa_76.f (wrap64 (a0_4))).bind fun t133 => ((strings_Join.f (([t129, t130, t131, t132, t133] : List ByteArray)) (⟨#[32]⟩ : ByteArray)).bind fun t137 => (some t137)))) = some r := H
  have A4 := Aside0.mk A40
  clear A40
  replace H := Option.bind_eq_some_iff.mp H
  obtain ⟨t132, A50, H⟩ := H
  replace H : ((strconv_Itoa_76.f (wrap64 (a0_4))).bind fun t133 => ((strings_Join.f (([t129, t130, t131, t132, t133] : List ByteArray)) (⟨#[32]⟩ : ByteArray)).bind fun t137 => (some t137))) = some r := H
  have A5 := Aside0.mk A50
  clear A50
  replace H := Option.bind_eq_some_iff.mp H
  obtain ⟨t133, A60, H⟩ := H
  replace H : ((strings_Join.f (([t129, t130, t131, t132, t133] : List ByteArray)) (⟨#[32]⟩ : ByteArray)).bind fun t137 => (some t137)) = some r := H
  have A6 := Aside0.mk A60
  clear A60
  obtain ⟨y134, hy134⟩ : ∃ y_ : List ByteArray, y_ = (([t129, t130, t131, t132, t133] : List ByteArray)) := ⟨_, rfl⟩
  replace H : ((strings_Join.f y134 (⟨#[32]⟩ : ByteArray)).bind fun t137 => (some t137)) = some r := by first | (rw [hy134]; with_reducible exact H) | (have H2_ := (Option.bind_some _ _).symm.trans H; rw [hy134]; with_reducible exact H2_) | (have H2_ := (Option.bind_some _ _).symm.trans H; with_reducible exact H2_) | with_reducible exact H | (rw [hy134]; exact H) | exact H
  have Ny134 := Aside0.mk hy134
  clear hy134
  replace H := Option.bind_eq_some_iff.mp H
  obtain ⟨t137, A70, H⟩ := H
  replace H : (some t137) = some r := H
  have A7 := Aside0.mk A70
  clear A70
  obtain rfl := Option.some.inj H
  go_enter Tryd.func50, Tryd.ntmps50
  try go_wp2_with (first | ((with_reducible refine gate_dst (N := 1) rfl ?_); refine box_event ?hg (N := 1) ?hd (cs := #[.int .u32 a0_0, .int .u32 a0_1, .int .u8 a0_2, .int .u16 a0_3, .int .u16 a0_4]) (t := 67) ?hr ?_; (case hd => rfl); (case hg => rfl); (case hr => first | (go_simp; done) | (go_simp; rfl)); intro gb128 hg w8 hbox hb; have n0_ := Aside0.mk (below_step (by repeat (first | (with_reducible first | exact HB.out | apply below_alloc | apply pw_below_drewN | apply below_drew1) | exact HB.out)) hb); have n1_ := Aside0.mk (hbox); have n2_ := Aside0.mk ((by rw [hg]; exact (below_size (by repeat (first | (with_reducible first | exact HB.out | apply below_alloc | apply pw_below_drewN | apply below_drew1) | exact HB.out))) : w.heap.size ≤ gb128)); have n3_ := Aside0.mk ((by rw [hg]; exact (below_size (by repeat (first | (with_reducible first | exact HB.out | apply below_alloc | apply pw_below_drewN | apply below_drew1) | exact HB.out))) : w.heap.size ≤ gb128)); clear HB; have HB := n0_; have BK128 := n1_; have GW128 := n2_; have GE128 := n3_; clear n0_ n1_ n2_ n3_; clear hb hbox hg))
  have n0_ := Aside0.mk (blk_drew BK128.out)
  have n1_ := Aside0.mk (below_drew1 HB.out)
  clear BK128
  clear HB
  have BK128 := n0_
  have HB := n1_
  clear n0_ n1_
  refine start_ (n := 21) (S := fun w' => w'.cell? ⟨gb128, 0, none⟩ = some (.int .u32 a0_0) ∧ w'.cell? ⟨gb128, 1, none⟩ = some (.int .u32 a0_1) ∧ w'.cell? ⟨gb128, 2, none⟩ = some (.int .u8 a0_2) ∧ w'.cell? ⟨gb128, 3, none⟩ = some (.int .u16 a0_3) ∧ w'.cell? ⟨gb128, 4, none⟩ = some (.int .u16 a0_4)) (ds := []) #[false, false, false, false, false, false, false, false, false, false, false, false, false, false, false, false, false, false, false, false, false] (by kernel_rfl) rfl rfl ⟨(blk_cell BK128.out 0).trans rfl, (blk_cell BK128.out 1).trans rfl, (blk_cell BK128.out 2).trans rfl, (blk_cell BK128.out 3).trans rfl, (blk_cell BK128.out 4).trans rfl⟩ (fun hHeld => ?_); refine with_tabW hdr_Print.tab1 hdr_Print.bits1 (fun HT_ HW_ => ?_)
  generalize w8.drew = w9 at BK128 HB hHeld ⊢
  refine pure_ (i := 0) (N := some 3) (v := ?_) (a' := ?_) #[true, false, false, false, false, false, false, false, false, false, false, false, false, false, false, false, false, false, false, false, false] rfl rfl (any_of HT_.out (by kernel_rfl)) (fun _ _ _ h => h) (Or.inl ⟨by rfl, ?_⟩) ?_ ?_
  rotate_left
  · intro w'
    go_simp
    with_reducible rfl
  rotate_left
  · simp only [Act.put, List.setIfInBounds_toArray, List.set_cons_zero, List.set_cons_succ, i64_w, i32_w]
    rfl
  refine pure_ (i := 3) (N := some 6) (v := ?_) (a' := ?_) #[true, false, false, true, false, false, false, false, false, false, false, false, false, false, false, false, false, false, false, false, false] rfl rfl (any_of HT_.out (by kernel_rfl)) (fun _ _ _ h => h) (Or.inl ⟨by rfl, ?_⟩) ?_ ?_
  rotate_left
  · intro w'
    go_simp
    with_reducible rfl
  rotate_left
  · simp only [Act.put, List.setIfInBounds_toArray, List.set_cons_zero, List.set_cons_succ, i64_w, i32_w]
    rfl
  refine pure_ (i := 6) (N := some 9) (v := ?_) (a' := ?_) #[true, false, false, true, false, false, true, false, false, false, false, false, false, false, false, false, false, false, false, false, false] rfl rfl (any_of HT_.out (by kernel_rfl)) (fun _ _ _ h => h) (Or.inl ⟨by rfl, ?_⟩) ?_ ?_
  rotate_left
  · intro w'
    go_simp
    with_reducible rfl
  rotate_left
  · simp only [Act.put, List.setIfInBounds_toArray, List.set_cons_zero, List.set_cons_succ, i64_w, i32_w]
    rfl
  refine pure_ (i := 10) (N := some 13) (v := ?_) (a' := ?_) #[true, false, false, true, false, false, true, false, false, false, true, false, false, false, false, false, false, false, false, false, false] rfl rfl (any_of HT_.out (by kernel_rfl)) (fun _ _ _ h => h) (Or.inl ⟨by rfl, ?_⟩) ?_ ?_
  rotate_left
  · intro w'
    go_simp
    with_reducible rfl
  rotate_left
  · simp only [Act.put, List.setIfInBounds_toArray, List.set_cons_zero, List.set_cons_succ, i64_w, i32_w]
    rfl
  refine pure_ (i := 14) (N := some 17) (v := ?_) (a' := ?_) #[true, false, false, true, false, false, true, false, false, false, true, false, false, false, true, false, false, false, false, false, false] rfl rfl (any_of HT_.out (by kernel_rfl)) (fun _ _ _ h => h) (Or.inl ⟨by rfl, ?_⟩) ?_ ?_
  rotate_left
  · intro w'
    go_simp
    with_reducible rfl
  rotate_left
  · simp only [Act.put, List.setIfInBounds_toArray, List.set_cons_zero, List.set_cons_succ, i64_w, i32_w]
    rfl
  refine take_ (i := 1) (N := some 4) (v := ?_) (a' := ?_) #[true, true, false, true, false, false, true, false, false, false, true, false, false, false, true, false, false, false, false, false, false] rfl rfl (take_ofW HT_.out HW_.out (by kernel_rfl)) (fun _ _ _ h => h) (Or.inl ⟨by rfl, ?_⟩) hHeld ?_ ?_
  rotate_left
  · rintro w' ⟨s0, s1, s2, s3, s4⟩
    go_simp
    with_reducible rfl
  rotate_left
  · simp only [Act.put, List.setIfInBounds_toArray, List.set_cons_zero, List.set_cons_succ, i64_w, i32_w]
    rfl
  refine take_ (i := 4) (N := some 7) (v := ?_) (a' := ?_) #[true, true, false, true, true, false, true, false, false, false, true, false, false, false, true, false, false, false, false, false, false] rfl rfl (take_ofW HT_.out HW_.out (by kernel_rfl)) (fun _ _ _ h => h) (Or.inl ⟨by rfl, ?_⟩) hHeld ?_ ?_
  rotate_left
  · rintro w' ⟨s0, s1, s2, s3, s4⟩
    go_simp
    with_reducible rfl
  rotate_left
  · simp only [Act.put, List.setIfInBounds_toArray, List.set_cons_zero, List.set_cons_succ, i64_w, i32_w]
    rfl
  refine take_ (i := 7) (N := some 10) (v := ?_) (a' := ?_) #[true, true, false, true, true, false, true, true, false, false, true, false, false, false, true, false, false, false, false, false, false] rfl rfl (take_ofW HT_.out HW_.out (by kernel_rfl)) (fun _ _ _ h => h) (Or.inl ⟨by rfl, ?_⟩) hHeld ?_ ?_
  rotate_left
  · rintro w' ⟨s0, s1, s2, s3, s4⟩
    go_simp
    with_reducible rfl
  rotate_left
  · simp only [Act.put, List.setIfInBounds_toArray, List.set_cons_zero, List.set_cons_succ, i64_w, i32_w]
    rfl
  refine pure_ (i := 8) (N := some 11) (v := ?_) (a' := ?_) #[true, true, false, true, true, false, true, true, true, false, true, false, false, false, true, false, false, false, false, false, false] rfl rfl (any_of HT_.out (by kernel_rfl)) (fun _ _ _ h => h) (Or.inl ⟨by rfl, ?_⟩) ?_ ?_
  rotate_left
  · intro w'
    go_simp
    with_reducible rfl
  rotate_left
  · simp only [Act.put, List.setIfInBounds_toArray, List.set_cons_zero, List.set_cons_succ, i64_w, i32_w]
    rfl
  refine take_ (i := 11) (N := some 14) (v := ?_) (a' := ?_) #[true, true, false, true, true, false, true, true, true, false, true, true, false, false, true, false, false, false, false, false, false] rfl rfl (take_ofW HT_.out HW_.out (by kernel_rfl)) (fun _ _ _ h => h) (Or.inl ⟨by rfl, ?_⟩) hHeld ?_ ?_
  rotate_left
  · rintro w' ⟨s0, s1, s2, s3, s4⟩
    go_simp
    with_reducible rfl
  rotate_left
  · simp only [Act.put, List.setIfInBounds_toArray, List.set_cons_zero, List.set_cons_succ, i64_w, i32_w]
    rfl
  refine pure_ (i := 12) (N := some 15) (v := ?_) (a' := ?_) #[true, true, false, true, true, false, true, true, true, false, true, true, true, false, true, false, false, false, false, false, false] rfl rfl (any_of HT_.out (by kernel_rfl)) (fun _ _ _ h => h) (Or.inl ⟨by rfl, ?_⟩) ?_ ?_
  rotate_left
  · intro w'
    go_simp
    with_reducible rfl
  rotate_left
  · simp only [Act.put, List.setIfInBounds_toArray, List.set_cons_zero, List.set_cons_succ, i64_w, i32_w]
    rfl
  refine take_ (i := 15) (N := some 18) (v := ?_) (a' := ?_) #[true, true, false, true, true, false, true, true, true, false, true, true, true, false, true, true, false, false, false, false, false] rfl rfl (take_ofW HT_.out HW_.out (by kernel_rfl)) (fun _ _ _ h => h) (Or.inl ⟨by rfl, ?_⟩) hHeld ?_ ?_
  rotate_left
  · rintro w' ⟨s0, s1, s2, s3, s4⟩
    go_simp
    with_reducible rfl
  rotate_left
  · simp only [Act.put, List.setIfInBounds_toArray, List.set_cons_zero, List.set_cons_succ, i64_w, i32_w]
    rfl
  refine pure_ (i := 16) (N := some 19) (v := ?_) (a' := ?_) #[true, true, false, true, true, false, true, true, true, false, true, true, true, false, true, true, true, false, false, false, false] rfl rfl (any_of HT_.out (by kernel_rfl)) (fun _ _ _ h => h) (Or.inl ⟨by rfl, ?_⟩) ?_ ?_
  rotate_left
  · intro w'
    go_simp
    with_reducible rfl
  rotate_left
  · simp only [Act.put, List.setIfInBounds_toArray, List.set_cons_zero, List.set_cons_succ, i64_w, i32_w]
    rfl
  refine one_ (i := 2) (N := some 5) #[true, true, true, true, true, false, true, true, true, false, true, true, true, false, true, true, true, false, false, false, false] rfl rfl (one_of HT_.out (by kernel_rfl)) (by decide) (fun K hK => ?_)
  refine goes_ Tryd.func53 (by kernel_rfl) rfl #[.int .u32 a0_0] (by rfl) rfl rfl (by (try simp only [List.map_toArray, List.map_cons, List.map_nil]); first | done | rfl | (simp only [List.length_drop, List.length_take]; rfl)) ?_
  with_reducible refine (hdr_Addr.calls k a0_0 t129 _ (Hand.Good.below false true hGG.out (by repeat (first | (with_reducible first | exact HB.out | apply below_alloc | apply pw_below_drewN | apply below_drew1 | refine below_set ?_ GE128.out) | exact HB.out)) rfl rfl) A2.out).mono ?_
  rintro e w10 ⟨rfl, hb⟩
  refine ⟨_, rfl, ?_⟩
  have n0_ := Aside0.mk (blk_below (g := gb128) (o := .cells #[.int .u32 a0_0, .int .u32 a0_1, .int .u8 a0_2, .int .u16 a0_3, .int .u16 a0_4] 67 (0, 0)) (by (with_reducible repeat (first | refine blk_drewN ?_ _ | refine blk_drew ?_ | refine blk_alloc ?_ _)); exact BK128.out) hb)
  have n1_ := Aside0.mk (below_step (by repeat (first | (with_reducible first | exact HB.out | apply below_alloc | apply pw_below_drewN | apply below_drew1 | refine below_set ?_ GE128.out) | exact HB.out)) hb)
  clear BK128
  clear HB
  have BK128 := n0_
  have HB := n1_
  clear n0_ n1_
  (try clear hb)
  (try clear hb2)
  (try clear hk)
  (try clear hi)
  refine hK.out _ _ ⟨(blk_cell BK128.out 0).trans rfl, (blk_cell BK128.out 1).trans rfl, (blk_cell BK128.out 2).trans rfl, (blk_cell BK128.out 3).trans rfl, (blk_cell BK128.out 4).trans rfl⟩ (fun hHeld => ?_)
  clear hK K
  refine norm_ (a' := ?_) ?_ ?_
  rotate_left
  · show Act.put _ (some 5) _ = _
    simp only [Act.put, List.setIfInBounds_toArray, List.set_cons_zero, List.set_cons_succ, i64_w, i32_w]
    rfl
  refine one_ (i := 5) (N := some 8) #[true, true, true, true, true, true, true, true, true, false, true, true, true, false, true, true, true, false, false, false, false] rfl rfl (one_of HT_.out (by kernel_rfl)) (by decide) (fun K hK => ?_)
  refine goes_ Tryd.func53 (by kernel_rfl) rfl #[.int .u32 a0_1] (by rfl) rfl rfl (by (try simp only [List.map_toArray, List.map_cons, List.map_nil]); first | done | rfl | (simp only [List.length_drop, List.length_take]; rfl)) ?_
  with_reducible refine (hdr_Addr.calls k a0_1 t130 _ (Hand.Good.below false true hGG.out (by repeat (first | (with_reducible first | exact HB.out | apply below_alloc | apply pw_below_drewN | apply below_drew1 | refine below_set ?_ GE128.out) | exact HB.out)) rfl rfl) A3.out).mono ?_
  rintro e w11 ⟨rfl, hb⟩
  refine ⟨_, rfl, ?_⟩
  have n0_ := Aside0.mk (blk_below (g := gb128) (o := .cells #[.int .u32 a0_0, .int .u32 a0_1, .int .u8 a0_2, .int .u16 a0_3, .int .u16 a0_4] 67 (0, 0)) (by (with_reducible repeat (first | refine blk_drewN ?_ _ | refine blk_drew ?_ | refine blk_alloc ?_ _)); exact BK128.out) hb)
  have n1_ := Aside0.mk (below_step (by repeat (first | (with_reducible first | exact HB.out | apply below_alloc | apply pw_below_drewN | apply below_drew1 | refine below_set ?_ GE128.out) | exact HB.out)) hb)
  clear BK128
  clear HB
  have BK128 := n0_
  have HB := n1_
  clear n0_ n1_
  (try clear hb)
  (try clear hb2)
  (try clear hk)
  (try clear hi)
  refine hK.out _ _ ⟨(blk_cell BK128.out 0).trans rfl, (blk_cell BK128.out 1).trans rfl, (blk_cell BK128.out 2).trans rfl, (blk_cell BK128.out 3).trans rfl, (blk_cell BK128.out 4).trans rfl⟩ (fun hHeld => ?_)
  clear hK K
  refine norm_ (a' := ?_) ?_ ?_
  rotate_left
  · show Act.put _ (some 8) _ = _
    simp only [Act.put, List.setIfInBounds_toArray, List.set_cons_zero, List.set_cons_succ, i64_w, i32_w]
    rfl
  refine one_ (i := 9) (N := some 12) #[true, true, true, true, true, true, true, true, true, true, true, true, true, false, true, true, true, false, false, false, false] rfl rfl (one_of HT_.out (by kernel_rfl)) (by decide) (fun K hK => ?_)
  refine goes_ Tryd.func76 (by kernel_rfl) rfl #[.int .i64 (wrap64 (a0_2))] (by rfl) rfl rfl (by (try simp only [List.map_toArray, List.map_cons, List.map_nil]); first | done | rfl | (simp only [List.length_drop, List.length_take]; rfl)) ?_
  with_reducible refine (strconv_Itoa_76.calls (wrap64 (a0_2)) t131 _ (Hand.Good.below false true hGG.out (by repeat (first | (with_reducible first | exact HB.out | apply below_alloc | apply pw_below_drewN | apply below_drew1 | refine below_set ?_ GE128.out) | exact HB.out)) rfl rfl) A4.out).mono ?_
  rintro e w12 ⟨rfl, hb⟩
  refine ⟨_, rfl, ?_⟩
  have n0_ := Aside0.mk (blk_below (g := gb128) (o := .cells #[.int .u32 a0_0, .int .u32 a0_1, .int .u8 a0_2, .int .u16 a0_3, .int .u16 a0_4] 67 (0, 0)) (by (with_reducible repeat (first | refine blk_drewN ?_ _ | refine blk_drew ?_ | refine blk_alloc ?_ _)); exact BK128.out) hb)
  have n1_ := Aside0.mk (below_step (by repeat (first | (with_reducible first | exact HB.out | apply below_alloc | apply pw_below_drewN | apply below_drew1 | refine below_set ?_ GE128.out) | exact HB.out)) hb)
  clear BK128
  clear HB
  have BK128 := n0_
  have HB := n1_
  clear n0_ n1_
  (try clear hb)
  (try clear hb2)
  (try clear hk)
  (try clear hi)
  refine hK.out _ _ ⟨(blk_cell BK128.out 0).trans rfl, (blk_cell BK128.out 1).trans rfl, (blk_cell BK128.out 2).trans rfl, (blk_cell BK128.out 3).trans rfl, (blk_cell BK128.out 4).trans rfl⟩ (fun hHeld => ?_)
  clear hK K
  refine norm_ (a' := ?_) ?_ ?_
  rotate_left
  · show Act.put _ (some 12) _ = _
    simp only [Act.put, List.setIfInBounds_toArray, List.set_cons_zero, List.set_cons_succ, i64_w, i32_w]
    rfl
  refine one_ (i := 13) (N := some 16) #[true, true, true, true, true, true, true, true, true, true, true, true, true, true, true, true, true, false, false, false, false] rfl rfl (one_of HT_.out (by kernel_rfl)) (by decide) (fun K hK => ?_)
  refine goes_ Tryd.func76 (by kernel_rfl) rfl #[.int .i64 (wrap64 (a0_3))] (by rfl) rfl rfl (by (try simp only [List.map_toArray, List.map_cons, List.map_nil]); first | done | rfl | (simp only [List.length_drop, List.length_take]; rfl)) ?_
  with_reducible refine (strconv_Itoa_76.calls (wrap64 (a0_3)) t132 _ (Hand.Good.below false true hGG.out (by repeat (first | (with_reducible first | exact HB.out | apply below_alloc | apply pw_below_drewN | apply below_drew1 | refine below_set ?_ GE128.out) | exact HB.out)) rfl rfl) A5.out).mono ?_
  rintro e w13 ⟨rfl, hb⟩
  refine ⟨_, rfl, ?_⟩
  have n0_ := Aside0.mk (blk_below (g := gb128) (o := .cells #[.int .u32 a0_0, .int .u32 a0_1, .int .u8 a0_2, .int .u16 a0_3, .int .u16 a0_4] 67 (0, 0)) (by (with_reducible repeat (first | refine blk_drewN ?_ _ | refine blk_drew ?_ | refine blk_alloc ?_ _)); exact BK128.out) hb)
  have n1_ := Aside0.mk (below_step (by repeat (first | (with_reducible first | exact HB.out | apply below_alloc | apply pw_below_drewN | apply below_drew1 | refine below_set ?_ GE128.out) | exact HB.out)) hb)
  clear BK128
  clear HB
  have BK128 := n0_
  have HB := n1_
  clear n0_ n1_
  (try clear hb)
  (try clear hb2)
  (try clear hk)
  (try clear hi)
  refine hK.out _ _ ⟨(blk_cell BK128.out 0).trans rfl, (blk_cell BK128.out 1).trans rfl, (blk_cell BK128.out 2).trans rfl, (blk_cell BK128.out 3).trans rfl, (blk_cell BK128.out 4).trans rfl⟩ (fun hHeld => ?_)
  clear hK K
  refine norm_ (a' := ?_) ?_ ?_
  rotate_left
  · show Act.put _ (some 16) _ = _
    simp only [Act.put, List.setIfInBounds_toArray, List.set_cons_zero, List.set_cons_succ, i64_w, i32_w]
    rfl
  refine one_ (i := 17) (N := some 20) #[true, true, true, true, true, true, true, true, true, true, true, true, true, true, true, true, true, true, false, false, false] rfl rfl (one_of HT_.out (by kernel_rfl)) (by decide) (fun K hK => ?_)
  refine goes_ Tryd.func76 (by kernel_rfl) rfl #[.int .i64 (wrap64 (a0_4))] (by rfl) rfl rfl (by (try simp only [List.map_toArray, List.map_cons, List.map_nil]); first | done | rfl | (simp only [List.length_drop, List.length_take]; rfl)) ?_
  with_reducible refine (strconv_Itoa_76.calls (wrap64 (a0_4)) t133 _ (Hand.Good.below false true hGG.out (by repeat (first | (with_reducible first | exact HB.out | apply below_alloc | apply pw_below_drewN | apply below_drew1 | refine below_set ?_ GE128.out) | exact HB.out)) rfl rfl) A6.out).mono ?_
  rintro e w14 ⟨rfl, hb⟩
  refine ⟨_, rfl, ?_⟩
  have n0_ := Aside0.mk (blk_below (g := gb128) (o := .cells #[.int .u32 a0_0, .int .u32 a0_1, .int .u8 a0_2, .int .u16 a0_3, .int .u16 a0_4] 67 (0, 0)) (by (with_reducible repeat (first | refine blk_drewN ?_ _ | refine blk_drew ?_ | refine blk_alloc ?_ _)); exact BK128.out) hb)
  have n1_ := Aside0.mk (below_step (by repeat (first | (with_reducible first | exact HB.out | apply below_alloc | apply pw_below_drewN | apply below_drew1 | refine below_set ?_ GE128.out) | exact HB.out)) hb)
  clear BK128
  clear HB
  have BK128 := n0_
  have HB := n1_
  clear n0_ n1_
  (try clear hb)
  (try clear hb2)
  (try clear hk)
  (try clear hi)
  refine hK.out _ _ ⟨(blk_cell BK128.out 0).trans rfl, (blk_cell BK128.out 1).trans rfl, (blk_cell BK128.out 2).trans rfl, (blk_cell BK128.out 3).trans rfl, (blk_cell BK128.out 4).trans rfl⟩ (fun hHeld => ?_)
  clear hK K
  refine norm_ (a' := ?_) ?_ ?_
  rotate_left
  · show Act.put _ (some 20) _ = _
    simp only [Act.put, List.setIfInBounds_toArray, List.set_cons_zero, List.set_cons_succ, i64_w, i32_w]
    rfl
  refine one_ (i := 18) (N := some 21) #[true, true, true, true, true, true, true, true, true, true, true, true, true, true, true, true, true, true, true, false, false] rfl rfl (one_of HT_.out (by kernel_rfl)) (by decide) (fun K hK => ?_)
  refine Kd.R_lit_step Kd.string _ 9 ?hg (N := 21) ?hd (xs := ([t129, t130, t131, t132, t133] : List ByteArray)) (inner := [.string t129, .string t130, .string t131, .string t132, .string t133]) (ok := fun _ => True) (okp := fun _ => True) ?hr ?hp (fun _ hk => hk) trivial (Below.refl _ _) (Nat.le_refl _) (by simp) ?_; (case hd => rfl); (case hg => rfl); (case hr => first | (go_simp; done) | (go_simp; rfl)); (case hp => exact (Reps.one (show Kd.M Kd.string _ _ _ t129 [.string t129] from rfl) (Reps.one (show Kd.M Kd.string _ _ _ t130 [.string t130] from rfl) (Reps.one (show Kd.M Kd.string _ _ _ t131 [.string t131] from rfl) (Reps.one (show Kd.M Kd.string _ _ _ t132 [.string t132] from rfl) (Reps.one (show Kd.M Kd.string _ _ _ t133 [.string t133] from rfl) (Reps.none _ _)))))))
  intro v135 w15 ho16 hb hg_ hnew_
  clear hg_ hnew_
  (first | rw [← Ny134.out] at ho16 | (simp only [Int.reduceToNat] at ho16; rw [← Ny134.out] at ho16))
  have n0_ := Aside0.mk (Kd.R_lower ho16 (below_size (by repeat (first | (with_reducible first | exact HB.out | apply below_alloc | apply pw_below_drewN | apply below_drew1 | refine below_set ?_ GE128.out) | exact HB.out))))
  have n1_ := Aside0.mk (blk_below (g := gb128) (o := .cells #[.int .u32 a0_0, .int .u32 a0_1, .int .u8 a0_2, .int .u16 a0_3, .int .u16 a0_4] 67 (0, 0)) (by (with_reducible repeat (first | refine blk_drewN ?_ _ | refine blk_drew ?_ | refine blk_alloc ?_ _)); exact BK128.out) hb)
  have n2_ := Aside0.mk (below_step (by repeat (first | (with_reducible first | exact HB.out | apply below_alloc | apply pw_below_drewN | apply below_drew1 | refine below_set ?_ GE128.out) | exact HB.out)) hb)
  clear BK128
  clear HB
  have HO136 := n0_
  have BK128 := n1_
  have HB := n2_
  clear n0_ n1_ n2_
  clear hb ho16
  obtain ⟨Ao17, co17, eo17⟩ := Kd.R_slice HO136.out
  (first | subst eo17 | (injection eo17 with f1_ f2_ f3_; have f4_ := f1_.symm; have f5_ := f3_.symm; clear f1_ f2_ f3_; subst f4_; subst f5_))
  refine hK.out _ _ ⟨(blk_cell BK128.out 0).trans rfl, (blk_cell BK128.out 1).trans rfl, (blk_cell BK128.out 2).trans rfl, (blk_cell BK128.out 3).trans rfl, (blk_cell BK128.out 4).trans rfl⟩ (fun hHeld => ?_)
  clear hK K
  refine norm_ (a' := ?_) ?_ ?_
  rotate_left
  · show Act.put _ (some 21) _ = _
    simp only [Act.put, List.setIfInBounds_toArray, List.set_cons_zero, List.set_cons_succ, i64_w, i32_w]
    rfl
  refine one_ (i := 19) (N := some 22) #[true, true, true, true, true, true, true, true, true, true, true, true, true, true, true, true, true, true, true, true, false] rfl rfl (one_of HT_.out (by kernel_rfl)) (by decide) (fun K hK => ?_)
  refine goes_ Tryd.func77 (by kernel_rfl) rfl #[.slice Ao17 y134.length co17, .string (⟨#[32]⟩ : ByteArray)] (by rfl) rfl rfl (by (try simp only [List.map_toArray, List.map_cons, List.map_nil]); first | done | rfl | (simp only [List.length_drop, List.length_take]; rfl)) ?_
  with_reducible refine (strings_Join.calls _ _ y134 (⟨#[32]⟩ : ByteArray) t137 _ ?side1 ?side2 A7.out).mono ?_
  (case side1 => repeat (first | exact (Kd.R_reads' HO136.out).2.2 | (with_reducible refine Kd.C_alloc ?_ _) | (with_reducible refine Kd.C_drewN ?_ _) | (with_reducible refine Kd.C_drew ?_)))
  (case side2 => exact (Kd.R_reads' HO136.out).2.1)
  rintro e w18 ⟨rfl, hb⟩
  refine ⟨_, rfl, ?_⟩
  have n0_ := Aside0.mk (Kd.R_below (by (with_reducible repeat (first | apply Kd.R_alloc | apply Kd.R_drewN | apply Kd.R_drew)); exact HO136.out) hb)
  have n1_ := Aside0.mk (blk_below (g := gb128) (o := .cells #[.int .u32 a0_0, .int .u32 a0_1, .int .u8 a0_2, .int .u16 a0_3, .int .u16 a0_4] 67 (0, 0)) (by (with_reducible repeat (first | refine blk_drewN ?_ _ | refine blk_drew ?_ | refine blk_alloc ?_ _)); exact BK128.out) hb)
  have n2_ := Aside0.mk (below_step (by repeat (first | (with_reducible first | exact HB.out | apply below_alloc | apply pw_below_drewN | apply below_drew1 | refine below_set ?_ GE128.out) | exact HB.out)) hb)
  clear HO136
  clear BK128
  clear HB
  have HO136 := n0_
  have BK128 := n1_
  have HB := n2_
  clear n0_ n1_ n2_
  (try clear hb)
  (try clear hb2)
  (try clear hk)
  (try clear hi)
  refine hK.out _ _ ⟨(blk_cell BK128.out 0).trans rfl, (blk_cell BK128.out 1).trans rfl, (blk_cell BK128.out 2).trans rfl, (blk_cell BK128.out 3).trans rfl, (blk_cell BK128.out 4).trans rfl⟩ (fun hHeld => ?_)
  clear hK K
  refine norm_ (a' := ?_) ?_ ?_
  rotate_left
  · show Act.put _ (some 22) _ = _
    simp only [Act.put, List.setIfInBounds_toArray, List.set_cons_zero, List.set_cons_succ, i64_w, i32_w]
    rfl
  refine pure_ (i := 20) (N := some 2) (v := ?_) (a' := ?_) #[true, true, true, true, true, true, true, true, true, true, true, true, true, true, true, true, true, true, true, true, true] rfl rfl (any_of HT_.out (by kernel_rfl)) (fun _ _ _ h => h) (Or.inl ⟨by rfl, ?_⟩) ?_ ?_
  rotate_left
  · intro w'
    go_simp
    with_reducible rfl
  rotate_left
  · simp only [Act.put, List.setIfInBounds_toArray, List.set_cons_zero, List.set_cons_succ, i64_w, i32_w]
    rfl
  refine done_ (done_of HT_.out (by kernel_rfl)) ?_
  try go_wp2
  go_ret
  exact ⟨by first | rfl | (simp [errW_none, errW_some] <;> rfl) | (simp [*, errW_none, errW_some] <;> rfl), by repeat (first | (with_reducible first | exact HB.out | apply below_alloc | apply pw_below_drewN | apply below_drew1 | refine below_set ?_ GE128.out) | exact HB.out)⟩

end Go.Proofs.YtloclimoffhbhaaDoor.PHdm

namespace Go.Proofs.YtloclimoffhbhaaDoor.PHdm
open Go.RowKit Go.Proofs.YtloclimoffhbhaaDoorW.PrintWords Go.Proofs.YtloclimoffhbhaaDoorW.PrintLast Go.Proofs.YtloclimoffhbhaaDoorW.PrintMore
attribute [local go_sem] max2_int min2_int max_two min_two max_three min_three max_four min_four   -- for this text's walks alone
set_option linter.unusedVariables false
set_option linter.unusedSimpArgs false

/-! ### hdr_Number: function 30 (by hand) -/
/-- The digits of a word, one by one: what is read so far, or what is wrong first. -/
def numberGo (most : Int) : List UInt8 → Int → Int × Int
  | [], n => (n, 0)
  | c :: l, n => if c.toNat < 48 ∨ 57 < c.toNat then (0, 6) else if wrap64 (wrap64 (n * 10) + ((c.toNat : Int) - 48)) > most then (0, 5) else numberGo most l (wrap64 (wrap64 (n * 10) + ((c.toNat : Int) - 48)))
/-- A word is none: nothing, or a nought ahead. -/
def numberBad (l : List UInt8) : Bool := l.isEmpty || (decide (1 < l.length) && l.headD 0 == 48)
def hdr_Number.f (a0 : ByteArray) (a1 : Int) : Option (Int × Int) := some (if numberBad a0.data.toList = true then (0, 6) else numberGo a1 a0.data.toList 0)
theorem numberGo_drop (most : Int) (s : ByteArray) (pos : Nat) (n : Int) (h : pos < s.size) : numberGo most (s.data.toList.drop pos) n = numberGo most (s[pos] :: s.data.toList.drop (pos + 1)) n := by
  have : s.data.toList.drop pos = s[pos] :: s.data.toList.drop (pos + 1) := by
    rw [List.drop_eq_getElem_cons (by simpa using h)]; rfl
  rw [this]
theorem numberGo_bad {most n : Int} {c : UInt8} {l : List UInt8} (h : c.toNat < 48 ∨ 57 < c.toNat) : numberGo most (c :: l) n = (0, 6) := by rw [numberGo, if_pos h]
theorem numberGo_over {most n : Int} {c : UInt8} {l : List UInt8} (h : ¬ (c.toNat < 48 ∨ 57 < c.toNat)) (g : most < wrap64 (wrap64 (n * 10) + ((c.toNat : Int) - 48))) : numberGo most (c :: l) n = (0, 5) := by rw [numberGo, if_neg h, if_pos g]
theorem numberGo_on {most n : Int} {c : UInt8} {l : List UInt8} (h : ¬ (c.toNat < 48 ∨ 57 < c.toNat)) (g : wrap64 (wrap64 (n * 10) + ((c.toNat : Int) - 48)) ≤ most) : numberGo most (c :: l) n = numberGo most l (wrap64 (wrap64 (n * 10) + ((c.toNat : Int) - 48))) := by rw [numberGo, if_neg h, if_neg (by omega)]
theorem numberGo_end {most n : Int} {s : ByteArray} {pos : Nat} (h : ¬ pos < s.size) : numberGo most (s.data.toList.drop pos) n = (n, 0) := by
  rw [List.drop_eq_nil_of_le (by simp; omega), numberGo]
theorem below_iter (w : World) (s : ByteArray) (p : Nat) : Below w.heap.size w (w.iter s p) := (Below.refl _ _).alloc (Nat.le_refl _) _
theorem number_ne {s : ByteArray} (h : 0 < s.size) : s.toList.isEmpty = false ∧ ¬ s.toList = [] := by
  have : ¬ s.toList = [] := by
    rw [ByteArray.toList_eq]
    intro e
    have := congrArg List.length e
    rw [Array.length_toList, List.length_nil] at this
    have h2 : s.size = s.data.size := rfl
    omega
  exact ⟨by simpa using this, this⟩
set_option maxHeartbeats 4000000 in
set_option maxRecDepth 1000000 in
theorem hdr_Number.calls (a0 : ByteArray) (a1 : Int) (r1 : Int) (r2 : Int) (w : World) (h : hdr_Number.f a0 a1 = some (r1, r2)) :
    Calls Tryd.prog 30 #[.string a0, .int .i64 a1] w fun e w' => e = .returned (.tuple #[.int .i64 r1, .int .i64 r2]) ∧ Below w.heap.size w w' := by
  have hf : (if numberBad a0.data.toList = true then ((0, 6) : Int × Int) else numberGo a1 a0.data.toList 0) = (r1, r2) := Option.some.inj h
  clear h
  rcases Nat.lt_or_ge 0 a0.size with h0 | h0
  · obtain ⟨e1, e2⟩ := number_ne h0
    have hl : a0.data.toList = a0[0] :: a0.data.toList.drop 1 := by
      have : a0.data.toList.drop 0 = a0[0] :: a0.data.toList.drop 1 := by
        rw [List.drop_eq_getElem_cons (by simpa using h0)]; rfl
      exact this
    have hemp : a0.data.toList.isEmpty = false := by rw [hl]; rfl
    have hhd : a0.data.toList.headD 0 = a0[0] := by rw [hl]; rfl
    have hlen : a0.data.toList.length = a0.size := by simp
    rcases Nat.lt_or_ge 1 a0.size with h1 | h1
    · have h1' : (1 : Int) < a0.size := by omega
      by_cases h2 : a0[0].toNat = 48
      · have h3 : ((a0[0].toNat : Int) == 48) = true := by rw [h2]; rfl
        have h4 : numberBad a0.data.toList = true := by
          unfold numberBad
          rw [hemp, hhd, hlen, Bool.false_or, Bool.and_eq_true, decide_eq_true_iff, beq_iff_eq]
          exact ⟨h1, UInt8.toNat_inj.1 h2⟩
        rw [if_pos h4] at hf
        have HE := Lib.hid hf
        clear hf h4 hl hemp hhd hlen h2
        go_enter Tryd.func30, Tryd.ntmps30
        go_wp2
        go_ret2
        obtain ⟨rfl, rfl⟩ := Prod.mk.inj HE.out
        exact ⟨rfl, Below.refl _ _⟩
      · have h3 : ((a0[0].toNat : Int) == 48) = false := by rw [beq_eq_false_iff_ne]; omega
        have h4 : ¬ numberBad a0.data.toList = true := by
          unfold numberBad
          rw [hemp, hhd, Bool.false_or, Bool.and_eq_true, beq_iff_eq]
          exact fun h => h2 (by rw [h.2]; rfl)
        rw [if_neg h4] at hf
        have HF := Lib.hid hf
        clear hf h4 hl hemp hhd hlen h2
        go_enter Tryd.func30, Tryd.ntmps30
        go_wp2
        go_loopw [4, 5, 6, 8] (fun v4 v5 n v8 wr => ∃ (pos : Nat) (acc : Int) (u : Value), v4 = .int .i64 0 ∧ v5 = .int .i64 0 ∧ v8 = u ∧ wr = w.iter a0 pos ∧ n = .int .i64 acc ∧ numberGo a1 (a0.data.toList.drop pos) acc = (r1, r2) ∧ pos ≤ a0.size) (fun _ _ _ _ wr => a0.size - wr.iterPos w.heap.size)
        case atStart => exact ⟨0, 0, _, rfl, rfl, rfl, rfl, rfl, HF.out, Nat.zero_le _⟩
        case round =>
          obtain ⟨pos, acc, u, rfl, rfl, rfl, rfl, rfl, hc, hb⟩ := hrel
          have HC := Lib.hid hc
          clear hc
          by_cases hp : pos < a0.size
          · have HD := Lib.hid (HC.out.symm.trans (numberGo_drop a1 a0 pos acc hp)).symm
            clear HC
            by_cases ha : (a0[pos]'hp).toNat < 128
            · have hnx : ∀ ty, (Instr.next (.pointer (some ⟨w.heap.size, 0, none⟩)) true ty).run Tryd.prog (w.iter a0 pos) = _ := fun ty => run_next_ascii w a0 pos ty hp ha
              by_cases hd : (a0[pos]'hp).toNat < 48 ∨ 57 < (a0[pos]'hp).toNat
              · have HE := Lib.hid ((numberGo_bad hd).symm.trans HD.out)
                clear HD
                rcases hd with hd | hd
                all_goals
                  go_wp2
                  go_ret2
                  obtain ⟨rfl, rfl⟩ := Prod.mk.inj HE.out
                  exact ⟨rfl, below_iter _ _ _⟩
              · have hd1 : 48 ≤ (a0[pos]'hp).toNat := by omega
                have hd2 : (a0[pos]'hp).toNat ≤ 57 := by omega
                by_cases hov : a1 < wrap64 (wrap64 (acc * 10) + (((a0[pos]'hp).toNat : Int) - 48))
                · have HE := Lib.hid ((numberGo_over hd hov).symm.trans HD.out)
                  clear HD hd
                  go_wp2
                  go_ret2
                  obtain ⟨rfl, rfl⟩ := Prod.mk.inj HE.out
                  exact ⟨rfl, below_iter _ _ _⟩
                · have hov' : wrap64 (wrap64 (acc * 10) + (((a0[pos]'hp).toNat : Int) - 48)) ≤ a1 := by omega
                  have HE := Lib.hid ((numberGo_on hd hov').symm.trans HD.out)
                  clear HD hd hov
                  go_wp2
                  go_roundw
                  case rel => exact ⟨pos + 1, _, _, rfl, rfl, rfl, rfl, rfl, HE.out, by omega⟩
                  case measure => simp; omega
            · obtain ⟨k1, k2⟩ := decode_high a0 pos hp (by omega)
              have hnx : ∀ ty, (Instr.next (.pointer (some ⟨w.heap.size, 0, none⟩)) true ty).run Tryd.prog (w.iter a0 pos) = _ := fun ty => run_next_any w a0 pos ty hp
              have HE := Lib.hid ((numberGo_bad (.inr (by omega))).symm.trans HD.out)
              clear HD
              have k3 : (57 : Int) < ((Utf8.decode a0 pos).1 : Int) := by omega
              go_wp2
              go_ret2
              obtain ⟨rfl, rfl⟩ := Prod.mk.inj HE.out
              exact ⟨rfl, below_iter _ _ _⟩
          · have hnx : ∀ ty, (Instr.next (.pointer (some ⟨w.heap.size, 0, none⟩)) true ty).run Tryd.prog (w.iter a0 pos) = _ := fun ty => run_next_end w a0 pos ty hp
            have HE := Lib.hid ((numberGo_end hp).symm.trans HC.out)
            clear HC
            go_wp2
            go_ret2
            obtain ⟨rfl, rfl⟩ := Prod.mk.inj HE.out
            exact ⟨rfl, below_iter _ _ _⟩
    · have h1' : (a0.size : Int) ≤ 1 := by omega
      have h4 : ¬ numberBad a0.data.toList = true := by
        unfold numberBad
        rw [hemp, Bool.false_or, Bool.and_eq_true, decide_eq_true_iff, hlen]
        exact fun h => by omega
      rw [if_neg h4] at hf
      have HF := Lib.hid hf
      clear hf h4 hl hemp hhd hlen
      go_enter Tryd.func30, Tryd.ntmps30
      go_wp2
      go_loopw [4, 5, 6, 8] (fun v4 v5 n v8 wr => ∃ (pos : Nat) (acc : Int) (u : Value), v4 = .int .i64 0 ∧ v5 = .int .i64 0 ∧ v8 = u ∧ wr = w.iter a0 pos ∧ n = .int .i64 acc ∧ numberGo a1 (a0.data.toList.drop pos) acc = (r1, r2) ∧ pos ≤ a0.size) (fun _ _ _ _ wr => a0.size - wr.iterPos w.heap.size)
      case atStart => exact ⟨0, 0, _, rfl, rfl, rfl, rfl, rfl, HF.out, Nat.zero_le _⟩
      case round =>
        obtain ⟨pos, acc, u, rfl, rfl, rfl, rfl, rfl, hc, hb⟩ := hrel
        have HC := Lib.hid hc
        clear hc
        by_cases hp : pos < a0.size
        · have HD := Lib.hid (HC.out.symm.trans (numberGo_drop a1 a0 pos acc hp)).symm
          clear HC
          by_cases ha : (a0[pos]'hp).toNat < 128
          · have hnx : ∀ ty, (Instr.next (.pointer (some ⟨w.heap.size, 0, none⟩)) true ty).run Tryd.prog (w.iter a0 pos) = _ := fun ty => run_next_ascii w a0 pos ty hp ha
            by_cases hd : (a0[pos]'hp).toNat < 48 ∨ 57 < (a0[pos]'hp).toNat
            · have HE := Lib.hid ((numberGo_bad hd).symm.trans HD.out)
              clear HD
              rcases hd with hd | hd
              all_goals
                go_wp2
                go_ret2
                obtain ⟨rfl, rfl⟩ := Prod.mk.inj HE.out
                exact ⟨rfl, below_iter _ _ _⟩
            · have hd1 : 48 ≤ (a0[pos]'hp).toNat := by omega
              have hd2 : (a0[pos]'hp).toNat ≤ 57 := by omega
              by_cases hov : a1 < wrap64 (wrap64 (acc * 10) + (((a0[pos]'hp).toNat : Int) - 48))
              · have HE := Lib.hid ((numberGo_over hd hov).symm.trans HD.out)
                clear HD hd
                go_wp2
                go_ret2
                obtain ⟨rfl, rfl⟩ := Prod.mk.inj HE.out
                exact ⟨rfl, below_iter _ _ _⟩
              · have hov' : wrap64 (wrap64 (acc * 10) + (((a0[pos]'hp).toNat : Int) - 48)) ≤ a1 := by omega
                have HE := Lib.hid ((numberGo_on hd hov').symm.trans HD.out)
                clear HD hd hov
                go_wp2
                go_roundw
                case rel => exact ⟨pos + 1, _, _, rfl, rfl, rfl, rfl, rfl, HE.out, by omega⟩
                case measure => simp; omega
          · obtain ⟨k1, k2⟩ := decode_high a0 pos hp (by omega)
            have hnx : ∀ ty, (Instr.next (.pointer (some ⟨w.heap.size, 0, none⟩)) true ty).run Tryd.prog (w.iter a0 pos) = _ := fun ty => run_next_any w a0 pos ty hp
            have HE := Lib.hid ((numberGo_bad (.inr (by omega))).symm.trans HD.out)
            clear HD
            have k3 : (57 : Int) < ((Utf8.decode a0 pos).1 : Int) := by omega
            go_wp2
            go_ret2
            obtain ⟨rfl, rfl⟩ := Prod.mk.inj HE.out
            exact ⟨rfl, below_iter _ _ _⟩
        · have hnx : ∀ ty, (Instr.next (.pointer (some ⟨w.heap.size, 0, none⟩)) true ty).run Tryd.prog (w.iter a0 pos) = _ := fun ty => run_next_end w a0 pos ty hp
          have HE := Lib.hid ((numberGo_end hp).symm.trans HC.out)
          clear HC
          go_wp2
          go_ret2
          obtain ⟨rfl, rfl⟩ := Prod.mk.inj HE.out
          exact ⟨rfl, below_iter _ _ _⟩
  · have hl : a0.data.toList = [] := List.eq_nil_of_length_eq_zero (Nat.le_zero.1 h0)
    have h4 : numberBad a0.data.toList = true := by rw [hl]; rfl
    have e1 : a0.toList = [] := (ByteArray.toList_eq a0).trans hl
    rw [if_pos h4] at hf
    have HE := Lib.hid hf
    clear hf h4 hl
    go_enter Tryd.func30, Tryd.ntmps30
    go_wp2
    go_ret2
    obtain ⟨rfl, rfl⟩ := Prod.mk.inj HE.out
    exact ⟨rfl, Below.refl _ _⟩

end Go.Proofs.YtloclimoffhbhaaDoor.PHdm

namespace Go.Proofs.YtloclimoffhbhaaDoor.PHdm
open Go.RowKit Go.Proofs.YtloclimoffhbhaaDoorW.PrintWords Go.Proofs.YtloclimoffhbhaaDoorW.PrintLast Go.Proofs.YtloclimoffhbhaaDoorW.PrintMore
attribute [local go_sem] max2_int min2_int max_two min_two max_three min_three max_four min_four   -- for this text's walks alone
set_option linter.unusedVariables false
set_option linter.unusedSimpArgs false

/-! ### strings_Split: function 84 (by hand) -/
def strings_Split.f (a0 a1 : ByteArray) : Option (List ByteArray) := if a0.size < 4294967281 ∧ 1 ≤ a1.size then some (Lib.splitB a1 0 (Lib.countB a0 a1) a0) else none
theorem strings_Split.calls (a0 a1 : ByteArray) (r : List ByteArray) (w : World) (hG : Hand.Good true false w) (h : strings_Split.f a0 a1 = some r) :
    Calls Tryd.prog 84 #[.string a0, .string a1] w fun e w' => ∃ v0_ : Value, e = .returned (v0_) ∧ Kd.R Kd.string 9 w' w.heap.size (fun _ => True) v0_ r ∧ Below w.heap.size w w' := by
  unfold strings_Split.f at h
  by_cases c : a0.size < 4294967281 ∧ 1 ≤ a1.size
  · rw [if_pos c] at h
    obtain rfl := Option.some.inj h
    exact Hand.split_calls a0 a1 w hG c.1 c.2
  · rw [if_neg c] at h; cases h

end Go.Proofs.YtloclimoffhbhaaDoor.PHdm

namespace Go.Proofs.YtloclimoffhbhaaDoor.PHdm
open Go.RowKit Go.Proofs.YtloclimoffhbhaaDoorW.PrintWords Go.Proofs.YtloclimoffhbhaaDoorW.PrintLast Go.Proofs.YtloclimoffhbhaaDoorW.PrintMore
attribute [local go_sem] max2_int min2_int max_two min_two max_three min_three max_four min_four   -- for this text's walks alone
set_option linter.unusedVariables false
set_option linter.unusedSimpArgs false

/-! ### hdr_ParseAddr: function 52 -/
def hdr_ParseAddr.l0 : Nat → Int → List ByteArray → Int → Int → Option (Int × Int)
  | 0, _, _, _, _ => none
  | k + 1, x5, x15, x16, x17 => if x17 < x16 then (if 0 ≤ x17 then (if x17 < (x15.length : Int) then ((hdr_Number.f (rdOf ByteArray.empty x15 x17) 255).bind fun bt144 => (if bt144.2 = 0 then (hdr_ParseAddr.l0 k (Go.bits .or .u32 ((x5 * 256) % 4294967296) ((bt144.1) % 4294967296)) x15 x16 (wrap64 (x17 + 1))) else (some (0, bt144.2)))) else (none)) else (none)) else (some (x5, 0))
def hdr_ParseAddr.f (k : Nat) (a0 : ByteArray) : Option (Int × Int) := (strings_Split.f a0 (⟨#[46]⟩ : ByteArray)).bind fun t140 => (if (t140.length : Int) = 4 then (hdr_ParseAddr.l0 k 0 t140 (t140.length : Int) 0) else (some (0, 6)))
theorem hdr_ParseAddr.mono_l : ∀ k, (∀ y0 y1 y2 y3, LeO (hdr_ParseAddr.l0 k y0 y1 y2 y3) (hdr_ParseAddr.l0 (k + 1) y0 y1 y2 y3))
  | 0 => fun _ _ _ _ r h => by simp [hdr_ParseAddr.l0] at h
  | k + 1 => by
    have ih0 := hdr_ParseAddr.mono_l k
    · intro y0 y1 y2 y3
      unfold hdr_ParseAddr.l0
      repeat' first
      | (with_reducible exact ih0 _ _ _ _)
      | (with_reducible exact LeO.refl _)
      | (with_reducible exact LeO.none _)
      | (with_reducible refine LeO.ite ?_ ?_)
      | (with_reducible refine LeO.bind ?_ (fun _ => ?_))
      | exact ih0 _ _ _ _
      | exact LeO.none _
      | refine LeO.ite ?_ ?_
      | refine LeO.bind ?_ (fun _ => ?_)
theorem hdr_ParseAddr.mono : ∀ a0 k, LeO (hdr_ParseAddr.f k a0) (hdr_ParseAddr.f (k + 1) a0) := by
  intro a0 k
  have ih0 := hdr_ParseAddr.mono_l k
  unfold hdr_ParseAddr.f
  repeat' first
      | (with_reducible exact ih0 _ _ _ _)
      | (with_reducible exact LeO.refl _)
      | (with_reducible exact LeO.none _)
      | (with_reducible refine LeO.ite ?_ ?_)
      | (with_reducible refine LeO.bind ?_ (fun _ => ?_))
      | exact ih0 _ _ _ _
      | exact LeO.none _
      | refine LeO.ite ?_ ?_
      | refine LeO.bind ?_ (fun _ => ?_)
set_option maxHeartbeats 8000000 in
set_option maxRecDepth 100000 in
theorem hdr_ParseAddr.calls (k : Nat) (a0 : ByteArray) (r1 : Int) (r2 : Int) (w : World) (hG : Hand.Good true false w) (h : hdr_ParseAddr.f k a0 = some (r1, r2)) :
    Calls Tryd.prog 52 #[.string a0] w fun e w' => e = .returned (.tuple #[.int .u32 r1, .int .i64 r2]) ∧ Below w.heap.size w w' := by
  have HB := Aside0.mk (Below.refl w.heap.size w)
  have hGG := Aside0.mk hG
  clear hG
  have H : ((strings_Split.f a0 (⟨#[46]⟩ : ByteArray)).bind fun t140 => (if (t140.length : Int) = 4 then (hdr_ParseAddr.l0 k 0 t140 (t140.length : Int) 0) else (some (0, 6)))) = some (r1, r2) := h
  clear h
  replace H := Option.bind_eq_some_iff.mp H
  obtain ⟨t140, A20, H⟩ := H
  replace H : (if (t140.length : Int) = 4 then (hdr_ParseAddr.l0 k 0 t140 (t140.length : Int) 0) else (some (0, 6))) = some (r1, r2) := H
  have A2 := Aside0.mk A20
  clear A20
  by_cases c3 : (t140.length : Int) = 4
  · rw [if_pos c3] at H
    have c3b0 : ((t140.length : Int) == 4) = true := beq_iff_eq.mpr c3
    have c3b1 : ((t140.length : Int) != 4) = false := bne_eq_false_iff_eq.mpr c3
    clear c3
    have H' := Aside0.mk H
    clear H
    go_enter Tryd.func52, Tryd.ntmps52
    go_wp2_with (first | ((with_reducible refine gate_callee (f := 84) rfl ?_); refine goesL_ (some 11) rfl rfl Tryd.func84 (by kernel_rfl) rfl #[.string a0, .string (⟨#[46]⟩ : ByteArray)] rfl (by (try simp only [List.map_toArray, List.map_cons, List.map_nil]); first | done | rfl | (simp only [List.length_drop, List.length_take]; rfl)) ?_; (with_reducible refine (strings_Split.calls a0 (⟨#[46]⟩ : ByteArray) t140 _ (Hand.Good.below true false hGG.out (by repeat (first | (with_reducible first | exact HB.out | apply below_alloc | apply pw_below_drewN | apply below_drew1) | exact HB.out)) rfl rfl) A2.out).mono ?_); rintro e w4 ⟨v141, rfl, ho0, hb⟩; refine ⟨_, rfl, ?_⟩; have n0_ := Aside0.mk (Kd.R_lower ho0 (below_size (by repeat (first | (with_reducible first | exact HB.out | apply below_alloc | apply pw_below_drewN | apply below_drew1) | exact HB.out)))); have n1_ := Aside0.mk (below_step (by repeat (first | (with_reducible first | exact HB.out | apply below_alloc | apply pw_below_drewN | apply below_drew1) | exact HB.out)) hb); clear HB; have HO142 := n0_; have HB := n1_; clear n0_ n1_; (try clear hb); (try clear hb2); (try clear hk); (try clear hi); (try clear ho0); obtain ⟨Ao5, co5, eo5⟩ := Kd.R_slice HO142.out; subst eo5))
    go_loopg [5, 17] k (fun kq v5 v17 w' => ∃ (x5_1 : Int) (x17_1 : Int), v5 = .int .u32 x5_1 ∧ v17 = .int .i64 x17_1 ∧ Aside0 (hdr_ParseAddr.l0 kq x5_1 t140 (t140.length : Int) x17_1 = some (r1, r2)) ∧ Aside0 (kq ≤ k) ∧ Aside0 (Kd.R Kd.string 9 w' w.heap.size (fun _ => True) (.slice Ao5 t140.length co5) t140) ∧ Aside0 (Below w.heap.size w w'))
    case atStart => exact ⟨(0), (0), (by first | rfl | (simp; done) | (simp [*]; done)), (by first | rfl | (simp; done) | (simp [*]; done)), H', ⟨Nat.le_refl _⟩, ⟨by (with_reducible repeat (first | apply Kd.R_alloc | apply Kd.R_drewN | apply Kd.R_drew)); exact HO142.out⟩, ⟨by repeat (first | (with_reducible first | exact HB.out | apply below_alloc | apply pw_below_drewN | apply below_drew1) | exact HB.out)⟩⟩
    case round =>
      clear H'
      try clear p2
      try clear c3
      try clear c3b0
      try clear c3b1
      try clear c5
      obtain ⟨x5_1, x17_1, rfl, rfl, HA, HK1, HO_15, HB⟩ := hrel
      cases gk with
      | zero => exact absurd HA.out (by simp [hdr_ParseAddr.l0])
      | succ k1 =>
        have H := HA.out
        clear HA
        simp only [hdr_ParseAddr.l0] at H
        by_cases c6 : x17_1 < (t140.length : Int)
        · rw [if_pos c6] at H
          have c6b0 : decide (x17_1 < (t140.length : Int)) = true := decide_eq_true c6
          clear c6
          by_cases c7 : 0 ≤ x17_1
          · rw [if_pos c7] at H
            have c7b0 : decide (0 ≤ x17_1) = true := decide_eq_true c7
            clear c7
            by_cases c8 : x17_1 < (t140.length : Int)
            · rw [if_pos c8] at H
              have c8b0 : decide (x17_1 < (t140.length : Int)) = true := decide_eq_true c8
              clear c8
              replace H := Option.bind_eq_some_iff.mp H
              obtain ⟨⟨t144, t145⟩, A90, H⟩ := H
              replace H : (if t145 = 0 then (hdr_ParseAddr.l0 k1 (Go.bits .or .u32 ((x5_1 * 256) % 4294967296) ((t144) % 4294967296)) t140 (t140.length : Int) (wrap64 (x17_1 + 1))) else (some (0, t145))) = some (r1, r2) := H
              have A9 := Aside0.mk A90
              clear A90
              by_cases c10 : t145 = 0
              · rw [if_pos c10] at H
                have c10b0 : (t145 == 0) = true := beq_iff_eq.mpr c10
                have c10b1 : (t145 != 0) = false := bne_eq_false_iff_eq.mpr c10
                clear c10
                have H' := Aside0.mk H
                clear H
                have p143 : 0 ≤ (x17_1 : Int) := of_decide_eq_true (by first | (with_reducible assumption) | assumption)
                have q143 : x17_1 < (t140.length : Int) := of_decide_eq_true (by first | (with_reducible assumption) | assumption)
                obtain ⟨ad143, e143, hx143_0⟩ := Kd.at_string (Kd.R_reads' HO_15.out).2.2 x17_1 p143 q143
                cases e143
                replace p143 := eq_true p143
                replace q143 := eq_true q143
                go_wp2_with (first | ((with_reducible refine gate_callee (f := 30) rfl ?_); refine goesL_ (some 23) rfl rfl Tryd.func30 (by kernel_rfl) rfl #[.string (rdOf ByteArray.empty t140 x17_1), .int .i64 255] rfl (by (try simp only [List.map_toArray, List.map_cons, List.map_nil]); first | done | rfl | (simp only [List.length_drop, List.length_take]; rfl)) ?_; (with_reducible refine (hdr_Number.calls (rdOf ByteArray.empty t140 x17_1) 255 t144 t145 _ A9.out).mono ?_); rintro e w11 ⟨rfl, hb⟩; refine ⟨_, rfl, ?_⟩; have n0_ := Aside0.mk (Kd.R_below (by (with_reducible repeat (first | apply Kd.R_alloc | apply Kd.R_drewN | apply Kd.R_drew)); exact HO_15.out) hb); have n1_ := Aside0.mk (below_step (by repeat (first | (with_reducible first | exact HB.out | apply below_alloc | apply pw_below_drewN | apply below_drew1) | exact HB.out)) hb); clear HO_15; clear HB; have HO_15 := n0_; have HB := n1_; clear n0_ n1_; (try clear hb); (try clear hb2); (try clear hk); (try clear hi)))
                go_roundg k1
                case measure => have := HK1.out; omega
                case rel => exact ⟨(Go.bits .or .u32 ((x5_1 * 256) % 4294967296) ((t144) % 4294967296)), (wrap64 (x17_1 + 1)), (by first | rfl | (simp; done) | (simp [*]; done)), (by first | rfl | (simp; done) | (simp [*]; done)), H', ⟨by have := HK1.out; omega⟩, ⟨by (with_reducible repeat (first | apply Kd.R_alloc | apply Kd.R_drewN | apply Kd.R_drew)); exact HO_15.out⟩, ⟨by repeat (first | (with_reducible first | exact HB.out | apply below_alloc | apply pw_below_drewN | apply below_drew1) | exact HB.out)⟩⟩
              · rw [if_neg c10] at H
                have c10b0 : (t145 == 0) = false := beq_eq_false_iff_ne.mpr c10
                have c10b1 : (t145 != 0) = true := bne_iff_ne.mpr c10
                simp only [Option.some.injEq, Prod.mk.injEq] at H
                obtain ⟨rfl, rfl⟩ := H
                have p143 : 0 ≤ (x17_1 : Int) := of_decide_eq_true (by first | (with_reducible assumption) | assumption)
                have q143 : x17_1 < (t140.length : Int) := of_decide_eq_true (by first | (with_reducible assumption) | assumption)
                obtain ⟨ad143, e143, hx143_0⟩ := Kd.at_string (Kd.R_reads' HO_15.out).2.2 x17_1 p143 q143
                cases e143
                replace p143 := eq_true p143
                replace q143 := eq_true q143
                go_wp2_with (first | ((with_reducible refine gate_callee (f := 30) rfl ?_); refine goesL_ (some 23) rfl rfl Tryd.func30 (by kernel_rfl) rfl #[.string (rdOf ByteArray.empty t140 x17_1), .int .i64 255] rfl (by (try simp only [List.map_toArray, List.map_cons, List.map_nil]); first | done | rfl | (simp only [List.length_drop, List.length_take]; rfl)) ?_; (with_reducible refine (hdr_Number.calls (rdOf ByteArray.empty t140 x17_1) 255 t144 t145 _ A9.out).mono ?_); rintro e w12 ⟨rfl, hb⟩; refine ⟨_, rfl, ?_⟩; have n0_ := Aside0.mk (Kd.R_below (by (with_reducible repeat (first | apply Kd.R_alloc | apply Kd.R_drewN | apply Kd.R_drew)); exact HO_15.out) hb); have n1_ := Aside0.mk (below_step (by repeat (first | (with_reducible first | exact HB.out | apply below_alloc | apply pw_below_drewN | apply below_drew1) | exact HB.out)) hb); clear HO_15; clear HB; have HO_15 := n0_; have HB := n1_; clear n0_ n1_; (try clear hb); (try clear hb2); (try clear hk); (try clear hi)))
                go_ret2
                exact ⟨by first | rfl | (simp [errW_none, errW_some] <;> rfl) | (simp [*, errW_none, errW_some] <;> rfl), by repeat (first | (with_reducible first | exact HB.out | apply below_alloc | apply pw_below_drewN | apply below_drew1) | exact HB.out)⟩
            · rw [if_neg c8] at H
              exact absurd H (by simp)
          · rw [if_neg c7] at H
            exact absurd H (by simp)
        · rw [if_neg c6] at H
          have c6b0 : decide (x17_1 < (t140.length : Int)) = false := decide_eq_false c6
          clear c6
          simp only [Option.some.injEq, Prod.mk.injEq] at H
          obtain ⟨rfl, rfl⟩ := H
          go_wp2
          go_ret2
          exact ⟨by first | rfl | (simp [errW_none, errW_some] <;> rfl) | (simp [*, errW_none, errW_some] <;> rfl), by repeat (first | (with_reducible first | exact HB.out | apply below_alloc | apply pw_below_drewN | apply below_drew1) | exact HB.out)⟩
  · rw [if_neg c3] at H
    have c3b0 : ((t140.length : Int) == 4) = false := beq_eq_false_iff_ne.mpr c3
    have c3b1 : ((t140.length : Int) != 4) = true := bne_iff_ne.mpr c3
    simp only [Option.some.injEq, Prod.mk.injEq] at H
    obtain ⟨rfl, rfl⟩ := H
    go_enter Tryd.func52, Tryd.ntmps52
    go_wp2_with (first | ((with_reducible refine gate_callee (f := 84) rfl ?_); refine goesL_ (some 11) rfl rfl Tryd.func84 (by kernel_rfl) rfl #[.string a0, .string (⟨#[46]⟩ : ByteArray)] rfl (by (try simp only [List.map_toArray, List.map_cons, List.map_nil]); first | done | rfl | (simp only [List.length_drop, List.length_take]; rfl)) ?_; (with_reducible refine (strings_Split.calls a0 (⟨#[46]⟩ : ByteArray) t140 _ (Hand.Good.below true false hGG.out (by repeat (first | (with_reducible first | exact HB.out | apply below_alloc | apply pw_below_drewN | apply below_drew1) | exact HB.out)) rfl rfl) A2.out).mono ?_); rintro e w13 ⟨v141, rfl, ho0, hb⟩; refine ⟨_, rfl, ?_⟩; have n0_ := Aside0.mk (Kd.R_lower ho0 (below_size (by repeat (first | (with_reducible first | exact HB.out | apply below_alloc | apply pw_below_drewN | apply below_drew1) | exact HB.out)))); have n1_ := Aside0.mk (below_step (by repeat (first | (with_reducible first | exact HB.out | apply below_alloc | apply pw_below_drewN | apply below_drew1) | exact HB.out)) hb); clear HB; have HO142 := n0_; have HB := n1_; clear n0_ n1_; (try clear hb); (try clear hb2); (try clear hk); (try clear hi); (try clear ho0); obtain ⟨Ao14, co14, eo14⟩ := Kd.R_slice HO142.out; subst eo14))
    go_ret2
    exact ⟨by first | rfl | (simp [errW_none, errW_some] <;> rfl) | (simp [*, errW_none, errW_some] <;> rfl), by repeat (first | (with_reducible first | exact HB.out | apply below_alloc | apply pw_below_drewN | apply below_drew1) | exact HB.out)⟩

end Go.Proofs.YtloclimoffhbhaaDoor.PHdm
