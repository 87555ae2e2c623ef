-- Written by wip/myprint.py and wip/merge.py (this session's own programs); Lean checks it.
-- halved
import Derived.Test.YtloclimoffhbhaaDoorSq6
import Derived.Test.YtloclimoffhbhaaDoorPScax0
import Derived.Test.YtloclimoffhbhaaDoorPScax3
namespace Go.Proofs.YtloclimoffhbhaaDoor.PSca
open Go.RowKit Go.Proofs.YtloclimoffhbhaaDoorW.PrintWords Go.Proofs.YtloclimoffhbhaaDoorW.PrintLast Go.Proofs.YtloclimoffhbhaaDoorW.PrintMore Go.Proofs.YtloclimoffhbhaaDoorW.PrintSq List
attribute [local go_sem] max2_int min2_int max_two min_two max_three min_three max_four min_four   -- for this text's walks alone
set_option linter.unusedVariables false
set_option linter.unusedSimpArgs false

/-! ### strings_Join: function 77 (by hand) -/
def strings_Join.f (l0 : List ByteArray) (a1 : ByteArray) : Option ByteArray := if (Lib.join (l0.map (·.data.toList)) a1.data.toList).length ≤ 140737488355328 ∧ l0.length ≤ 140737488355328 then some ⟨(Lib.join (l0.map (·.data.toList)) a1.data.toList).toArray⟩ else none
theorem strings_Join.calls (A0 : Option Addr) (c0 : Nat) (l0 : List ByteArray) (a1 : ByteArray) (r : ByteArray) (w : World) (hr0 : Kd.C Kd.string w A0 l0.length l0) (hc0 : l0.length ≤ c0) (h : strings_Join.f l0 a1 = some r) :
  Calls Tryd.prog 77 #[.slice A0 l0.length c0, .string a1] w fun e w' => e = .returned (.string r) ∧ Below w.heap.size w w' := by
 unfold strings_Join.f at h
 by_cases c : (Lib.join (l0.map (·.data.toList)) a1.data.toList).length ≤ 140737488355328 ∧ l0.length ≤ 140737488355328
 ·rw [if_pos c] at h
  obtain rfl := Option.some.inj h;exact Hand.join_calls A0 c0 l0 a1 w hr0 hc0 c.1 c.2
 ·rw [if_neg c] at h; cases h

end Go.Proofs.YtloclimoffhbhaaDoor.PSca

namespace Go.Proofs.YtloclimoffhbhaaDoor.PSca
open Go.RowKit Go.Proofs.YtloclimoffhbhaaDoorW.PrintWords Go.Proofs.YtloclimoffhbhaaDoorW.PrintLast Go.Proofs.YtloclimoffhbhaaDoorW.PrintMore Go.Proofs.YtloclimoffhbhaaDoorW.PrintSq List
attribute [local go_sem] max2_int min2_int max_two min_two max_three min_three max_four min_four   -- for this text's walks alone
set_option linter.unusedVariables false
set_option linter.unusedSimpArgs false

/-! ### crossbucklaw25_awake: function 21 (by hand) -/
set_option maxHeartbeats 800000 in
set_option maxRecDepth 100000 in
theorem crossbucklaw25_awake.batch_ (k : Nat) (s b1 b2 : ByteArray) (l : List S46) (w : World) (hG : Hand.Good true false w) (hc : strings_Cut.f s ⟨#[32]⟩ = some (b1, b2, true)) (hb : b1.toList = [98, 97, 116, 99, 104]) (h : script_changes.f k b2 = some (l, 0)) :
  Calls Tryd.prog 26 #[.string s] w fun e w' => ∃ v : Value, e = .returned (.tuple #[.iface 122 (.agg #[v]), .int .i64 0]) ∧ Kd.R k46 46 w' w.heap.size (fun _ => True) v l ∧ Below w.heap.size w w' := by
 have HG := Aside0.mk hG;have HC := Aside0.mk hc;have HH := Aside0.mk h
 have hb1 : (b1.toList == [98, 97, 116, 99, 104]) = true := by rw [hb]; rfl
 clear hG hc h hb;go_enter Tryd.func26, Tryd.ntmps26
 go_wp2_with (first
  | (go_at_call 80; (with_reducible refine (strings_Cut.calls s _ b1 b2 true _ HG.out HC.out).mono ?_); rintro e w1 ⟨rfl, hb1⟩; have HB1 := Aside0.mk hb1; clear hb1)
  | (go_at_call 81; (with_reducible refine (script_changes.calls k b2 l 0 _ (Hand.Good.below true false HG.out HB1.out rfl rfl) HH.out).mono ?_); rintro e w2 ⟨v, rfl, hr, hb2⟩; obtain ⟨A, c, rfl⟩ := Kd.R_slice hr; have HR := Aside0.mk (Kd.R_lower hr HB1.out.size); have HB2 := Aside0.mk (below_step HB1.out hb2); clear hr hb2))
 go_ret2;exact ⟨_, rfl, HR.out, HB2.out⟩

theorem crossbucklaw25_awake.add0 (a : Addr) : a.add 0 = a := by unfold Addr.add; split <;> simp_all
theorem crossbucklaw25_awake.aw_cells {w : World} {A : Option Addr} {x y : S46} (h : Kd.C k46 w A 2 [x, y]) (hx : x.f1.f4 = -1) (hy : y.f0 = true) (hy2 : y.f1.f0 = 3) : ∃ ad, A = some ad ∧ w.cell? ⟨ad.block, ad.off + 1 + 5, none⟩ = some (.int .i64 (-1)) ∧ w.cell? ⟨ad.block, ad.off + 7, none⟩ = some (.bool true) ∧
  w.cell? ⟨ad.block, ad.off + 7 + 1, none⟩ = some (.int .i64 3) ∧ ad.block < w.heap.size := by
 obtain ⟨ad, ead, p0, p1, p2, p3, p4, p5, p6⟩ := at_T46 h 0 (by decide) (by decide)
 obtain ⟨ad', ead', q0, q1, q2, q3, q4, q5, q6⟩ := at_T46 h 1 (by decide) (by decide)
 cases ead
 cases ead'
 have e0 : ad.add (Int.toNat 0 * 7) = ad := crossbucklaw25_awake.add0 ad
 have e1 : ad.add (Int.toNat 1 * 7) = ⟨ad.block, ad.off + 7, none⟩ := by
  have := add_field ad 0 7 (by omega)
  rw [crossbucklaw25_awake.add0] at this;exact this
 rw [e0] at p6;rw [e1] at q0 q1;refine ⟨ad, rfl, ?_, ?_, ?_, ?_⟩
 ·have : rd_T46 [x, y] 0 = x := rfl
  rw [this, hx] at p6;exact p6
 ·have : rd_T46 [x, y] 1 = y := rfl
  rw [this, hy] at q0;exact q0
 ·have : rd_T46 [x, y] 1 = y := rfl
  rw [this, hy2] at q1;exact q1
 ·exact World.block_lt_of_cell? w ⟨ad.block, ad.off + 6, none⟩ p6
theorem crossbucklaw25_awake.ta_yes {t xT : TypeId} {fs : Array Field} (hu : Tryd.prog.underlying t = some (.struct fs)) (v : Value) (w : World) : (Instr.typeAssert (.iface t v) xT t true).run Tryd.prog w = .ok (.tuple #[v, .bool true]) w := by
 simp [Instr.typeAssert, run_underlying hu, Result.andThen]
theorem crossbucklaw25_awake.ta_no {t a xT : TypeId} {fs : Array Field} {z : Value} (hu : Tryd.prog.underlying a = some (.struct fs)) (hne : t ≠ a) (v : Value) (w : World) (hz : (zeroValue a).run Tryd.prog w = .ok z w) : (Instr.typeAssert (.iface t v) xT a true).run Tryd.prog w = .ok (.tuple #[z, .bool false]) w := by
 simp [Instr.typeAssert, run_underlying hu, Result.andThen, hne, hz]
set_option maxHeartbeats 800000 in
set_option maxRecDepth 100000 in
theorem crossbucklaw25_awake.walk_ (k : Nat) (b1 b2 : ByteArray) (x y : S46) (w : World) (hG : Hand.Good true false w) (hc : strings_Cut.f ⟨#[98, 97, 116, 99, 104, 32, 97, 100, 100, 32, 49, 32, 48, 32, 49, 48, 46, 48, 46, 48, 46, 48, 47, 56, 32, 53, 32, 100, 114, 111, 112, 59, 32, 100, 101, 108, 32, 51]⟩ ⟨#[32]⟩ = some (b1, b2, true)) (hb : b1.toList = [98, 97, 116, 99, 104]) (h : script_changes.f k b2 = some ([x, y], 0))
  (hx : x.f1.f4 = -1) (hy : y.f0 = true) (hy2 : y.f1.f0 = 3) :
  Calls Tryd.prog 21 #[] w fun e w' => e = .returned (.bool true) ∧ Below w.heap.size w w' := by
 have HG := Aside0.mk hG;have HC := Aside0.mk hc;have HB := Aside0.mk hb;have HH := Aside0.mk h;have HX := Aside0.mk hx;have HY := Aside0.mk hy;have HY2 := Aside0.mk hy2;clear hG hc h hb hx hy hy2
 have hta := fun v => crossbucklaw25_awake.ta_yes (xT := 20) Tryd.underlying122 v
 go_enter Tryd.func21, Tryd.ntmps21
 go_wp2_with (first
  | (go_at_call 26; (with_reducible refine (crossbucklaw25_awake.batch_ k _ b1 b2 [x, y] _ HG.out HC.out HB.out HH.out).mono ?_); rintro e w1 ⟨v, rfl, hr, hb1⟩; obtain ⟨A, c, rfl, hlc, hC⟩ := Kd.R_reads hr; obtain ⟨ad, ead, p6, q0, q1, l0⟩ := crossbucklaw25_awake.aw_cells hC HX.out HY.out HY2.out; cases ead; clear hr hC; have HB1 := Aside0.mk hb1; clear hb1))
 go_ret
 exact ⟨rfl, by repeat (first | exact HB1.out | apply below_alloc)⟩
def awOk (t : List S46 × Int) : Bool := match t.1 with
 | [x, y] => t.2 == 0 && x.f1.f4 == -1 && y.f0 && y.f1.f0 == 3
 | _ => false
def crossbucklaw25_awake.f (k : Nat) : Option Bool := (strings_Cut.f ⟨#[98, 97, 116, 99, 104, 32, 97, 100, 100, 32, 49, 32, 48, 32, 49, 48, 46, 48, 46, 48, 46, 48, 47, 56, 32, 53, 32, 100, 114, 111, 112, 59, 32, 100, 101, 108, 32, 51]⟩ ⟨#[32]⟩).bind fun b => if (b.1.toList == [98, 97, 116, 99, 104] && b.2.2) = true then (script_changes.f k b.2.1).bind fun t => if awOk t = true then some true else none else none
theorem crossbucklaw25_awake.calls (k : Nat) (r : Bool) (w : World) (hG : Hand.Good true false w) (h : crossbucklaw25_awake.f k = some r) : Calls Tryd.prog 21 #[] w fun e w' => e = .returned (.bool r) ∧ Below w.heap.size w w' := by
 unfold crossbucklaw25_awake.f at h;obtain ⟨⟨b1, b2, b3⟩, hc, h⟩ := Option.bind_eq_some_iff.mp h;dsimp only at h;split at h
 case isFalse => cases h
 rename_i hb;rw [Bool.and_eq_true, beq_iff_eq] at hb;obtain ⟨hb1, rfl⟩ := hb;obtain ⟨⟨l, e⟩, hs, h⟩ := Option.bind_eq_some_iff.mp h;split at h
 case isFalse => cases h
 rename_i ho
 cases h
 match l, ho with
 | [x, y], ho =>
  simp only [awOk, Bool.and_eq_true, beq_iff_eq] at ho;obtain ⟨⟨⟨rfl, hx⟩, hy⟩, hy2⟩ := ho;exact crossbucklaw25_awake.walk_ k b1 b2 x y w hG hc hb1 hs hx hy hy2

end Go.Proofs.YtloclimoffhbhaaDoor.PSca

namespace Go.Proofs.YtloclimoffhbhaaDoor.PSca
open Go.RowKit Go.Proofs.YtloclimoffhbhaaDoorW.PrintWords Go.Proofs.YtloclimoffhbhaaDoorW.PrintLast Go.Proofs.YtloclimoffhbhaaDoorW.PrintMore Go.Proofs.YtloclimoffhbhaaDoorW.PrintSq List
attribute [local go_sem] max2_int min2_int max_two min_two max_three min_three max_four min_four   -- for this text's walks alone
set_option linter.unusedVariables false
set_option linter.unusedSimpArgs false

/-! ### strconv_Itoa_76: function 76 (by hand) -/
def strconv_Itoa_76.f (a0 : Int) : Option ByteArray := if -9223372036854775808 ≤ a0 ∧ a0 ≤ 9223372036854775807 then some ⟨(Lib.itoa a0).toArray⟩ else none
theorem strconv_Itoa_76.calls (a0 : Int) (r : ByteArray) (w : World) (hG : Hand.Good false true w) (h : strconv_Itoa_76.f a0 = some r) :
  Calls Tryd.prog 76 #[.int .i64 a0] w fun e w' => e = .returned (.string r) ∧ Below w.heap.size w w' := by
 unfold strconv_Itoa_76.f at h
 by_cases c : -9223372036854775808 ≤ a0 ∧ a0 ≤ 9223372036854775807
 ·rw [if_pos c] at h
  obtain rfl := Option.some.inj h;exact Hand.itoa_calls a0 w hG c.1 c.2
 ·rw [if_neg c] at h; cases h

end Go.Proofs.YtloclimoffhbhaaDoor.PSca

namespace Go.Proofs.YtloclimoffhbhaaDoor.PSca
open Go.RowKit Go.Proofs.YtloclimoffhbhaaDoorW.PrintWords Go.Proofs.YtloclimoffhbhaaDoorW.PrintLast Go.Proofs.YtloclimoffhbhaaDoorW.PrintMore Go.Proofs.YtloclimoffhbhaaDoorW.PrintSq List
attribute [local go_sem] max2_int min2_int max_two min_two max_three min_three max_four min_four   -- for this text's walks alone
set_option linter.unusedVariables false
set_option linter.unusedSimpArgs false

/-! ### hdr_Addr: function 53 -/
def hdr_Addr.l0 : Nat → Int → List ByteArray → Int → Option (ByteArray)
 | 0, _, _, _ => none
 | k + 1, x0, x3, x4 => if x4 ≥ 0 then (if 0 ≤ x4 then ((strconv_Itoa_76.f (wrap64 (Go.bits .and .u32 (shr .u32 x0 x4) 255))).bind fun t245 => (if x3.length < 8796093022208 then (hdr_Addr.l0 k x0 (x3 ++ [t245]) (wrap64 (x4 - 8))) else (none))) else (none)) else ((strings_Join.f x3 (⟨#[46]⟩ : ByteArray)).bind fun t249 => (some t249))
def hdr_Addr.f (k : Nat) (a0 : Int) : Option (ByteArray) := hdr_Addr.l0 k a0 ([] : List ByteArray) 24
set_option maxHeartbeats 8000000 in
set_option maxRecDepth 100000 in
theorem hdr_Addr.calls (k : Nat) (a0 : Int) (r : ByteArray) (w : World) (hG : Hand.Good false true w) (h : hdr_Addr.f k a0 = some r) :
  Calls Tryd.prog 53 #[.int .u32 a0] w fun e w' => e = .returned (.string r) ∧ Below w.heap.size w w' := by
 have HB := Aside0.mk (Below.refl w.heap.size w);have hGG := Aside0.mk hG;clear hG;have H : (hdr_Addr.l0 k a0 ([] : List ByteArray) 24) = some r := h;clear h;have H' := Aside0.mk H;clear H;go_enter Tryd.func53, Tryd.ntmps53;go_wp2
 go_loopg [3, 4] k (fun kq v3 v4 w' => ∃ (x3_1 : List ByteArray) (x4_1 : Int), v4 = .int .i64 x4_1 ∧ Aside0 (hdr_Addr.l0 kq a0 x3_1 x4_1 = some r) ∧ Aside0 (kq ≤ k) ∧ Aside0 (Kd.R Kd.string 9 w' w.heap.size (fun _ => True) v3 x3_1) ∧ Aside0 (Below w.heap.size w w'))
 case atStart => exact ⟨(([] : List ByteArray)), (24), (by first | rfl | (simp; done) | (simp [*]; done)), H', ⟨Nat.le_refl _⟩, ⟨by first | exact Kd.R_nil _ _ _ _ _ | exact Kd.N_nil _ _ _ _ _ | exact Kd.V_nil _ _ _ _ _ | exact Kd.Q_nil _ _ _ _ _ | exact Kd.S_nil _ _ _ _ _⟩, ⟨by repeat (first | (with_reducible first | exact HB.out | apply below_alloc | apply pw_below_drewN | apply below_drew1) | exact HB.out)⟩⟩
 case round =>
  clear H';obtain ⟨x3_1, x4_1, rfl, HA, HK1, HO_3, HB⟩ := hrel
  cases gk with
  | zero => exact absurd HA.out (by simp [hdr_Addr.l0])
  | succ k1 =>
   have H := HA.out;clear HA;simp only [hdr_Addr.l0] at H
   by_cases c2 : x4_1 ≥ 0
   ·rw [if_pos c2] at H
    have c2b0 : decide (0 ≤ x4_1) = true := decide_eq_true c2;clear c2
    by_cases c3 : 0 ≤ x4_1
    ·rw [if_pos c3] at H
     have c3b0 := eq_true c3;have c3b1 : decide (0 ≤ x4_1) = true := decide_eq_true c3;clear c3;obtain ⟨ji4, hji4⟩ : ∃ j_ : Int, (shr .u32 a0 x4_1) = j_ := ⟨_, rfl⟩
     replace H : ((strconv_Itoa_76.f (wrap64 (Go.bits .and .u32 (ji4) 255))).bind fun t245 => (if x3_1.length < 8796093022208 then (hdr_Addr.l0 k1 a0 (x3_1 ++ [t245]) (wrap64 (x4_1 - 8))) else (none))) = some r := by first | (rw [hji4] at H; exact H) | (simp only [hji4] at H ⊢; exact H)
     have hji4_ : (a0 / 2 ^ min x4_1.toNat 32) = ji4 := hji4;have hji4z : x4_1 ≤ 32 → (a0 / 2 ^ x4_1.toNat) = ji4 := shr_small hji4;replace H := Option.bind_eq_some_iff.mp H;obtain ⟨t245, A50, H⟩ := H;replace H : (if x3_1.length < 8796093022208 then (hdr_Addr.l0 k1 a0 (x3_1 ++ [t245]) (wrap64 (x4_1 - 8))) else (none)) = some r := H;have A5 := Aside0.mk A50;clear A50
     by_cases c6 : x3_1.length < 8796093022208
     ·rw [if_pos c6] at H
      have LMc6 := Aside0.mk c6;clear c6;obtain ⟨y246, hy246⟩ : ∃ y_ : List ByteArray, y_ = (x3_1 ++ [t245]) := ⟨_, rfl⟩
      replace H : (hdr_Addr.l0 k1 a0 y246 (wrap64 (x4_1 - 8))) = some r := by first | (rw [hy246]; with_reducible exact H) | (have H2_ := (Option.bind_some _ _).symm.trans H; rw [hy246]; with_reducible exact H2_) | (have H2_ := (Option.bind_some _ _).symm.trans H; with_reducible exact H2_) | with_reducible exact H | (rw [hy246]; exact H) | exact H
      have Ny246 := Aside0.mk hy246;clear hy246;have H' := Aside0.mk H;clear H
      go_wp2_with (first | ((with_reducible refine gate_callee (f := 76) rfl ?_); refine goesL_ (some 15) rfl rfl Tryd.func76 (by kernel_rfl) rfl #[.int .i64 (wrap64 (Go.bits .and .u32 (ji4) 255))] rfl (by (try simp only [List.map_toArray, List.map_cons, List.map_nil]); first | done | (simp only [hji4]; rfl) | rfl | (simp only [List.length_drop, List.length_take]; rfl)) ?_; (with_reducible refine (strconv_Itoa_76.calls (wrap64 (Go.bits .and .u32 (ji4) 255)) t245 _ (Hand.Good.below false true hGG.out (bel HB) rfl rfl) A5.out).mono ?_); rintro e w7 ⟨rfl, hb⟩; refine ⟨_, rfl, ?_⟩; have n0_ := Aside0.mk (Kd.R_below (by (with_reducible repeat (first | apply Kd.R_alloc | apply Kd.R_drewN | apply Kd.R_drew)); exact HO_3.out) hb); have n1_ := Aside0.mk (below_step (bel HB) hb); clear HO_3; clear HB; have HO_3 := n0_; have HB := n1_; clear n0_ n1_; (try clear hb); (try clear hb2); (try clear hk); (try clear hi)) | ((with_reducible refine gate_builtin (b := .append) (xs := #[.tmp 9, .tmp 16]) rfl ?_); at_builtin; refine Kd.R_append Kd.string (w0 := w) w.heap.size rfl (.tmp 9) (.tmp 16) 30 9 (.string ⟨#[]⟩) 16 rfl Tryd.underlying30 info9 rfl (by decide) (by omega) u3 x3_1 t245 [.string t245] (fun _ => True) (fun _ => False) rfl rfl ?aP (fun _ hk => hk.elim) ?aF ?aO ?aB ?aS ?aL ?_; (case aP => exact rfl); (case aB => exact (bel HB)); (case aF => exact (fun _ _ => trivial)); (case aO => exact (by (with_reducible repeat (first | apply Kd.R_alloc | apply Kd.R_drewN | apply Kd.R_drew)); exact HO_3.out)); (case aS => exact (below_size (bel HB))); (case aL => have := LMc6.out; omega); intro v247 w8 ho hb hg hat; rw [← Ny246.out] at ho; have n0_ := Aside0.mk (hb); have n1_ := Aside0.mk (ho); clear HB; clear HO_3; have HB := n0_; have HO248 := n1_; clear n0_ n1_; clear ho hb hg hat))
      go_roundg k1
      case measure => have := HK1.out; omega
      case rel => exact ⟨(y246), (wrap64 (x4_1 - 8)), (by first | rfl | (simp; done) | (simp [*]; done)), H', ⟨by have := HK1.out; omega⟩, ⟨by (with_reducible repeat (first | apply Kd.R_alloc | apply Kd.R_drewN | apply Kd.R_drew)); exact HO248.out⟩, ⟨by repeat (first | (with_reducible first | exact HB.out | apply below_alloc | apply pw_below_drewN | apply below_drew1) | exact HB.out)⟩⟩
     ·rw [if_neg c6] at H
      exact absurd H (by simp)
    ·rw [if_neg c3] at H
     exact absurd H (by simp)
   ·rw [if_neg c2] at H
    have c2b0 : decide (0 ≤ x4_1) = false := decide_eq_false c2;clear c2;replace H := Option.bind_eq_some_iff.mp H;obtain ⟨t249, A90, H⟩ := H;replace H : (some t249) = some r := H;have A9 := Aside0.mk A90;clear A90;obtain rfl := Option.some.inj H;obtain ⟨Ao10, co10, eo10⟩ := Kd.R_slice HO_3.out;subst eo10
    go_wp2_with (first | ((with_reducible refine gate_callee (f := 77) rfl ?_); refine goesL_ (some 19) rfl rfl Tryd.func77 (by kernel_rfl) rfl #[.slice Ao10 x3_1.length co10, .string (⟨#[46]⟩ : ByteArray)] rfl aok ?_; (with_reducible refine (strings_Join.calls _ _ x3_1 (⟨#[46]⟩ : ByteArray) t249 _ ?side1 ?side2 A9.out).mono ?_); (case side1 => repeat (first | exact (Kd.R_reads' HO_3.out).2.2 | (with_reducible refine Kd.C_alloc ?_ _) | (with_reducible refine Kd.C_drewN ?_ _) | (with_reducible refine Kd.C_drew ?_))); (case side2 => exact (Kd.R_reads' HO_3.out).2.1); rintro e w11 ⟨rfl, hb⟩; refine ⟨_, rfl, ?_⟩; have n0_ := Aside0.mk (Kd.R_below (by (with_reducible repeat (first | apply Kd.R_alloc | apply Kd.R_drewN | apply Kd.R_drew)); exact HO_3.out) hb); have n1_ := Aside0.mk (below_step (bel HB) hb); clear HO_3; clear HB; have HO_3 := n0_; have HB := n1_; clear n0_ n1_; (try clear hb); (try clear hb2); (try clear hk); (try clear hi)))
    go_ret
    exact ⟨by first | rfl | (simp [errW_none, errW_some] <;> rfl) | (simp [*, errW_none, errW_some] <;> rfl), bel HB⟩

end Go.Proofs.YtloclimoffhbhaaDoor.PSca

namespace Go.Proofs.YtloclimoffhbhaaDoor.PSca
open Go.RowKit Go.Proofs.YtloclimoffhbhaaDoorW.PrintWords Go.Proofs.YtloclimoffhbhaaDoorW.PrintLast Go.Proofs.YtloclimoffhbhaaDoorW.PrintMore Go.Proofs.YtloclimoffhbhaaDoorW.PrintSq List
attribute [local go_sem] max2_int min2_int max_two min_two max_three min_three max_four min_four   -- for this text's walks alone
set_option linter.unusedVariables false
set_option linter.unusedSimpArgs false

/-! ### cidr_Print: function 62 -/
def cidr_Print.f (k : Nat) (a0_0 : Int) (a0_1 : Int) : Option (ByteArray) := (hdr_Addr.f k a0_0).bind fun t251 => (if t251.size + 1 ≤ 9223372036854775807 then ((strconv_Itoa_76.f a0_1).bind fun t252 => (if (t251 ++ (⟨#[47]⟩ : ByteArray)).size + t252.size ≤ 9223372036854775807 then (some ((t251 ++ (⟨#[47]⟩ : ByteArray)) ++ t252)) else (none))) else (none))
def cidr_Print.T1 : Bool × List (List Nat × List Nat) := (true, [([], []), ([0], [0]), ([1], [1]), ([2], [2]), ([], []), ([4], [4]), ([5, 2], [5]), ([3, 6], [3, 6]), ([7, 6, 0, 1, 2, 3, 4, 5, 6, 7], [7])])
def cidr_Print.B1 : List Nat := [0, 1, 3, 7, 0, 16, 55, 127, 255]
theorem cidr_Print.tab1 : rtab .any (opsOf Tryd.f62 1) = cidr_Print.T1 := by kernel_rfl
theorem cidr_Print.bits1 : waitsOk cidr_Print.T1.2 cidr_Print.B1 = true := by kernel_rfl
set_option maxHeartbeats 8000000 in
set_option maxRecDepth 100000 in
theorem cidr_Print.calls (k : Nat) (a0_0 : Int) (a0_1 : Int) (r : ByteArray) (w : World) (hG : Hand.Good false true w) (h : cidr_Print.f k a0_0 a0_1 = some r) :
  Calls Tryd.prog 62 #[.agg #[.int .u32 a0_0, .int .i64 a0_1]] w fun e w' => e = .returned (.string r) ∧ Below w.heap.size w w' := by
 have hu42 := Tryd.underlying42;have HB := Aside0.mk (Below.refl w.heap.size w);have hGG := Aside0.mk hG;clear hG
 have H : ((hdr_Addr.f k a0_0).bind fun t251 => (if t251.size + 1 ≤ 9223372036854775807 then ((strconv_Itoa_76.f a0_1).bind fun t252 => (if (t251 ++ (⟨#[47]⟩ : ByteArray)).size + t252.size ≤ 9223372036854775807 then (some ((t251 ++ (⟨#[47]⟩ : ByteArray)) ++ t252)) else (none))) else (none))) = some r := h
 clear h;replace H := Option.bind_eq_some_iff.mp H;obtain ⟨t251, A20, H⟩ := H
 replace H : (if t251.size + 1 ≤ 9223372036854775807 then ((strconv_Itoa_76.f a0_1).bind fun t252 => (if (t251 ++ (⟨#[47]⟩ : ByteArray)).size + t252.size ≤ 9223372036854775807 then (some ((t251 ++ (⟨#[47]⟩ : ByteArray)) ++ t252)) else (none))) else (none)) = some r := H
 have A2 := Aside0.mk A20;clear A20
 by_cases c3 : t251.size + 1 ≤ 9223372036854775807
 ·rw [if_pos c3] at H
  have c3b0 := eq_true c3;have c3b1 : decide (t251.size + 1 ≤ 9223372036854775807) = true := decide_eq_true c3
  try have c3b2 : (9223372036854775807 < t251.size + 1) = False := eq_false (Nat.not_lt.2 c3)
  replace H := Option.bind_eq_some_iff.mp H;obtain ⟨t252, A40, H⟩ := H;replace H : (if (t251 ++ (⟨#[47]⟩ : ByteArray)).size + t252.size ≤ 9223372036854775807 then (some ((t251 ++ (⟨#[47]⟩ : ByteArray)) ++ t252)) else (none)) = some r := H;have A4 := Aside0.mk A40;clear A40
  by_cases c5 : (t251 ++ (⟨#[47]⟩ : ByteArray)).size + t252.size ≤ 9223372036854775807
  ·rw [if_pos c5] at H
   have c5b0 := eq_true c5;have c5b1 : decide ((t251 ++ (⟨#[47]⟩ : ByteArray)).size + t252.size ≤ 9223372036854775807) = true := decide_eq_true c5
   try have c5b2 : (9223372036854775807 < (t251 ++ (⟨#[47]⟩ : ByteArray)).size + t252.size) = False := eq_false (Nat.not_lt.2 c5)
   try have c5b3 := c5b2
   try simp only [ByteArray.size_append, Hand.lit_size, List.length_cons, List.length_nil, Nat.zero_add, Nat.reduceAdd] at c5b3
   obtain rfl := Option.some.inj H;go_enter Tryd.func62, Tryd.ntmps62
   try go_wp2_with (first | ((with_reducible refine gate_dst (N := 1) rfl ?_); refine box_event rfl (N := 1) rfl (cs := #[.int .u32 a0_0, .int .i64 a0_1]) (t := 42) gs ?_; intro gb250 hg w6 hbox hb; have n0_ := Aside0.mk (below_step (bel HB) hb); have n1_ := Aside0.mk (hbox); have n2_ := Aside0.mk ((by rw [hg]; exact (below_size (bel HB)) : w.heap.size ≤ gb250)); have n3_ := Aside0.mk ((by rw [hg]; exact (below_size (bel HB)) : w.heap.size ≤ gb250)); clear HB; have HB := n0_; have BK250 := n1_; have GW250 := n2_; have GE250 := n3_; clear n0_ n1_ n2_ n3_; clear hb hbox hg))
   replace BK250 := Aside0.mk (blk_drew BK250.out);replace HB := Aside0.mk (below_drew1 HB.out)
   refine start_ (n := 9) (S := fun w' => w'.cell? ⟨gb250, 0, none⟩ = some (.int .u32 a0_0) ∧ w'.cell? ⟨gb250, 1, none⟩ = some (.int .i64 a0_1)) (ds := []) #[F,F,F,F,F,F,F,F,F] (by kernel_rfl) rfl rfl ⟨(blk_cell BK250.out 0).trans rfl, (blk_cell BK250.out 1).trans rfl⟩ (fun hHeld => ?_); refine with_tabW cidr_Print.tab1 cidr_Print.bits1 (fun HT_ HW_ => ?_)
   generalize w6.drew = w7 at BK250 HB hHeld ⊢
   refine pure_ (i := 0) (N := some 3) (v := ?_) (a' := ?_) #[T,F,F,F,F,F,F,F,F] rfl rfl (any_of HT_.out (by kernel_rfl)) (fun _ _ _ h => h) (Or.inl ⟨by rfl, ?_⟩) ?_ ?_
   rotate_left;·intro w';go_simp;with_reducible rfl
   rotate_left;·simp only [Act.put, setIfInBounds_toArray, set_cons_zero, set_cons_succ, i64_w, i32_w];rfl
   refine pure_ (i := 4) (N := some 7) (v := ?_) (a' := ?_) #[T,F,F,F,T,F,F,F,F] rfl rfl (any_of HT_.out (by kernel_rfl)) (fun _ _ _ h => h) (Or.inl ⟨by rfl, ?_⟩) ?_ ?_
   rotate_left;·intro w';go_simp;with_reducible rfl
   rotate_left;·simp only [Act.put, setIfInBounds_toArray, set_cons_zero, set_cons_succ, i64_w, i32_w];rfl
   refine take_ (i := 1) (N := some 4) (v := ?_) (a' := ?_) #[T,T,F,F,T,F,F,F,F] rfl rfl (take_ofW HT_.out HW_.out (by kernel_rfl)) (fun _ _ _ h => h) (Or.inl ⟨by rfl, ?_⟩) hHeld ?_ ?_
   rotate_left
   ·rintro w' ⟨s0, s1⟩
    go_simp;with_reducible rfl
   rotate_left;·simp only [Act.put, setIfInBounds_toArray, set_cons_zero, set_cons_succ, i64_w, i32_w];rfl
   refine take_ (i := 5) (N := some 8) (v := ?_) (a' := ?_) #[T,T,F,F,T,T,F,F,F] rfl rfl (take_ofW HT_.out HW_.out (by kernel_rfl)) (fun _ _ _ h => h) (Or.inl ⟨by rfl, ?_⟩) hHeld ?_ ?_
   rotate_left
   ·rintro w' ⟨s0, s1⟩
    go_simp;with_reducible rfl
   rotate_left;·simp only [Act.put, setIfInBounds_toArray, set_cons_zero, set_cons_succ, i64_w, i32_w];rfl
   refine one_ (i := 2) (N := some 5) #[T,T,T,F,T,T,F,F,F] rfl rfl (one_of HT_.out (by kernel_rfl)) (by decide) (fun K hK => ?_)
   refine goes_ Tryd.func53 (by kernel_rfl) rfl #[.int .u32 a0_0] (by rfl) rfl rfl aok ?_
   with_reducible refine (hdr_Addr.calls k a0_0 t251 _ (Hand.Good.below false true hGG.out (bel HB) rfl rfl) A2.out).mono ?_
   rintro e w8 ⟨rfl, hb⟩;refine ⟨_, rfl, ?_⟩;replace BK250 := Aside0.mk (bb BK250.out hb)
   replace HB := Aside0.mk (below_step (bel HB) hb)
   (try clear hb);(try clear hb2);(try clear hk);(try clear hi)
   refine hK.out _ _ ⟨(blk_cell BK250.out 0).trans rfl, (blk_cell BK250.out 1).trans rfl⟩ (fun hHeld => ?_)
   clear hK K
   refine norm_ (a' := ?_) ?_ ?_;rotate_left;·show Act.put _ (some 5) _ = _;simp only [Act.put, setIfInBounds_toArray, set_cons_zero, set_cons_succ, i64_w, i32_w];rfl
   refine pure_ (i := 3) (N := some 6) (v := ?_) (a' := ?_) #[T,T,T,T,T,T,F,F,F] rfl rfl (any_of HT_.out (by kernel_rfl)) (fun _ _ _ h => h) (Or.inl ⟨by rfl, ?_⟩) ?_ ?_
   rotate_left;·intro w';go_simp;with_reducible rfl
   rotate_left;·simp only [Act.put, setIfInBounds_toArray, set_cons_zero, set_cons_succ, i64_w, i32_w];rfl
   refine one_ (i := 6) (N := some 9) #[T,T,T,T,T,T,T,F,F] rfl rfl (one_of HT_.out (by kernel_rfl)) (by decide) (fun K hK => ?_)
   refine goes_ Tryd.func76 (by kernel_rfl) rfl #[.int .i64 a0_1] (by rfl) rfl rfl aok ?_
   with_reducible refine (strconv_Itoa_76.calls a0_1 t252 _ (Hand.Good.below false true hGG.out (bel HB) rfl rfl) A4.out).mono ?_
   rintro e w9 ⟨rfl, hb⟩;refine ⟨_, rfl, ?_⟩;replace BK250 := Aside0.mk (bb BK250.out hb)
   replace HB := Aside0.mk (below_step (bel HB) hb)
   (try clear hb);(try clear hb2);(try clear hk);(try clear hi)
   refine hK.out _ _ ⟨(blk_cell BK250.out 0).trans rfl, (blk_cell BK250.out 1).trans rfl⟩ (fun hHeld => ?_)
   clear hK K
   refine norm_ (a' := ?_) ?_ ?_;rotate_left;·show Act.put _ (some 9) _ = _;simp only [Act.put, setIfInBounds_toArray, set_cons_zero, set_cons_succ, i64_w, i32_w];rfl
   refine pure_ (i := 7) (N := some 10) (v := ?_) (a' := ?_) #[T,T,T,T,T,T,T,T,F] rfl rfl (any_of HT_.out (by kernel_rfl)) (fun _ _ _ h => h) (Or.inl ⟨by rfl, ?_⟩) ?_ ?_
   rotate_left;·intro w';go_simp;with_reducible rfl
   rotate_left;·simp only [Act.put, setIfInBounds_toArray, set_cons_zero, set_cons_succ, i64_w, i32_w];rfl
   refine pure_ (i := 8) (N := some 2) (v := ?_) (a' := ?_) #[T,T,T,T,T,T,T,T,T] rfl rfl (any_of HT_.out (by kernel_rfl)) (fun _ _ _ h => h) (Or.inl ⟨by rfl, ?_⟩) ?_ ?_
   rotate_left;·intro w';go_simp;with_reducible rfl
   rotate_left;·simp only [Act.put, setIfInBounds_toArray, set_cons_zero, set_cons_succ, i64_w, i32_w];rfl
   refine done_ (done_of HT_.out (by kernel_rfl)) ?_
   try go_wp2
   go_ret
   exact ⟨by first | rfl | (simp [errW_none, errW_some] <;> rfl) | (simp [*, errW_none, errW_some] <;> rfl), bel HB⟩
  ·rw [if_neg c5] at H
   exact absurd H (by simp)
 ·rw [if_neg c3] at H
  exact absurd H (by simp)

end Go.Proofs.YtloclimoffhbhaaDoor.PSca
