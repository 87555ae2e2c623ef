-- Written by wip/myprint.py and wip/merge.py (this session's own programs); Lean checks it.
-- halved
import Derived.Test.YtloclimoffhbhaaDoorSq6
import Derived.Test.YtloclimoffhbhaaDoorPStox0
import Derived.Test.YtloclimoffhbhaaDoorPStox3
namespace Go.Proofs.YtloclimoffhbhaaDoor.PSto
open Go.RowKit Go.Proofs.YtloclimoffhbhaaDoorW.PrintWords Go.Proofs.YtloclimoffhbhaaDoorW.PrintLast Go.Proofs.YtloclimoffhbhaaDoorW.PrintMore Go.Proofs.YtloclimoffhbhaaDoorW.PrintSq List
attribute [local go_sem] max2_int min2_int max_two min_two max_three min_three max_four min_four   -- for this text's walks alone
set_option linter.unusedVariables false
set_option linter.unusedSimpArgs false

/-! ### strings_Join: function 77 (by hand) -/
def strings_Join.f (l0 : List ByteArray) (a1 : ByteArray) : Option ByteArray := if (Lib.join (l0.map (·.data.toList)) a1.data.toList).length ≤ 140737488355328 ∧ l0.length ≤ 140737488355328 then some ⟨(Lib.join (l0.map (·.data.toList)) a1.data.toList).toArray⟩ else none
theorem strings_Join.calls (A0 : Option Addr) (c0 : Nat) (l0 : List ByteArray) (a1 : ByteArray) (r : ByteArray) (w : World) (hr0 : Kd.C Kd.string w A0 l0.length l0) (hc0 : l0.length ≤ c0) (h : strings_Join.f l0 a1 = some r) :
  Calls Tryd.prog 77 #[.slice A0 l0.length c0, .string a1] w fun e w' => e = .returned (.string r) ∧ Below w.heap.size w w' := by
 unfold strings_Join.f at h
 by_cases c : (Lib.join (l0.map (·.data.toList)) a1.data.toList).length ≤ 140737488355328 ∧ l0.length ≤ 140737488355328
 ·rw [if_pos c] at h
  obtain rfl := Option.some.inj h;exact Hand.join_calls A0 c0 l0 a1 w hr0 hc0 c.1 c.2
 ·rw [if_neg c] at h; cases h

end Go.Proofs.YtloclimoffhbhaaDoor.PSto

namespace Go.Proofs.YtloclimoffhbhaaDoor.PSto
open Go.RowKit Go.Proofs.YtloclimoffhbhaaDoorW.PrintWords Go.Proofs.YtloclimoffhbhaaDoorW.PrintLast Go.Proofs.YtloclimoffhbhaaDoorW.PrintMore Go.Proofs.YtloclimoffhbhaaDoorW.PrintSq List
attribute [local go_sem] max2_int min2_int max_two min_two max_three min_three max_four min_four   -- for this text's walks alone
set_option linter.unusedVariables false
set_option linter.unusedSimpArgs false

/-! ### crossbucklaw25_awake: function 21 (by hand) -/
set_option maxHeartbeats 800000 in
set_option maxRecDepth 100000 in
theorem crossbucklaw25_awake.batch_ (k : Nat) (s b1 b2 : ByteArray) (l : List S46) (w : World) (hG : Hand.Good true false w) (hc : strings_Cut.f s ⟨#[32]⟩ = some (b1, b2, true)) (hb : b1.toList = [98, 97, 116, 99, 104]) (h : script_changes.f k b2 = some (l, 0)) :
  Calls Tryd.prog 26 #[.string s] w fun e w' => ∃ v : Value, e = .returned (.tuple #[.iface 122 (.agg #[v]), .int .i64 0]) ∧ Kd.R k46 46 w' w.heap.size (fun _ => True) v l ∧ Below w.heap.size w w' := by
 have HG := Aside0.mk hG;have HC := Aside0.mk hc;have HH := Aside0.mk h
 have hb1 : (b1.toList == [98, 97, 116, 99, 104]) = true := by rw [hb]; rfl
 clear hG hc h hb;go_enter Tryd.func26, Tryd.ntmps26
 go_wp2_with (first
  | (go_at_call 80; (with_reducible refine (strings_Cut.calls s _ b1 b2 true _ HG.out HC.out).mono ?_); rintro e w1 ⟨rfl, hb1⟩; have HB1 := Aside0.mk hb1; clear hb1)
  | (go_at_call 81; (with_reducible refine (script_changes.calls k b2 l 0 _ (Hand.Good.below true false HG.out HB1.out rfl rfl) HH.out).mono ?_); rintro e w2 ⟨v, rfl, hr, hb2⟩; obtain ⟨A, c, rfl⟩ := Kd.R_slice hr; have HR := Aside0.mk (Kd.R_lower hr HB1.out.size); have HB2 := Aside0.mk (below_step HB1.out hb2); clear hr hb2))
 go_ret2;exact ⟨_, rfl, HR.out, HB2.out⟩

theorem crossbucklaw25_awake.add0 (a : Addr) : a.add 0 = a := by unfold Addr.add; split <;> simp_all
theorem crossbucklaw25_awake.aw_cells {w : World} {A : Option Addr} {x y : S46} (h : Kd.C k46 w A 2 [x, y]) (hx : x.f1.f4 = -1) (hy : y.f0 = true) (hy2 : y.f1.f0 = 3) : ∃ ad, A = some ad ∧ w.cell? ⟨ad.block, ad.off + 1 + 5, none⟩ = some (.int .i64 (-1)) ∧ w.cell? ⟨ad.block, ad.off + 7, none⟩ = some (.bool true) ∧
  w.cell? ⟨ad.block, ad.off + 7 + 1, none⟩ = some (.int .i64 3) ∧ ad.block < w.heap.size := by
 obtain ⟨ad, ead, p0, p1, p2, p3, p4, p5, p6⟩ := at_T46 h 0 (by decide) (by decide)
 obtain ⟨ad', ead', q0, q1, q2, q3, q4, q5, q6⟩ := at_T46 h 1 (by decide) (by decide)
 cases ead
 cases ead'
 have e0 : ad.add (Int.toNat 0 * 7) = ad := crossbucklaw25_awake.add0 ad
 have e1 : ad.add (Int.toNat 1 * 7) = ⟨ad.block, ad.off + 7, none⟩ := by
  have := add_field ad 0 7 (by omega)
  rw [crossbucklaw25_awake.add0] at this;exact this
 rw [e0] at p6;rw [e1] at q0 q1;refine ⟨ad, rfl, ?_, ?_, ?_, ?_⟩
 ·have : rd_T46 [x, y] 0 = x := rfl
  rw [this, hx] at p6;exact p6
 ·have : rd_T46 [x, y] 1 = y := rfl
  rw [this, hy] at q0;exact q0
 ·have : rd_T46 [x, y] 1 = y := rfl
  rw [this, hy2] at q1;exact q1
 ·exact World.block_lt_of_cell? w ⟨ad.block, ad.off + 6, none⟩ p6
theorem crossbucklaw25_awake.ta_yes {t xT : TypeId} {fs : Array Field} (hu : Tryd.prog.underlying t = some (.struct fs)) (v : Value) (w : World) : (Instr.typeAssert (.iface t v) xT t true).run Tryd.prog w = .ok (.tuple #[v, .bool true]) w := by
 simp [Instr.typeAssert, run_underlying hu, Result.andThen]
set_option maxHeartbeats 800000 in
set_option maxRecDepth 100000 in
theorem crossbucklaw25_awake.walk_ (k : Nat) (b1 b2 : ByteArray) (x y : S46) (w : World) (hG : Hand.Good true false w) (hc : strings_Cut.f ⟨#[98, 97, 116, 99, 104, 32, 97, 100, 100, 32, 49, 32, 48, 32, 49, 48, 46, 48, 46, 48, 46, 48, 47, 56, 32, 53, 32, 100, 114, 111, 112, 59, 32, 100, 101, 108, 32, 51]⟩ ⟨#[32]⟩ = some (b1, b2, true)) (hb : b1.toList = [98, 97, 116, 99, 104]) (h : script_changes.f k b2 = some ([x, y], 0))
  (hx : x.f1.f4 = -1) (hy : y.f0 = true) (hy2 : y.f1.f0 = 3) :
  Calls Tryd.prog 21 #[] w fun e w' => e = .returned (.bool true) ∧ Below w.heap.size w w' := by
 have HG := Aside0.mk hG;have HC := Aside0.mk hc;have HB := Aside0.mk hb;have HH := Aside0.mk h;have HX := Aside0.mk hx;have HY := Aside0.mk hy;have HY2 := Aside0.mk hy2;clear hG hc h hb hx hy hy2
 have hta := fun v => crossbucklaw25_awake.ta_yes (xT := 20) Tryd.underlying122 v
 go_enter Tryd.func21, Tryd.ntmps21
 go_wp2_with (first
  | (go_at_call 26; (with_reducible refine (crossbucklaw25_awake.batch_ k _ b1 b2 [x, y] _ HG.out HC.out HB.out HH.out).mono ?_); rintro e w1 ⟨v, rfl, hr, hb1⟩; obtain ⟨A, c, rfl, hlc, hC⟩ := Kd.R_reads hr; obtain ⟨ad, ead, p6, q0, q1, l0⟩ := crossbucklaw25_awake.aw_cells hC HX.out HY.out HY2.out; cases ead; clear hr hC; have HB1 := Aside0.mk hb1; clear hb1))
 go_ret
 exact ⟨rfl, by repeat (first | exact HB1.out | apply below_alloc)⟩
def awOk (t : List S46 × Int) : Bool := match t.1 with
 | [x, y] => t.2 == 0 && x.f1.f4 == -1 && y.f0 && y.f1.f0 == 3
 | _ => false
def crossbucklaw25_awake.f (k : Nat) : Option Bool := (strings_Cut.f ⟨#[98, 97, 116, 99, 104, 32, 97, 100, 100, 32, 49, 32, 48, 32, 49, 48, 46, 48, 46, 48, 46, 48, 47, 56, 32, 53, 32, 100, 114, 111, 112, 59, 32, 100, 101, 108, 32, 51]⟩ ⟨#[32]⟩).bind fun b => if (b.1.toList == [98, 97, 116, 99, 104] && b.2.2) = true then (script_changes.f k b.2.1).bind fun t => if awOk t = true then some true else none else none
theorem crossbucklaw25_awake.calls (k : Nat) (r : Bool) (w : World) (hG : Hand.Good true false w) (h : crossbucklaw25_awake.f k = some r) : Calls Tryd.prog 21 #[] w fun e w' => e = .returned (.bool r) ∧ Below w.heap.size w w' := by
 unfold crossbucklaw25_awake.f at h;obtain ⟨⟨b1, b2, b3⟩, hc, h⟩ := Option.bind_eq_some_iff.mp h;dsimp only at h;split at h
 case isFalse => cases h
 rename_i hb;rw [Bool.and_eq_true, beq_iff_eq] at hb;obtain ⟨hb1, rfl⟩ := hb;obtain ⟨⟨l, e⟩, hs, h⟩ := Option.bind_eq_some_iff.mp h;split at h
 case isFalse => cases h
 rename_i ho
 cases h
 match l, ho with
 | [x, y], ho =>
  simp only [awOk, Bool.and_eq_true, beq_iff_eq] at ho;obtain ⟨⟨⟨rfl, hx⟩, hy⟩, hy2⟩ := ho;exact crossbucklaw25_awake.walk_ k b1 b2 x y w hG hc hb1 hs hx hy hy2

end Go.Proofs.YtloclimoffhbhaaDoor.PSto

namespace Go.Proofs.YtloclimoffhbhaaDoor.PSto
open Go.RowKit Go.Proofs.YtloclimoffhbhaaDoorW.PrintWords Go.Proofs.YtloclimoffhbhaaDoorW.PrintLast Go.Proofs.YtloclimoffhbhaaDoorW.PrintMore Go.Proofs.YtloclimoffhbhaaDoorW.PrintSq List
attribute [local go_sem] max2_int min2_int max_two min_two max_three min_three max_four min_four   -- for this text's walks alone
set_option linter.unusedVariables false
set_option linter.unusedSimpArgs false

/-! ### crossbuckref03_size: function 101 -/
def crossbuckref03_size.l0 : Nat → Int → Int → Option (Int)
 | 0, _, _ => none
 | k + 1, x3, x4 => if x4 < 32 then (crossbuckref03_size.l0 k (IntKind.u64.wrap (x3 * 2)) (wrap64 (x4 + 1))) else (some x3)
def crossbuckref03_size.f (k : Nat) (a0 : Int) : Option (Int) := crossbuckref03_size.l0 k 1 a0
set_option maxHeartbeats 8000000 in
set_option maxRecDepth 100000 in
theorem crossbuckref03_size.calls (k : Nat) (a0 : Int) (r : Int) (w : World) (h : crossbuckref03_size.f k a0 = some r) :
  Calls Tryd.prog 101 #[.int .i64 a0] w fun e w' => e = .returned (.int .u64 r) ∧ Drawn0 w w' := by
 have H : (crossbuckref03_size.l0 k 1 a0) = some r := h;clear h;have H' := Aside0.mk H;clear H;go_enter Tryd.func101, Tryd.ntmps101;go_wp2
 go_loopg [3, 4] k (fun kq v3 v4 w' => ∃ (x3_1 : Int) (x4_1 : Int), v3 = .int .u64 x3_1 ∧ v4 = .int .i64 x4_1 ∧ Aside0 (crossbuckref03_size.l0 kq x3_1 x4_1 = some r) ∧ Aside0 (kq ≤ k) ∧ Drawn0 w w')
 case atStart => exact ⟨(1), (a0), (by first | rfl | (simp; done) | (simp [*]; done)), (by first | rfl | (simp; done) | (simp [*]; done)), H', ⟨Nat.le_refl _⟩, by repeat (first | exact Drawn0.refl _ | apply Drawn0.step)⟩
 case round =>
  clear H'
  try clear c1
  obtain ⟨x3_1, x4_1, rfl, rfl, HA, HK1, ⟨m1, rfl⟩⟩ := hrel
  cases gk with
  | zero => exact absurd HA.out (by simp [crossbuckref03_size.l0])
  | succ k1 =>
   have H := HA.out;clear HA;simp only [crossbuckref03_size.l0] at H
   by_cases c2 : x4_1 < 32
   ·rw [if_pos c2] at H
    have c2b0 : decide (x4_1 < 32) = true := decide_eq_true c2;clear c2;have H' := Aside0.mk H;clear H;go_wp2;go_roundg k1
    case measure => have := HK1.out; omega
    case rel => exact ⟨(IntKind.u64.wrap (x3_1 * 2)), (wrap64 (x4_1 + 1)), (by first | rfl | (simp; done) | (simp [*]; done)), (by first | rfl | (simp; done) | (simp [*]; done)), H', ⟨by have := HK1.out; omega⟩, by repeat (first | exact Drawn0.refl _ | apply Drawn0.step)⟩
   ·rw [if_neg c2] at H
    have c2b0 : decide (x4_1 < 32) = false := decide_eq_false c2;clear c2;obtain rfl := Option.some.inj H;go_wp2;go_ret
    exact ⟨by first | rfl | (simp; done) | (simp [*]; done), by repeat (first | exact Drawn0.refl _ | apply Drawn0.step)⟩

end Go.Proofs.YtloclimoffhbhaaDoor.PSto

namespace Go.Proofs.YtloclimoffhbhaaDoor.PSto
open Go.RowKit Go.Proofs.YtloclimoffhbhaaDoorW.PrintWords Go.Proofs.YtloclimoffhbhaaDoorW.PrintLast Go.Proofs.YtloclimoffhbhaaDoorW.PrintMore Go.Proofs.YtloclimoffhbhaaDoorW.PrintSq List
attribute [local go_sem] max2_int min2_int max_two min_two max_three min_three max_four min_four   -- for this text's walks alone
set_option linter.unusedVariables false
set_option linter.unusedSimpArgs false

/-! ### crossbuckref03_Right: function 61 -/
def crossbuckref03_Right.f (k : Nat) (a0_0 : Int) (a0_1 : Int) : Option (Bool) := if a0_1 ≥ 0 then (if a0_1 ≤ 32 then ((crossbuckref03_size.f k a0_1).bind fun t266 => (if t266 = 0 then (none) else (some ((Int.tmod (IntKind.u64.wrap (a0_0)) t266) == 0)))) else (some false)) else (some false)
set_option maxHeartbeats 8000000 in
set_option maxRecDepth 100000 in
theorem crossbuckref03_Right.calls (k : Nat) (a0_0 : Int) (a0_1 : Int) (r : Bool) (w : World) (h : crossbuckref03_Right.f k a0_0 a0_1 = some r) :
  Calls Tryd.prog 61 #[.agg #[.int .u32 a0_0, .int .i64 a0_1]] w fun e w' => e = .returned (.bool r) ∧ Below w.heap.size w w' := by
 have hu42 := Tryd.underlying42;have HB := Aside0.mk (Below.refl w.heap.size w)
 have H : (if a0_1 ≥ 0 then (if a0_1 ≤ 32 then ((crossbuckref03_size.f k a0_1).bind fun t266 => (if t266 = 0 then (none) else (some ((Int.tmod (IntKind.u64.wrap (a0_0)) t266) == 0)))) else (some false)) else (some false)) = some r := h
 clear h
 by_cases c2 : a0_1 ≥ 0
 ·rw [if_pos c2] at H
  have c2b0 : decide (0 ≤ a0_1) = true := decide_eq_true c2;clear c2
  by_cases c3 : a0_1 ≤ 32
  ·rw [if_pos c3] at H
   have c3b0 : decide (a0_1 ≤ 32) = true := decide_eq_true c3;clear c3;replace H := Option.bind_eq_some_iff.mp H;obtain ⟨t266, A40, H⟩ := H;replace H : (if t266 = 0 then (none) else (some ((Int.tmod (IntKind.u64.wrap (a0_0)) t266) == 0))) = some r := H;have A4 := Aside0.mk A40;clear A40
   by_cases c5 : t266 = 0
   ·rw [if_pos c5] at H
    exact absurd H (by simp)
   ·rw [if_neg c5] at H
    have c5b0 : (t266 == 0) = false := beq_eq_false_iff_ne.mpr c5;have c5b1 : (t266 != 0) = true := bne_iff_ne.mpr c5;obtain rfl := Option.some.inj H;go_enter Tryd.func61, Tryd.ntmps61
    go_wp2_with (first | ((with_reducible refine gate_dst (N := 1) rfl ?_); refine box_event rfl (N := 1) rfl (cs := #[.int .u32 a0_0, .int .i64 a0_1]) (t := 42) gs ?_; intro gb265 hg w6 hbox hb; have n0_ := Aside0.mk (below_step (bel HB) hb); have n1_ := Aside0.mk (hbox); have n2_ := gew HB hg; have n3_ := gew HB hg; clear HB; have HB := n0_; have BK265 := n1_; have GW265 := n2_; have GE265 := n3_; clear n0_ n1_ n2_ n3_; clear hb hbox hg; have hcz7 := cz2 BK265.out) | (go_at_call 101; (with_reducible refine (crossbuckref03_size.calls k a0_1 t266 _ A4.out).mono ?_); rintro e w' ⟨rfl, ⟨nd, rfl⟩⟩; (try first | exact ⟨rfl, _, World.drewN_drewN _ _ _⟩ | exact ⟨rfl, _, Eq.trans (World.drewN_drewN _ _ _) (congrArg (World.drewN _) (Nat.add_assoc _ _ _))⟩)))
    repeat (go_quiet (first | ((with_reducible refine gate_dst (N := 1) rfl ?_); refine box_event rfl (N := 1) rfl (cs := #[.int .u32 a0_0, .int .i64 a0_1]) (t := 42) gs ?_; intro gb265 hg w6 hbox hb; have n0_ := Aside0.mk (below_step (bel HB) hb); have n1_ := Aside0.mk (hbox); have n2_ := gew HB hg; have n3_ := gew HB hg; clear HB; have HB := n0_; have BK265 := n1_; have GW265 := n2_; have GE265 := n3_; clear n0_ n1_ n2_ n3_; clear hb hbox hg; have hcz7 := cz2 BK265.out) | (go_at_call 101; (with_reducible refine (crossbuckref03_size.calls k a0_1 t266 _ A4.out).mono ?_); rintro e w' ⟨rfl, ⟨nd, rfl⟩⟩; (try first | exact ⟨rfl, _, World.drewN_drewN _ _ _⟩ | exact ⟨rfl, _, Eq.trans (World.drewN_drewN _ _ _) (congrArg (World.drewN _) (Nat.add_assoc _ _ _))⟩))); try go_wp2_with (first | ((with_reducible refine gate_dst (N := 1) rfl ?_); refine box_event rfl (N := 1) rfl (cs := #[.int .u32 a0_0, .int .i64 a0_1]) (t := 42) gs ?_; intro gb265 hg w6 hbox hb; have n0_ := Aside0.mk (below_step (bel HB) hb); have n1_ := Aside0.mk (hbox); have n2_ := gew HB hg; have n3_ := gew HB hg; clear HB; have HB := n0_; have BK265 := n1_; have GW265 := n2_; have GE265 := n3_; clear n0_ n1_ n2_ n3_; clear hb hbox hg; have hcz7 := cz2 BK265.out) | (go_at_call 101; (with_reducible refine (crossbuckref03_size.calls k a0_1 t266 _ A4.out).mono ?_); rintro e w' ⟨rfl, ⟨nd, rfl⟩⟩; (try first | exact ⟨rfl, _, World.drewN_drewN _ _ _⟩ | exact ⟨rfl, _, Eq.trans (World.drewN_drewN _ _ _) (congrArg (World.drewN _) (Nat.add_assoc _ _ _))⟩))))
    go_ret
    exact ⟨fin, bel HB⟩
  ·rw [if_neg c3] at H
   have c3b0 : decide (a0_1 ≤ 32) = false := decide_eq_false c3;clear c3;obtain rfl := Option.some.inj H;go_enter Tryd.func61, Tryd.ntmps61
   go_wp2_with (first | ((with_reducible refine gate_dst (N := 1) rfl ?_); refine box_event rfl (N := 1) rfl (cs := #[.int .u32 a0_0, .int .i64 a0_1]) (t := 42) gs ?_; intro gb265 hg w8 hbox hb; have n0_ := Aside0.mk (below_step (bel HB) hb); have n1_ := Aside0.mk (hbox); have n2_ := gew HB hg; have n3_ := gew HB hg; clear HB; have HB := n0_; have BK265 := n1_; have GW265 := n2_; have GE265 := n3_; clear n0_ n1_ n2_ n3_; clear hb hbox hg; have hcz9 := cz2 BK265.out))
   repeat (go_quiet (first | ((with_reducible refine gate_dst (N := 1) rfl ?_); refine box_event rfl (N := 1) rfl (cs := #[.int .u32 a0_0, .int .i64 a0_1]) (t := 42) gs ?_; intro gb265 hg w8 hbox hb; have n0_ := Aside0.mk (below_step (bel HB) hb); have n1_ := Aside0.mk (hbox); have n2_ := gew HB hg; have n3_ := gew HB hg; clear HB; have HB := n0_; have BK265 := n1_; have GW265 := n2_; have GE265 := n3_; clear n0_ n1_ n2_ n3_; clear hb hbox hg; have hcz9 := cz2 BK265.out)); try go_wp2_with (first | ((with_reducible refine gate_dst (N := 1) rfl ?_); refine box_event rfl (N := 1) rfl (cs := #[.int .u32 a0_0, .int .i64 a0_1]) (t := 42) gs ?_; intro gb265 hg w8 hbox hb; have n0_ := Aside0.mk (below_step (bel HB) hb); have n1_ := Aside0.mk (hbox); have n2_ := gew HB hg; have n3_ := gew HB hg; clear HB; have HB := n0_; have BK265 := n1_; have GW265 := n2_; have GE265 := n3_; clear n0_ n1_ n2_ n3_; clear hb hbox hg; have hcz9 := cz2 BK265.out)))
   go_ret
   exact ⟨fin, bel HB⟩
 ·rw [if_neg c2] at H
  have c2b0 : decide (0 ≤ a0_1) = false := decide_eq_false c2;clear c2;obtain rfl := Option.some.inj H;go_enter Tryd.func61, Tryd.ntmps61
  go_wp2_with (first | ((with_reducible refine gate_dst (N := 1) rfl ?_); refine box_event rfl (N := 1) rfl (cs := #[.int .u32 a0_0, .int .i64 a0_1]) (t := 42) gs ?_; intro gb265 hg w10 hbox hb; have n0_ := Aside0.mk (below_step (bel HB) hb); have n1_ := Aside0.mk (hbox); have n2_ := gew HB hg; have n3_ := gew HB hg; clear HB; have HB := n0_; have BK265 := n1_; have GW265 := n2_; have GE265 := n3_; clear n0_ n1_ n2_ n3_; clear hb hbox hg; have hcz11 := cz2 BK265.out))
  repeat (go_quiet (first | ((with_reducible refine gate_dst (N := 1) rfl ?_); refine box_event rfl (N := 1) rfl (cs := #[.int .u32 a0_0, .int .i64 a0_1]) (t := 42) gs ?_; intro gb265 hg w10 hbox hb; have n0_ := Aside0.mk (below_step (bel HB) hb); have n1_ := Aside0.mk (hbox); have n2_ := gew HB hg; have n3_ := gew HB hg; clear HB; have HB := n0_; have BK265 := n1_; have GW265 := n2_; have GE265 := n3_; clear n0_ n1_ n2_ n3_; clear hb hbox hg; have hcz11 := cz2 BK265.out)); try go_wp2_with (first | ((with_reducible refine gate_dst (N := 1) rfl ?_); refine box_event rfl (N := 1) rfl (cs := #[.int .u32 a0_0, .int .i64 a0_1]) (t := 42) gs ?_; intro gb265 hg w10 hbox hb; have n0_ := Aside0.mk (below_step (bel HB) hb); have n1_ := Aside0.mk (hbox); have n2_ := gew HB hg; have n3_ := gew HB hg; clear HB; have HB := n0_; have BK265 := n1_; have GW265 := n2_; have GE265 := n3_; clear n0_ n1_ n2_ n3_; clear hb hbox hg; have hcz11 := cz2 BK265.out)))
  go_ret
  exact ⟨fin, bel HB⟩

end Go.Proofs.YtloclimoffhbhaaDoor.PSto

namespace Go.Proofs.YtloclimoffhbhaaDoor.PSto
open Go.RowKit Go.Proofs.YtloclimoffhbhaaDoorW.PrintWords Go.Proofs.YtloclimoffhbhaaDoorW.PrintLast Go.Proofs.YtloclimoffhbhaaDoorW.PrintMore Go.Proofs.YtloclimoffhbhaaDoorW.PrintSq List
attribute [local go_sem] max2_int min2_int max_two min_two max_three min_three max_four min_four   -- for this text's walks alone
set_option linter.unusedVariables false
set_option linter.unusedSimpArgs false

/-! ### crossbuckref04_Check: function 43 -/
mutual
def crossbuckref04_Check.j0 : Nat → Bool → Int → Int → Int → Int → Int → Int → Int → Int → Int → Option (Int)
 | 0, _, _, _, _, _, _, _, _, _, _ => none
 | k + 1, x12, x268000, x268001, x268002, x268003, x268004, x268005, x268006, x268007, x268008 => if x12 = true then (some 13) else (if x268004 < (-1) then (crossbuckref04_Check.j1 k true x268000 x268001 x268002 x268003 x268004 x268005 x268006 x268007 x268008) else (crossbuckref04_Check.j1 k (decide (x268004 > 255)) x268000 x268001 x268002 x268003 x268004 x268005 x268006 x268007 x268008))
def crossbuckref04_Check.j1 : Nat → Bool → Int → Int → Int → Int → Int → Int → Int → Int → Int → Option (Int)
 | 0, _, _, _, _, _, _, _, _, _, _ => none
 | k + 1, x20, x268000, x268001, x268002, x268003, x268004, x268005, x268006, x268007, x268008 => if x20 = true then (some 5) else (if x268005 > x268006 then (some 14) else (if x268007 > x268008 then (some 14) else (some 0)))
end
def crossbuckref04_Check.f (k : Nat) (a0_0 : Int) (a0_1 : Int) (a0_2 : Int) (a0_3 : Int) (a0_4 : Int) (a0_5 : Int) (a0_6 : Int) (a0_7 : Int) (a0_8 : Int) : Option (Int) := (crossbuckref03_Right.f k a0_0 a0_1).bind fun t268 => (if t268 = true then ((crossbuckref03_Right.f k a0_2 a0_3).bind fun t269 => (crossbuckref04_Check.j0 k (!t269) a0_0 a0_1 a0_2 a0_3 a0_4 a0_5 a0_6 a0_7 a0_8)) else (crossbuckref04_Check.j0 k true a0_0 a0_1 a0_2 a0_3 a0_4 a0_5 a0_6 a0_7 a0_8))
set_option maxHeartbeats 8000000 in
set_option maxRecDepth 100000 in
theorem crossbuckref04_Check.calls (k : Nat) (a0_0 : Int) (a0_1 : Int) (a0_2 : Int) (a0_3 : Int) (a0_4 : Int) (a0_5 : Int) (a0_6 : Int) (a0_7 : Int) (a0_8 : Int) (r : Int) (w : World) (h : crossbuckref04_Check.f k a0_0 a0_1 a0_2 a0_3 a0_4 a0_5 a0_6 a0_7 a0_8 = some r) :
  Calls Tryd.prog 43 #[.agg #[.int .u32 a0_0, .int .i64 a0_1, .int .u32 a0_2, .int .i64 a0_3, .int .i64 a0_4, .int .u16 a0_5, .int .u16 a0_6, .int .u16 a0_7, .int .u16 a0_8]] w fun e w' => e = .returned (.int .i64 r) ∧ Below w.heap.size w w' := by
 have hu77 := Tryd.underlying77;have hu42 := Tryd.underlying42;have HB := Aside0.mk (Below.refl w.heap.size w)
 have H : ((crossbuckref03_Right.f k a0_0 a0_1).bind fun t268 => (if t268 = true then ((crossbuckref03_Right.f k a0_2 a0_3).bind fun t269 => (crossbuckref04_Check.j0 k (!t269) a0_0 a0_1 a0_2 a0_3 a0_4 a0_5 a0_6 a0_7 a0_8)) else (crossbuckref04_Check.j0 k true a0_0 a0_1 a0_2 a0_3 a0_4 a0_5 a0_6 a0_7 a0_8))) = some r := h
 clear h;have HC2 := Aside0.mk H;clear H;go_enter Tryd.func43, Tryd.ntmps43
 go_upto_region 1 with (first | ((with_reducible refine gate_dst (N := 1) rfl ?_); refine box_event rfl (N := 1) rfl (cs := #[.int .u32 a0_0, .int .i64 a0_1, .int .u32 a0_2, .int .i64 a0_3, .int .i64 a0_4, .int .u16 a0_5, .int .u16 a0_6, .int .u16 a0_7, .int .u16 a0_8]) (t := 77) gs ?_; intro gb267 hg w3 hbox hb; have n0_ := Aside0.mk (below_step (bel HB) hb); have n1_ := Aside0.mk (hbox); have n2_ := gew HB hg; have n3_ := gew HB hg; clear HB; have HB := n0_; have BK267 := n1_; have GW267 := n2_; have GE267 := n3_; clear n0_ n1_ n2_ n3_; clear hb hbox hg))
 (try simp only [Act.put, setIfInBounds_toArray, set_cons_zero, set_cons_succ])
 go_cut [12] (fun v12 wc => ∃ (kq : Nat) (x12_1 : Bool), v12 = .bool x12_1 ∧ Aside0 (crossbuckref04_Check.j0 kq x12_1 a0_0 a0_1 a0_2 a0_3 a0_4 a0_5 a0_6 a0_7 a0_8 = some r) ∧ Aside0 (kq ≤ k) ∧ Aside0 (wc.heap[gb267]? = some (.cells #[.int .u32 a0_0, .int .i64 a0_1, .int .u32 a0_2, .int .i64 a0_3, .int .i64 a0_4, .int .u16 a0_5, .int .u16 a0_6, .int .u16 a0_7, .int .u16 a0_8] 77 (0, 0))) ∧ Aside0 (Below w.heap.size w wc))
 case first =>
  have H := HC2.out;clear HC2;replace H := Option.bind_eq_some_iff.mp H;obtain ⟨t268, A40, H⟩ := H
  replace H : (if t268 = true then ((crossbuckref03_Right.f k a0_2 a0_3).bind fun t269 => (crossbuckref04_Check.j0 k (!t269) a0_0 a0_1 a0_2 a0_3 a0_4 a0_5 a0_6 a0_7 a0_8)) else (crossbuckref04_Check.j0 k true a0_0 a0_1 a0_2 a0_3 a0_4 a0_5 a0_6 a0_7 a0_8)) = some r := H
  have A4 := Aside0.mk A40;clear A40
  by_cases c5 : t268 = true
  ·subst c5
   have H1 : ((crossbuckref03_Right.f k a0_2 a0_3).bind fun t269 => (crossbuckref04_Check.j0 k (!t269) a0_0 a0_1 a0_2 a0_3 a0_4 a0_5 a0_6 a0_7 a0_8)) = some r := by rw [if_pos rfl] at H; exact H
   clear H;have H := H1;clear H1;replace H := Option.bind_eq_some_iff.mp H;obtain ⟨t269, A60, H⟩ := H;replace H : (crossbuckref04_Check.j0 k (!t269) a0_0 a0_1 a0_2 a0_3 a0_4 a0_5 a0_6 a0_7 a0_8) = some r := H;have A6 := Aside0.mk A60;clear A60;have H' := Aside0.mk H;clear H;have hcz7 := cz9 BK267.out
   go_wp2_with (first | ((with_reducible refine gate_callee (f := 61) rfl ?_); refine goesL_ (some 5) rfl rfl Tryd.func61 (by kernel_rfl) rfl #[.agg #[.int .u32 a0_0, .int .i64 a0_1]] rfl aok ?_; (with_reducible refine (crossbuckref03_Right.calls k a0_0 a0_1 true _ A4.out).mono ?_); rintro e w8 ⟨rfl, hb⟩; refine ⟨_, rfl, ?_⟩; have n0_ := Aside0.mk (bb BK267.out hb); have n1_ := Aside0.mk (below_step (bel HB) hb); clear BK267; clear HB; have BK267 := n0_; have HB := n1_; clear n0_ n1_; (try clear hb); (try clear hb2); (try clear hk); (try clear hi); have hcz9 := cz9 BK267.out) | (go_at_call 61; (with_reducible refine (crossbuckref03_Right.calls k a0_2 a0_3 t269 _ A6.out).mono ?_); rintro e w10 ⟨rfl, hb⟩; have n0_ := Aside0.mk (bb BK267.out hb); have n1_ := Aside0.mk (below_step (bel HB) hb); clear BK267; clear HB; have BK267 := n0_; have HB := n1_; clear n0_ n1_; (try clear hb); (try clear hb2); (try clear hk); (try clear hi)))
   go_meet
   case rel => exact ⟨_, (!t269), (by first | rfl | (simp; done) | (simp [*]; done)), H', ⟨by first | omega | exact Nat.le_refl _⟩, ⟨bkp⟩, ⟨by repeat (first | (with_reducible first | exact HB.out | apply below_alloc | apply pw_below_drewN | apply below_drew1 | refine below_set ?_ GE267.out) | exact HB.out)⟩⟩
  ·replace c5 := Bool.eq_false_iff.mpr c5
   subst c5
   have H1 : (crossbuckref04_Check.j0 k true a0_0 a0_1 a0_2 a0_3 a0_4 a0_5 a0_6 a0_7 a0_8) = some r := by rw [if_neg (show ¬ (false = true) by decide)] at H; exact H
   clear H;have H := H1;clear H1;have H' := Aside0.mk H;clear H;have hcz11 := cz9 BK267.out
   go_wp2_with (first | ((with_reducible refine gate_callee (f := 61) rfl ?_); refine goesL_ (some 5) rfl rfl Tryd.func61 (by kernel_rfl) rfl #[.agg #[.int .u32 a0_0, .int .i64 a0_1]] rfl aok ?_; (with_reducible refine (crossbuckref03_Right.calls k a0_0 a0_1 false _ A4.out).mono ?_); rintro e w12 ⟨rfl, hb⟩; refine ⟨_, rfl, ?_⟩; have n0_ := Aside0.mk (bb BK267.out hb); have n1_ := Aside0.mk (below_step (bel HB) hb); clear BK267; clear HB; have BK267 := n0_; have HB := n1_; clear n0_ n1_; (try clear hb); (try clear hb2); (try clear hk); (try clear hi)))
   go_meet
   case rel => exact ⟨_, (true), (by first | rfl | (simp; done) | (simp [*]; done)), H', ⟨by first | omega | exact Nat.le_refl _⟩, ⟨bkp⟩, ⟨by repeat (first | (with_reducible first | exact HB.out | apply below_alloc | apply pw_below_drewN | apply below_drew1 | refine below_set ?_ GE267.out) | exact HB.out)⟩⟩
 case rest =>
  clear HC2
  try clear p2
  try clear c4
  try clear c5
  try clear c6
  try clear hcz11
  try clear hcz7
  try clear hcz9
  obtain ⟨kq, x12_1, rfl, HA, HJ1, BK267, HB⟩ := hcut
  cases kq with
  | zero => exact absurd HA.out (by simp [crossbuckref04_Check.j0])
  | succ kj1 =>
   have H := HA.out;clear HA;simp only [crossbuckref04_Check.j0] at H
   by_cases c13 : x12_1 = true
   ·subst c13
    have H1 : (some 13) = some r := by rw [if_pos rfl] at H; exact H
    clear H;have H := H1;clear H1;obtain rfl := Option.some.inj H;go_wp2;go_ret
    exact ⟨fin, bel HB⟩
   ·replace c13 := Bool.eq_false_iff.mpr c13
    subst c13
    have H1 : (if a0_4 < (-1) then (crossbuckref04_Check.j1 kj1 true a0_0 a0_1 a0_2 a0_3 a0_4 a0_5 a0_6 a0_7 a0_8) else (crossbuckref04_Check.j1 kj1 (decide (a0_4 > 255)) a0_0 a0_1 a0_2 a0_3 a0_4 a0_5 a0_6 a0_7 a0_8)) = some r := by rw [if_neg (show ¬ (false = true) by decide)] at H; exact H
    clear H;have H := H1;clear H1;have HC14 := Aside0.mk H;clear H;go_upto_region 3 with (fail)
    go_cut [20] (fun v20 wc => ∃ (kq : Nat) (x20_13 : Bool), v20 = .bool x20_13 ∧ Aside0 (crossbuckref04_Check.j1 kq x20_13 a0_0 a0_1 a0_2 a0_3 a0_4 a0_5 a0_6 a0_7 a0_8 = some r) ∧ Aside0 (kq ≤ kj1) ∧ Aside0 (wc.heap[gb267]? = some (.cells #[.int .u32 a0_0, .int .i64 a0_1, .int .u32 a0_2, .int .i64 a0_3, .int .i64 a0_4, .int .u16 a0_5, .int .u16 a0_6, .int .u16 a0_7, .int .u16 a0_8] 77 (0, 0))) ∧ Aside0 (Below w.heap.size w wc))
    case first =>
     have H := HC14.out;clear HC14
     by_cases c15 : a0_4 < (-1)
     ·rw [if_pos c15] at H
      have c15b0 : decide (a0_4 < (-1)) = true := decide_eq_true c15;clear c15;(first | rw [c15b0] | (simp only [i64_w, i32_w]; rw [c15b0]) | skip);have H' := Aside0.mk H;clear H;have hcz16 := cz9 BK267.out;go_wp2;go_meet
      case rel => exact ⟨_, (true), (by first | rfl | (simp; done) | (simp [*]; done)), H', ⟨by have := HJ1.out; first | omega | exact Nat.le_refl _⟩, ⟨bkp⟩, ⟨by repeat (first | (with_reducible first | exact HB.out | apply below_alloc | apply pw_below_drewN | apply below_drew1 | refine below_set ?_ GE267.out) | exact HB.out)⟩⟩
     ·rw [if_neg c15] at H
      have c15b0 : decide (a0_4 < (-1)) = false := decide_eq_false c15;clear c15;(first | rw [c15b0] | (simp only [i64_w, i32_w]; rw [c15b0]) | skip);have H' := Aside0.mk H;clear H;have hcz17 := cz9 BK267.out;go_wp2;go_meet
      case rel => exact ⟨_, (decide (a0_4 > 255)), (by first | rfl | (simp; done) | (simp [*]; done)), H', ⟨by have := HJ1.out; first | omega | exact Nat.le_refl _⟩, ⟨bkp⟩, ⟨by repeat (first | (with_reducible first | exact HB.out | apply below_alloc | apply pw_below_drewN | apply below_drew1 | refine below_set ?_ GE267.out) | exact HB.out)⟩⟩
    case rest =>
     clear HC14
     try clear c1
     try clear p2
     try clear c4
     try clear c5
     try clear c6
     try clear c13
     try clear c15
     try clear c15b0
     try clear hcz11
     try clear hcz16
     try clear hcz17
     try clear hcz7
     try clear hcz9
     try clear p2
     obtain ⟨kq, x20_13, rfl, HA, HJ13, BK267, HB⟩ := hcut
     cases kq with
     | zero => exact absurd HA.out (by simp [crossbuckref04_Check.j1])
     | succ kj13 =>
      have H := HA.out;clear HA;simp only [crossbuckref04_Check.j1] at H
      by_cases c18 : x20_13 = true
      ·subst c18
       have H1 : (some 5) = some r := by rw [if_pos rfl] at H; exact H
       clear H;have H := H1;clear H1;obtain rfl := Option.some.inj H;go_wp2;go_ret
       exact ⟨fin, bel HB⟩
      ·replace c18 := Bool.eq_false_iff.mpr c18
       subst c18
       have H1 : (if a0_5 > a0_6 then (some 14) else (if a0_7 > a0_8 then (some 14) else (some 0))) = some r := by rw [if_neg (show ¬ (false = true) by decide)] at H; exact H
       clear H;have H := H1;clear H1
       by_cases c19 : a0_5 > a0_6
       ·rw [if_pos c19] at H
        have c19b0 : decide (a0_6 < a0_5) = true := decide_eq_true c19;clear c19;obtain rfl := Option.some.inj H;have hcz20 := cz9 BK267.out;go_wp2;go_ret
        exact ⟨fin, bel HB⟩
       ·rw [if_neg c19] at H
        have c19b0 : decide (a0_6 < a0_5) = false := decide_eq_false c19;clear c19
        by_cases c21 : a0_7 > a0_8
        ·rw [if_pos c21] at H
         have c21b0 : decide (a0_8 < a0_7) = true := decide_eq_true c21;clear c21;obtain rfl := Option.some.inj H;have hcz22 := cz9 BK267.out;go_wp2;go_ret
         exact ⟨fin, bel HB⟩
        ·rw [if_neg c21] at H
         have c21b0 : decide (a0_8 < a0_7) = false := decide_eq_false c21;clear c21;obtain rfl := Option.some.inj H;have hcz23 := cz9 BK267.out;go_wp2;go_ret
         exact ⟨fin, bel HB⟩

end Go.Proofs.YtloclimoffhbhaaDoor.PSto

namespace Go.Proofs.YtloclimoffhbhaaDoor.PSto
open Go.RowKit Go.Proofs.YtloclimoffhbhaaDoorW.PrintWords Go.Proofs.YtloclimoffhbhaaDoorW.PrintLast Go.Proofs.YtloclimoffhbhaaDoorW.PrintMore Go.Proofs.YtloclimoffhbhaaDoorW.PrintSq List
attribute [local go_sem] max2_int min2_int max_two min_two max_three min_three max_four min_four   -- for this text's walks alone
set_option linter.unusedVariables false
set_option linter.unusedSimpArgs false

/-! ### crossbuckref02_Digits: function 99 -/
def crossbuckref02_Digits.l0 : Nat → Int → ByteArray → Option (ByteArray)
 | 0, _, _ => none
 | k + 1, x0, x3 => (some (([(wrap64 (48 + (Int.tmod x0 10))) % 256] : List Int) : List Int)).bind fun y299 => (if (strOfNums y299).size + x3.size ≤ 9223372036854775807 then (if (wrap64 (Int.tdiv x0 10)) = 0 then (some ((strOfNums y299) ++ x3)) else (crossbuckref02_Digits.l0 k (wrap64 (Int.tdiv x0 10)) ((strOfNums y299) ++ x3))) else (none))
def crossbuckref02_Digits.f (k : Nat) (a0 : Int) : Option (ByteArray) := crossbuckref02_Digits.l0 k a0 (⟨#[]⟩ : ByteArray)
theorem crossbuckref02_Digits.mono_l : ∀ k, (∀ y0 y1, LeO (crossbuckref02_Digits.l0 k y0 y1) (crossbuckref02_Digits.l0 (k + 1) y0 y1))
 | 0 => fun _ _ r h => by simp [crossbuckref02_Digits.l0] at h
 | k + 1 => by
  have ih0 := crossbuckref02_Digits.mono_l k
  ·intro y0 y1
   unfold crossbuckref02_Digits.l0
   repeat' first
   | (with_reducible exact ih0 _ _)
   | (with_reducible exact LeO.refl _)
   | (with_reducible exact LeO.none _)
   | (with_reducible refine LeO.ite ?_ ?_)
   | (with_reducible refine LeO.bind ?_ (fun _ => ?_))
   | exact ih0 _ _
   | exact LeO.none _
   | refine LeO.ite ?_ ?_
   | refine LeO.bind ?_ (fun _ => ?_)
set_option maxHeartbeats 8000000 in
set_option maxRecDepth 100000 in
theorem crossbuckref02_Digits.calls (k : Nat) (a0 : Int) (r : ByteArray) (w : World) (h : crossbuckref02_Digits.f k a0 = some r) :
  Calls Tryd.prog 99 #[.int .i64 a0] w fun e w' => e = .returned (.string r) ∧ Below w.heap.size w w' := by
 have HB := Aside0.mk (Below.refl w.heap.size w);have H : (crossbuckref02_Digits.l0 k a0 (⟨#[]⟩ : ByteArray)) = some r := h;clear h;have H' := Aside0.mk H;clear H;go_enter Tryd.func99, Tryd.ntmps99;go_wp2
 go_loopg [0, 3] k (fun kq v0 v3 w' => ∃ (x0_1 : Int) (x3_1 : ByteArray), v0 = .int .i64 x0_1 ∧ v3 = .string x3_1 ∧ Aside0 (crossbuckref02_Digits.l0 kq x0_1 x3_1 = some r) ∧ Aside0 (kq ≤ k) ∧ Aside0 (Below w.heap.size w w'))
 case atStart => exact ⟨(a0), ((⟨#[]⟩ : ByteArray)), (by first | rfl | (simp; done) | (simp [*]; done)), (by first | rfl | (simp; done) | (simp [*]; done)), H', ⟨Nat.le_refl _⟩, ⟨by repeat (first | (with_reducible first | exact HB.out | apply below_alloc | apply pw_below_drewN | apply below_drew1) | exact HB.out)⟩⟩
 case round =>
  clear H';obtain ⟨x0_1, x3_1, rfl, rfl, HA, HK1, HB⟩ := hrel
  cases gk with
  | zero => exact absurd HA.out (by simp [crossbuckref02_Digits.l0])
  | succ k1 =>
   have H := HA.out;clear HA;simp only [crossbuckref02_Digits.l0] at H;obtain ⟨y299, hy299⟩ : ∃ y_ : List Int, y_ = (([(wrap64 (48 + (Int.tmod x0_1 10))) % 256] : List Int)) := ⟨_, rfl⟩
   replace H : (if (strOfNums y299).size + x3_1.size ≤ 9223372036854775807 then (if (wrap64 (Int.tdiv x0_1 10)) = 0 then (some ((strOfNums y299) ++ x3_1)) else (crossbuckref02_Digits.l0 k1 (wrap64 (Int.tdiv x0_1 10)) ((strOfNums y299) ++ x3_1))) else (none)) = some r := by first | (rw [hy299]; with_reducible exact H) | (have H2_ := (Option.bind_some _ _).symm.trans H; rw [hy299]; with_reducible exact H2_) | (have H2_ := (Option.bind_some _ _).symm.trans H; with_reducible exact H2_) | with_reducible exact H | (rw [hy299]; exact H) | exact H
   have Ny299 := Aside0.mk hy299;clear hy299
   by_cases c2 : (strOfNums y299).size + x3_1.size ≤ 9223372036854775807
   ·rw [if_pos c2] at H
    have c2b0 := eq_true c2;have c2b1 : decide ((strOfNums y299).size + x3_1.size ≤ 9223372036854775807) = true := decide_eq_true c2
    try have c2b2 : (9223372036854775807 < (strOfNums y299).size + x3_1.size) = False := eq_false (Nat.not_lt.2 c2)
    by_cases c3 : (wrap64 (Int.tdiv x0_1 10)) = 0
    ·rw [if_pos c3] at H
     have c3b0 : ((wrap64 (Int.tdiv x0_1 10)) == 0) = true := beq_iff_eq.mpr c3;have c3b1 : ((wrap64 (Int.tdiv x0_1 10)) != 0) = false := bne_eq_false_iff_eq.mpr c3;clear c3;obtain rfl := Option.some.inj H
     go_wp2_with (first | ((with_reducible refine gate_dst (N := 8) rfl ?_); refine Kd.R_lit (Kd.int .u8) _ 5 ?hg (N := 8) ?hd (xs := ([(wrap64 (48 + (Int.tmod x0_1 10))) % 256] : List Int)) (inner := [.int .u8 ((wrap64 (48 + (Int.tmod x0_1 10))) % 256)]) (ok := fun _ => True) (okp := fun _ => True) ?hr ?hp (fun _ hk => hk) trivial (Below.refl _ _) (Nat.le_refl _) (by simp) ?_; (case hd => rfl); (case hg => rfl); (case hr => first | (go_simp; done) | (go_simp; rfl)); (case hp => exact (Reps.one (show Kd.M (Kd.int .u8) _ _ _ ((wrap64 (48 + (Int.tmod x0_1 10))) % 256) [.int .u8 ((wrap64 (48 + (Int.tmod x0_1 10))) % 256)] from rfl) (Reps.none _ _))); intro v300 w4 ho5 hb hg_ hnew_; clear hg_ hnew_; (first | rw [← Ny299.out] at ho5 | (simp only [Int.reduceToNat] at ho5; rw [← Ny299.out] at ho5)); have n0_ := Aside0.mk (Kd.R_lower ho5 (below_size (bel HB))); have n1_ := Aside0.mk (below_step (bel HB) hb); clear HB; have HO301 := n0_; have HB := n1_; clear n0_ n1_; clear hb ho5; have hcv6 := own_string (P := Tryd.prog) Tryd.underlying52 Tryd.underlying5 Tryd.underlying9 (Kd.own_of_R HO301.out)))
     go_ret
     exact ⟨fin, bel HB⟩
    ·rw [if_neg c3] at H
     have c3b0 : ((wrap64 (Int.tdiv x0_1 10)) == 0) = false := beq_eq_false_iff_ne.mpr c3;have c3b1 : ((wrap64 (Int.tdiv x0_1 10)) != 0) = true := bne_iff_ne.mpr c3;have H' := Aside0.mk H;clear H
     go_wp2_with (first | ((with_reducible refine gate_dst (N := 8) rfl ?_); refine Kd.R_lit (Kd.int .u8) _ 5 ?hg (N := 8) ?hd (xs := ([(wrap64 (48 + (Int.tmod x0_1 10))) % 256] : List Int)) (inner := [.int .u8 ((wrap64 (48 + (Int.tmod x0_1 10))) % 256)]) (ok := fun _ => True) (okp := fun _ => True) ?hr ?hp (fun _ hk => hk) trivial (Below.refl _ _) (Nat.le_refl _) (by simp) ?_; (case hd => rfl); (case hg => rfl); (case hr => first | (go_simp; done) | (go_simp; rfl)); (case hp => exact (Reps.one (show Kd.M (Kd.int .u8) _ _ _ ((wrap64 (48 + (Int.tmod x0_1 10))) % 256) [.int .u8 ((wrap64 (48 + (Int.tmod x0_1 10))) % 256)] from rfl) (Reps.none _ _))); intro v300 w7 ho8 hb hg_ hnew_; clear hg_ hnew_; (first | rw [← Ny299.out] at ho8 | (simp only [Int.reduceToNat] at ho8; rw [← Ny299.out] at ho8)); have n0_ := Aside0.mk (Kd.R_lower ho8 (below_size (bel HB))); have n1_ := Aside0.mk (below_step (bel HB) hb); clear HB; have HO301 := n0_; have HB := n1_; clear n0_ n1_; clear hb ho8; have hcv9 := own_string (P := Tryd.prog) Tryd.underlying52 Tryd.underlying5 Tryd.underlying9 (Kd.own_of_R HO301.out)))
     go_roundg k1
     case measure => have := HK1.out; omega
     case rel => exact ⟨(wrap64 (Int.tdiv x0_1 10)), ((strOfNums y299) ++ x3_1), (by first | rfl | (simp; done) | (simp [*]; done)), (by first | rfl | (simp; done) | (simp [*]; done)), H', ⟨by have := HK1.out; omega⟩, ⟨by repeat (first | (with_reducible first | exact HB.out | apply below_alloc | apply pw_below_drewN | apply below_drew1) | exact HB.out)⟩⟩
   ·rw [if_neg c2] at H
    exact absurd H (by simp)

end Go.Proofs.YtloclimoffhbhaaDoor.PSto
