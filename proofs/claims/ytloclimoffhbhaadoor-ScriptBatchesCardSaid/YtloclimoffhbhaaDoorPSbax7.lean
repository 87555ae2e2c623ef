-- Written by wip/myprint.py and wip/merge.py (this session's own programs); Lean checks it.
-- halved
import Derived.Test.YtloclimoffhbhaaDoorPSbax0
namespace Go.Proofs.YtloclimoffhbhaaDoor.PSba
open Go.RowKit Go.Proofs.YtloclimoffhbhaaDoorW.PrintWords Go.Proofs.YtloclimoffhbhaaDoorW.PrintLast Go.Proofs.YtloclimoffhbhaaDoorW.PrintMore
attribute [local go_sem] max2_int min2_int max_two min_two max_three min_three max_four min_four   -- for this text's walks alone
set_option linter.unusedVariables false
set_option linter.unusedSimpArgs false

/-! ### crossbuckref02_Digits: function 99 -/
def crossbuckref02_Digits.l0 : Nat → Int → ByteArray → Option (ByteArray)
 | 0, _, _ => none
 | k + 1, x0, x3 => (some (([(wrap64 (48 + (Int.tmod x0 10))) % 256] : List Int) : List Int)).bind fun y299 => (if (strOfNums y299).size + x3.size ≤ 9223372036854775807 then (if (wrap64 (Int.tdiv x0 10)) = 0 then (some ((strOfNums y299) ++ x3)) else (crossbuckref02_Digits.l0 k (wrap64 (Int.tdiv x0 10)) ((strOfNums y299) ++ x3))) else (none))
def crossbuckref02_Digits.f (k : Nat) (a0 : Int) : Option (ByteArray) := crossbuckref02_Digits.l0 k a0 (⟨#[]⟩ : ByteArray)
theorem crossbuckref02_Digits.mono_l : ∀ k, (∀ y0 y1, LeO (crossbuckref02_Digits.l0 k y0 y1) (crossbuckref02_Digits.l0 (k + 1) y0 y1))
 | 0 => fun _ _ r h => by simp [crossbuckref02_Digits.l0] at h
 | k + 1 => by
  have ih0 := crossbuckref02_Digits.mono_l k
  ·intro y0 y1
   unfold crossbuckref02_Digits.l0
   repeat' first
   | (with_reducible exact ih0 _ _)
   | (with_reducible exact LeO.refl _)
   | (with_reducible exact LeO.none _)
   | (with_reducible refine LeO.ite ?_ ?_)
   | (with_reducible refine LeO.bind ?_ (fun _ => ?_))
   | exact ih0 _ _
   | exact LeO.none _
   | refine LeO.ite ?_ ?_
   | refine LeO.bind ?_ (fun _ => ?_)
theorem crossbuckref02_Digits.mono : ∀ a0 k, LeO (crossbuckref02_Digits.f k a0) (crossbuckref02_Digits.f (k + 1) a0) := by
 intro a0 k
 have ih0 := crossbuckref02_Digits.mono_l k
 unfold crossbuckref02_Digits.f
 repeat' first
   | (with_reducible exact ih0 _ _)
   | (with_reducible exact LeO.refl _)
   | (with_reducible exact LeO.none _)
   | (with_reducible refine LeO.ite ?_ ?_)
   | (with_reducible refine LeO.bind ?_ (fun _ => ?_))
   | exact ih0 _ _
   | exact LeO.none _
   | refine LeO.ite ?_ ?_
   | refine LeO.bind ?_ (fun _ => ?_)
set_option maxHeartbeats 8000000 in
set_option maxRecDepth 100000 in
theorem crossbuckref02_Digits.calls (k : Nat) (a0 : Int) (r : ByteArray) (w : World) (h : crossbuckref02_Digits.f k a0 = some r) :
  Calls Tryd.prog 99 #[.int .i64 a0] w fun e w' => e = .returned (.string r) ∧ Below w.heap.size w w' := by
 have HB := Aside0.mk (Below.refl w.heap.size w)
 have H : (crossbuckref02_Digits.l0 k a0 (⟨#[]⟩ : ByteArray)) = some r := h
 clear h
 have H' := Aside0.mk H
 clear H
 go_enter Tryd.func99, Tryd.ntmps99
 go_wp2
 go_loopg [0, 3] k (fun kq v0 v3 w' => ∃ (x0_1 : Int) (x3_1 : ByteArray), v0 = .int .i64 x0_1 ∧ v3 = .string x3_1 ∧ Aside0 (crossbuckref02_Digits.l0 kq x0_1 x3_1 = some r) ∧ Aside0 (kq ≤ k) ∧ Aside0 (Below w.heap.size w w'))
 case atStart => exact ⟨(a0), ((⟨#[]⟩ : ByteArray)), (by first | rfl | (simp; done) | (simp [*]; done)), (by first | rfl | (simp; done) | (simp [*]; done)), H', ⟨Nat.le_refl _⟩, ⟨by repeat (first | (with_reducible first | exact HB.out | apply below_alloc | apply pw_below_drewN | apply below_drew1) | exact HB.out)⟩⟩
 case round =>
  clear H'
  obtain ⟨x0_1, x3_1, rfl, rfl, HA, HK1, HB⟩ := hrel
  cases gk with
  | zero => exact absurd HA.out (by simp [crossbuckref02_Digits.l0])
  | succ k1 =>
   have H := HA.out
   clear HA
   simp only [crossbuckref02_Digits.l0] at H
   obtain ⟨y299, hy299⟩ : ∃ y_ : List Int, y_ = (([(wrap64 (48 + (Int.tmod x0_1 10))) % 256] : List Int)) := ⟨_, rfl⟩
   replace H : (if (strOfNums y299).size + x3_1.size ≤ 9223372036854775807 then (if (wrap64 (Int.tdiv x0_1 10)) = 0 then (some ((strOfNums y299) ++ x3_1)) else (crossbuckref02_Digits.l0 k1 (wrap64 (Int.tdiv x0_1 10)) ((strOfNums y299) ++ x3_1))) else (none)) = some r := by first | (rw [hy299]; with_reducible exact H) | (have H2_ := (Option.bind_some _ _).symm.trans H; rw [hy299]; with_reducible exact H2_) | (have H2_ := (Option.bind_some _ _).symm.trans H; with_reducible exact H2_) | with_reducible exact H | (rw [hy299]; exact H) | exact H
   have Ny299 := Aside0.mk hy299
   clear hy299
   by_cases c2 : (strOfNums y299).size + x3_1.size ≤ 9223372036854775807
   ·rw [if_pos c2] at H
    have c2b0 := eq_true c2
    have c2b1 : decide ((strOfNums y299).size + x3_1.size ≤ 9223372036854775807) = true := decide_eq_true c2
    try have c2b2 : (9223372036854775807 < (strOfNums y299).size + x3_1.size) = False := eq_false (Nat.not_lt.2 c2)
    by_cases c3 : (wrap64 (Int.tdiv x0_1 10)) = 0
    ·rw [if_pos c3] at H
     have c3b0 : ((wrap64 (Int.tdiv x0_1 10)) == 0) = true := beq_iff_eq.mpr c3
     have c3b1 : ((wrap64 (Int.tdiv x0_1 10)) != 0) = false := bne_eq_false_iff_eq.mpr c3
     clear c3
     obtain rfl := Option.some.inj H
     go_wp2_with (first | ((with_reducible refine gate_dst (N := 8) rfl ?_); refine Kd.R_lit (Kd.int .u8) _ 5 ?hg (N := 8) ?hd (xs := ([(wrap64 (48 + (Int.tmod x0_1 10))) % 256] : List Int)) (inner := [.int .u8 ((wrap64 (48 + (Int.tmod x0_1 10))) % 256)]) (ok := fun _ => True) (okp := fun _ => True) ?hr ?hp (fun _ hk => hk) trivial (Below.refl _ _) (Nat.le_refl _) (by simp) ?_; (case hd => rfl); (case hg => rfl); (case hr => first | (go_simp; done) | (go_simp; rfl)); (case hp => exact (Reps.one (show Kd.M (Kd.int .u8) _ _ _ ((wrap64 (48 + (Int.tmod x0_1 10))) % 256) [.int .u8 ((wrap64 (48 + (Int.tmod x0_1 10))) % 256)] from rfl) (Reps.none _ _))); intro v300 w4 ho5 hb hg_ hnew_; clear hg_ hnew_; (first | rw [← Ny299.out] at ho5 | (simp only [Int.reduceToNat] at ho5; rw [← Ny299.out] at ho5)); have n0_ := Aside0.mk (Kd.R_lower ho5 (below_size (by repeat (first | (with_reducible first | exact HB.out | apply below_alloc | apply pw_below_drewN | apply below_drew1) | exact HB.out)))); have n1_ := Aside0.mk (below_step (by repeat (first | (with_reducible first | exact HB.out | apply below_alloc | apply pw_below_drewN | apply below_drew1) | exact HB.out)) hb); clear HB; have HO301 := n0_; have HB := n1_; clear n0_ n1_; clear hb ho5; have hcv6 := own_string (P := Tryd.prog) Tryd.underlying52 Tryd.underlying5 Tryd.underlying9 (Kd.own_of_R HO301.out)))
     go_ret
     exact ⟨by first | rfl | (simp [errW_none, errW_some] <;> rfl) | (simp [*, errW_none, errW_some] <;> rfl), by repeat (first | (with_reducible first | exact HB.out | apply below_alloc | apply pw_below_drewN | apply below_drew1) | exact HB.out)⟩
    ·rw [if_neg c3] at H
     have c3b0 : ((wrap64 (Int.tdiv x0_1 10)) == 0) = false := beq_eq_false_iff_ne.mpr c3
     have c3b1 : ((wrap64 (Int.tdiv x0_1 10)) != 0) = true := bne_iff_ne.mpr c3
     have H' := Aside0.mk H
     clear H
     go_wp2_with (first | ((with_reducible refine gate_dst (N := 8) rfl ?_); refine Kd.R_lit (Kd.int .u8) _ 5 ?hg (N := 8) ?hd (xs := ([(wrap64 (48 + (Int.tmod x0_1 10))) % 256] : List Int)) (inner := [.int .u8 ((wrap64 (48 + (Int.tmod x0_1 10))) % 256)]) (ok := fun _ => True) (okp := fun _ => True) ?hr ?hp (fun _ hk => hk) trivial (Below.refl _ _) (Nat.le_refl _) (by simp) ?_; (case hd => rfl); (case hg => rfl); (case hr => first | (go_simp; done) | (go_simp; rfl)); (case hp => exact (Reps.one (show Kd.M (Kd.int .u8) _ _ _ ((wrap64 (48 + (Int.tmod x0_1 10))) % 256) [.int .u8 ((wrap64 (48 + (Int.tmod x0_1 10))) % 256)] from rfl) (Reps.none _ _))); intro v300 w7 ho8 hb hg_ hnew_; clear hg_ hnew_; (first | rw [← Ny299.out] at ho8 | (simp only [Int.reduceToNat] at ho8; rw [← Ny299.out] at ho8)); have n0_ := Aside0.mk (Kd.R_lower ho8 (below_size (by repeat (first | (with_reducible first | exact HB.out | apply below_alloc | apply pw_below_drewN | apply below_drew1) | exact HB.out)))); have n1_ := Aside0.mk (below_step (by repeat (first | (with_reducible first | exact HB.out | apply below_alloc | apply pw_below_drewN | apply below_drew1) | exact HB.out)) hb); clear HB; have HO301 := n0_; have HB := n1_; clear n0_ n1_; clear hb ho8; have hcv9 := own_string (P := Tryd.prog) Tryd.underlying52 Tryd.underlying5 Tryd.underlying9 (Kd.own_of_R HO301.out)))
     go_roundg k1
     case measure => have := HK1.out; omega
     case rel => exact ⟨(wrap64 (Int.tdiv x0_1 10)), ((strOfNums y299) ++ x3_1), (by first | rfl | (simp; done) | (simp [*]; done)), (by first | rfl | (simp; done) | (simp [*]; done)), H', ⟨by have := HK1.out; omega⟩, ⟨by repeat (first | (with_reducible first | exact HB.out | apply below_alloc | apply pw_below_drewN | apply below_drew1) | exact HB.out)⟩⟩
   ·rw [if_neg c2] at H
    exact absurd H (by simp)

end Go.Proofs.YtloclimoffhbhaaDoor.PSba

namespace Go.Proofs.YtloclimoffhbhaaDoor.PSba
open Go.RowKit Go.Proofs.YtloclimoffhbhaaDoorW.PrintWords Go.Proofs.YtloclimoffhbhaaDoorW.PrintLast Go.Proofs.YtloclimoffhbhaaDoorW.PrintMore
attribute [local go_sem] max2_int min2_int max_two min_two max_three min_three max_four min_four   -- for this text's walks alone
set_option linter.unusedVariables false
set_option linter.unusedSimpArgs false

/-! ### crossbuckref02_Addr: function 55 -/
def crossbuckref02_Addr.f (k : Nat) (a0 : Int) : Option (ByteArray) := (crossbuckref02_Digits.f k ((Int.tdiv a0 16777216) % 4294967296)).bind fun t302 => (if t302.size + 1 ≤ 9223372036854775807 then ((crossbuckref02_Digits.f k ((Int.tdiv a0 65536) % 256)).bind fun t303 => (if (t302 ++ (⟨#[46]⟩ : ByteArray)).size + t303.size ≤ 9223372036854775807 then (if ((t302 ++ (⟨#[46]⟩ : ByteArray)) ++ t303).size + 1 ≤ 9223372036854775807 then ((crossbuckref02_Digits.f k ((Int.tdiv a0 256) % 256)).bind fun t304 => (if (((t302 ++ (⟨#[46]⟩ : ByteArray)) ++ t303) ++ (⟨#[46]⟩ : ByteArray)).size + t304.size ≤ 9223372036854775807 then (if ((((t302 ++ (⟨#[46]⟩ : ByteArray)) ++ t303) ++ (⟨#[46]⟩ : ByteArray)) ++ t304).size + 1 ≤ 9223372036854775807 then ((crossbuckref02_Digits.f k (wrap64 (Int.tmod a0 256))).bind fun t305 => (if (((((t302 ++ (⟨#[46]⟩ : ByteArray)) ++ t303) ++ (⟨#[46]⟩ : ByteArray)) ++ t304) ++ (⟨#[46]⟩ : ByteArray)).size + t305.size ≤ 9223372036854775807 then (some ((((((t302 ++ (⟨#[46]⟩ : ByteArray)) ++ t303) ++ (⟨#[46]⟩ : ByteArray)) ++ t304) ++ (⟨#[46]⟩ : ByteArray)) ++ t305)) else (none))) else (none)) else (none))) else (none)) else (none))) else (none))
theorem crossbuckref02_Addr.mono : ∀ a0 k, LeO (crossbuckref02_Addr.f k a0) (crossbuckref02_Addr.f (k + 1) a0) := by
 intro a0 k
 unfold crossbuckref02_Addr.f
 repeat' first
   | (with_reducible exact crossbuckref02_Digits.mono _ _)
   | (with_reducible exact LeO.refl _)
   | (with_reducible exact LeO.none _)
   | (with_reducible refine LeO.ite ?_ ?_)
   | (with_reducible refine LeO.bind ?_ (fun _ => ?_))
   | exact crossbuckref02_Digits.mono _ _
   | exact LeO.none _
   | refine LeO.ite ?_ ?_
   | refine LeO.bind ?_ (fun _ => ?_)
set_option maxHeartbeats 8000000 in
set_option maxRecDepth 100000 in
theorem crossbuckref02_Addr.calls (k : Nat) (a0 : Int) (r : ByteArray) (w : World) (h : crossbuckref02_Addr.f k a0 = some r) :
  Calls Tryd.prog 55 #[.int .u32 a0] w fun e w' => e = .returned (.string r) ∧ Below w.heap.size w w' := by
 have HB := Aside0.mk (Below.refl w.heap.size w)
 have H : ((crossbuckref02_Digits.f k ((Int.tdiv a0 16777216) % 4294967296)).bind fun t302 => (if t302.size + 1 ≤ 9223372036854775807 then ((crossbuckref02_Digits.f k ((Int.tdiv a0 65536) % 256)).bind fun t303 => (if (t302 ++ (⟨#[46]⟩ : ByteArray)).size + t303.size ≤ 9223372036854775807 then (if ((t302 ++ (⟨#[46]⟩ : ByteArray)) ++ t303).size + 1 ≤ 9223372036854775807 then ((crossbuckref02_Digits.f k ((Int.tdiv a0 256) % 256)).bind fun t304 => (if (((t302 ++ (⟨#[46]⟩ : ByteArray)) ++ t303) ++ (⟨#[46]⟩ : ByteArray)).size + t304.size ≤ 9223372036854775807 then (if ((((t302 ++ (⟨#[46]⟩ : ByteArray)) ++ t303) ++ (⟨#[46]⟩ : ByteArray)) ++ t304).size + 1 ≤ 9223372036854775807 then ((crossbuckref02_Digits.f k (wrap64 (Int.tmod a0 256))).bind fun t305 => (if (((((t302 ++ (⟨#[46]⟩ : ByteArray)) ++ t303) ++ (⟨#[46]⟩ : ByteArray)) ++ t304) ++ (⟨#[46]⟩ : ByteArray)).size + t305.size ≤ 9223372036854775807 then (some ((((((t302 ++ (⟨#[46]⟩ : ByteArray)) ++ t303) ++ (⟨#[46]⟩ : ByteArray)) ++ t304) ++ (⟨#[46]⟩ : ByteArray)) ++ t305)) else (none))) else (none)) else (none))) else (none)) else (none))) else (none))) = some r := h
 clear h
 replace H := Option.bind_eq_some_iff.mp H
 obtain ⟨t302, A20, H⟩ := H
 replace H : (if t302.size + 1 ≤ 9223372036854775807 then ((crossbuckref02_Digits.f k ((Int.tdiv a0 65536) % 256)).bind fun t303 => (if (t302 ++ (⟨#[46]⟩ : ByteArray)).size + t303.size ≤ 9223372036854775807 then (if ((t302 ++ (⟨#[46]⟩ : ByteArray)) ++ t303).size + 1 ≤ 9223372036854775807 then ((crossbuckref02_Digits.f k ((Int.tdiv a0 256) % 256)).bind fun t304 => (if (((t302 ++ (⟨#[46]⟩ : ByteArray)) ++ t303) ++ (⟨#[46]⟩ : ByteArray)).size + t304.size ≤ 9223372036854775807 then (if ((((t302 ++ (⟨#[46]⟩ : ByteArray)) ++ t303) ++ (⟨#[46]⟩ : ByteArray)) ++ t304).size + 1 ≤ 9223372036854775807 then ((crossbuckref02_Digits.f k (wrap64 (Int.tmod a0 256))).bind fun t305 => (if (((((t302 ++ (⟨#[46]⟩ : ByteArray)) ++ t303) ++ (⟨#[46]⟩ : ByteArray)) ++ t304) ++ (⟨#[46]⟩ : ByteArray)).size + t305.size ≤ 9223372036854775807 then (some ((((((t302 ++ (⟨#[46]⟩ : ByteArray)) ++ t303) ++ (⟨#[46]⟩ : ByteArray)) ++ t304) ++ (⟨#[46]⟩ : ByteArray)) ++ t305)) else (none))) else (none)) else (none))) else (none)) else (none))) else (none)) = some r := H
 have A2 := Aside0.mk A20
 clear A20
 by_cases c3 : t302.size + 1 ≤ 9223372036854775807
 ·rw [if_pos c3] at H
  have c3b0 := eq_true c3
  have c3b1 : decide (t302.size + 1 ≤ 9223372036854775807) = true := decide_eq_true c3
  try have c3b2 : (9223372036854775807 < t302.size + 1) = False := eq_false (Nat.not_lt.2 c3)
  replace H := Option.bind_eq_some_iff.mp H
  obtain ⟨t303, A40, H⟩ := H
  replace H : (if (t302 ++ (⟨#[46]⟩ : ByteArray)).size + t303.size ≤ 9223372036854775807 then (if ((t302 ++ (⟨#[46]⟩ : ByteArray)) ++ t303).size + 1 ≤ 9223372036854775807 then ((crossbuckref02_Digits.f k ((Int.tdiv a0 256) % 256)).bind fun t304 => (if (((t302 ++ (⟨#[46]⟩ : ByteArray)) ++ t303) ++ (⟨#[46]⟩ : ByteArray)).size + t304.size ≤ 9223372036854775807 then (if ((((t302 ++ (⟨#[46]⟩ : ByteArray)) ++ t303) ++ (⟨#[46]⟩ : ByteArray)) ++ t304).size + 1 ≤ 9223372036854775807 then ((crossbuckref02_Digits.f k (wrap64 (Int.tmod a0 256))).bind fun t305 => (if (((((t302 ++ (⟨#[46]⟩ : ByteArray)) ++ t303) ++ (⟨#[46]⟩ : ByteArray)) ++ t304) ++ (⟨#[46]⟩ : ByteArray)).size + t305.size ≤ 9223372036854775807 then (some ((((((t302 ++ (⟨#[46]⟩ : ByteArray)) ++ t303) ++ (⟨#[46]⟩ : ByteArray)) ++ t304) ++ (⟨#[46]⟩ : ByteArray)) ++ t305)) else (none))) else (none)) else (none))) else (none)) else (none)) = some r := H
  have A4 := Aside0.mk A40
  clear A40
  by_cases c5 : (t302 ++ (⟨#[46]⟩ : ByteArray)).size + t303.size ≤ 9223372036854775807
  ·rw [if_pos c5] at H
   have c5b0 := eq_true c5
   have c5b1 : decide ((t302 ++ (⟨#[46]⟩ : ByteArray)).size + t303.size ≤ 9223372036854775807) = true := decide_eq_true c5
   try have c5b2 : (9223372036854775807 < (t302 ++ (⟨#[46]⟩ : ByteArray)).size + t303.size) = False := eq_false (Nat.not_lt.2 c5)
   try have c5b3 := c5b2
   try simp only [ByteArray.size_append, Hand.lit_size, List.length_cons, List.length_nil, Nat.zero_add, Nat.reduceAdd] at c5b3
   by_cases c6 : ((t302 ++ (⟨#[46]⟩ : ByteArray)) ++ t303).size + 1 ≤ 9223372036854775807
   ·rw [if_pos c6] at H
    have c6b0 := eq_true c6
    have c6b1 : decide (((t302 ++ (⟨#[46]⟩ : ByteArray)) ++ t303).size + 1 ≤ 9223372036854775807) = true := decide_eq_true c6
    try have c6b2 : (9223372036854775807 < ((t302 ++ (⟨#[46]⟩ : ByteArray)) ++ t303).size + 1) = False := eq_false (Nat.not_lt.2 c6)
    try have c6b3 := c6b2
    try simp only [ByteArray.size_append, Hand.lit_size, List.length_cons, List.length_nil, Nat.zero_add, Nat.reduceAdd] at c6b3
    replace H := Option.bind_eq_some_iff.mp H
    obtain ⟨t304, A70, H⟩ := H
    replace H : (if (((t302 ++ (⟨#[46]⟩ : ByteArray)) ++ t303) ++ (⟨#[46]⟩ : ByteArray)).size + t304.size ≤ 9223372036854775807 then (if ((((t302 ++ (⟨#[46]⟩ : ByteArray)) ++ t303) ++ (⟨#[46]⟩ : ByteArray)) ++ t304).size + 1 ≤ 9223372036854775807 then ((crossbuckref02_Digits.f k (wrap64 (Int.tmod a0 256))).bind fun t305 => (if (((((t302 ++ (⟨#[46]⟩ : ByteArray)) ++ t303) ++ (⟨#[46]⟩ : ByteArray)) ++ t304) ++ (⟨#[46]⟩ : ByteArray)).size + t305.size ≤ 9223372036854775807 then (some ((((((t302 ++ (⟨#[46]⟩ : ByteArray)) ++ t303) ++ (⟨#[46]⟩ : ByteArray)) ++ t304) ++ (⟨#[46]⟩ : ByteArray)) ++ t305)) else (none))) else (none)) else (none)) = some r := H
    have A7 := Aside0.mk A70
    clear A70
    by_cases c8 : (((t302 ++ (⟨#[46]⟩ : ByteArray)) ++ t303) ++ (⟨#[46]⟩ : ByteArray)).size + t304.size ≤ 9223372036854775807
    ·rw [if_pos c8] at H
     have c8b0 := eq_true c8
     have c8b1 : decide ((((t302 ++ (⟨#[46]⟩ : ByteArray)) ++ t303) ++ (⟨#[46]⟩ : ByteArray)).size + t304.size ≤ 9223372036854775807) = true := decide_eq_true c8
     try have c8b2 : (9223372036854775807 < (((t302 ++ (⟨#[46]⟩ : ByteArray)) ++ t303) ++ (⟨#[46]⟩ : ByteArray)).size + t304.size) = False := eq_false (Nat.not_lt.2 c8)
     try have c8b3 := c8b2
     try simp only [ByteArray.size_append, Hand.lit_size, List.length_cons, List.length_nil, Nat.zero_add, Nat.reduceAdd] at c8b3
     by_cases c9 : ((((t302 ++ (⟨#[46]⟩ : ByteArray)) ++ t303) ++ (⟨#[46]⟩ : ByteArray)) ++ t304).size + 1 ≤ 9223372036854775807
     ·rw [if_pos c9] at H
      have c9b0 := eq_true c9
      have c9b1 : decide (((((t302 ++ (⟨#[46]⟩ : ByteArray)) ++ t303) ++ (⟨#[46]⟩ : ByteArray)) ++ t304).size + 1 ≤ 9223372036854775807) = true := decide_eq_true c9
      try have c9b2 : (9223372036854775807 < ((((t302 ++ (⟨#[46]⟩ : ByteArray)) ++ t303) ++ (⟨#[46]⟩ : ByteArray)) ++ t304).size + 1) = False := eq_false (Nat.not_lt.2 c9)
      try have c9b3 := c9b2
      try simp only [ByteArray.size_append, Hand.lit_size, List.length_cons, List.length_nil, Nat.zero_add, Nat.reduceAdd] at c9b3
      replace H := Option.bind_eq_some_iff.mp H
      obtain ⟨t305, A100, H⟩ := H
      replace H : (if (((((t302 ++ (⟨#[46]⟩ : ByteArray)) ++ t303) ++ (⟨#[46]⟩ : ByteArray)) ++ t304) ++ (⟨#[46]⟩ : ByteArray)).size + t305.size ≤ 9223372036854775807 then (some ((((((t302 ++ (⟨#[46]⟩ : ByteArray)) ++ t303) ++ (⟨#[46]⟩ : ByteArray)) ++ t304) ++ (⟨#[46]⟩ : ByteArray)) ++ t305)) else (none)) = some r := H
      have A10 := Aside0.mk A100
      clear A100
      by_cases c11 : (((((t302 ++ (⟨#[46]⟩ : ByteArray)) ++ t303) ++ (⟨#[46]⟩ : ByteArray)) ++ t304) ++ (⟨#[46]⟩ : ByteArray)).size + t305.size ≤ 9223372036854775807
      ·rw [if_pos c11] at H
       have c11b0 := eq_true c11
       have c11b1 : decide ((((((t302 ++ (⟨#[46]⟩ : ByteArray)) ++ t303) ++ (⟨#[46]⟩ : ByteArray)) ++ t304) ++ (⟨#[46]⟩ : ByteArray)).size + t305.size ≤ 9223372036854775807) = true := decide_eq_true c11
       try have c11b2 : (9223372036854775807 < (((((t302 ++ (⟨#[46]⟩ : ByteArray)) ++ t303) ++ (⟨#[46]⟩ : ByteArray)) ++ t304) ++ (⟨#[46]⟩ : ByteArray)).size + t305.size) = False := eq_false (Nat.not_lt.2 c11)
       try have c11b3 := c11b2
       try simp only [ByteArray.size_append, Hand.lit_size, List.length_cons, List.length_nil, Nat.zero_add, Nat.reduceAdd] at c11b3
       obtain rfl := Option.some.inj H
       go_enter Tryd.func55, Tryd.ntmps55
       go_wp2_with (first | ((with_reducible refine gate_callee (f := 99) rfl ?_); refine goesL_ (some 6) rfl rfl Tryd.func99 (by kernel_rfl) rfl #[.int .i64 ((Int.tdiv a0 16777216) % 4294967296)] rfl (by (try simp only [List.map_toArray, List.map_cons, List.map_nil]); first | done | rfl | (simp only [List.length_drop, List.length_take]; rfl)) ?_; (with_reducible refine (crossbuckref02_Digits.calls k ((Int.tdiv a0 16777216) % 4294967296) t302 _ A2.out).mono ?_); rintro e w12 ⟨rfl, hb⟩; refine ⟨_, rfl, ?_⟩; have n0_ := Aside0.mk (below_step (by repeat (first | (with_reducible first | exact HB.out | apply below_alloc | apply pw_below_drewN | apply below_drew1) | exact HB.out)) hb); clear HB; have HB := n0_; clear n0_; (try clear hb); (try clear hb2); (try clear hk); (try clear hi)) | ((with_reducible refine gate_callee (f := 99) rfl ?_); refine goesL_ (some 12) rfl rfl Tryd.func99 (by kernel_rfl) rfl #[.int .i64 ((Int.tdiv a0 65536) % 256)] rfl (by (try simp only [List.map_toArray, List.map_cons, List.map_nil]); first | done | rfl | (simp only [List.length_drop, List.length_take]; rfl)) ?_; (with_reducible refine (crossbuckref02_Digits.calls k ((Int.tdiv a0 65536) % 256) t303 _ A4.out).mono ?_); rintro e w13 ⟨rfl, hb⟩; refine ⟨_, rfl, ?_⟩; have n0_ := Aside0.mk (below_step (by repeat (first | (with_reducible first | exact HB.out | apply below_alloc | apply pw_below_drewN | apply below_drew1) | exact HB.out)) hb); clear HB; have HB := n0_; clear n0_; (try clear hb); (try clear hb2); (try clear hk); (try clear hi)) | ((with_reducible refine gate_callee (f := 99) rfl ?_); refine goesL_ (some 19) rfl rfl Tryd.func99 (by kernel_rfl) rfl #[.int .i64 ((Int.tdiv a0 256) % 256)] rfl (by (try simp only [List.map_toArray, List.map_cons, List.map_nil]); first | done | rfl | (simp only [List.length_drop, List.length_take]; rfl)) ?_; (with_reducible refine (crossbuckref02_Digits.calls k ((Int.tdiv a0 256) % 256) t304 _ A7.out).mono ?_); rintro e w14 ⟨rfl, hb⟩; refine ⟨_, rfl, ?_⟩; have n0_ := Aside0.mk (below_step (by repeat (first | (with_reducible first | exact HB.out | apply below_alloc | apply pw_below_drewN | apply below_drew1) | exact HB.out)) hb); clear HB; have HB := n0_; clear n0_; (try clear hb); (try clear hb2); (try clear hk); (try clear hi)) | ((with_reducible refine gate_callee (f := 99) rfl ?_); refine goesL_ (some 25) rfl rfl Tryd.func99 (by kernel_rfl) rfl #[.int .i64 (wrap64 (Int.tmod a0 256))] rfl (by (try simp only [List.map_toArray, List.map_cons, List.map_nil]); first | done | rfl | (simp only [List.length_drop, List.length_take]; rfl)) ?_; (with_reducible refine (crossbuckref02_Digits.calls k (wrap64 (Int.tmod a0 256)) t305 _ A10.out).mono ?_); rintro e w15 ⟨rfl, hb⟩; refine ⟨_, rfl, ?_⟩; have n0_ := Aside0.mk (below_step (by repeat (first | (with_reducible first | exact HB.out | apply below_alloc | apply pw_below_drewN | apply below_drew1) | exact HB.out)) hb); clear HB; have HB := n0_; clear n0_; (try clear hb); (try clear hb2); (try clear hk); (try clear hi)))
       go_ret
       exact ⟨by first | rfl | (simp [errW_none, errW_some] <;> rfl) | (simp [*, errW_none, errW_some] <;> rfl), by repeat (first | (with_reducible first | exact HB.out | apply below_alloc | apply pw_below_drewN | apply below_drew1) | exact HB.out)⟩
      ·rw [if_neg c11] at H
       exact absurd H (by simp)
     ·rw [if_neg c9] at H
      exact absurd H (by simp)
    ·rw [if_neg c8] at H
     exact absurd H (by simp)
   ·rw [if_neg c6] at H
    exact absurd H (by simp)
  ·rw [if_neg c5] at H
   exact absurd H (by simp)
 ·rw [if_neg c3] at H
  exact absurd H (by simp)

end Go.Proofs.YtloclimoffhbhaaDoor.PSba

namespace Go.Proofs.YtloclimoffhbhaaDoor.PSba
open Go.RowKit Go.Proofs.YtloclimoffhbhaaDoorW.PrintWords Go.Proofs.YtloclimoffhbhaaDoorW.PrintLast Go.Proofs.YtloclimoffhbhaaDoorW.PrintMore
attribute [local go_sem] max2_int min2_int max_two min_two max_three min_three max_four min_four   -- for this text's walks alone
set_option linter.unusedVariables false
set_option linter.unusedSimpArgs false

/-! ### crossbuckref03_Print: function 63 -/
def crossbuckref03_Print.f (k : Nat) (a0_0 : Int) (a0_1 : Int) : Option (ByteArray) := (crossbuckref02_Addr.f k a0_0).bind fun t307 => (if t307.size + 1 ≤ 9223372036854775807 then ((crossbuckref02_Digits.f k a0_1).bind fun t308 => (if (t307 ++ (⟨#[47]⟩ : ByteArray)).size + t308.size ≤ 9223372036854775807 then (some ((t307 ++ (⟨#[47]⟩ : ByteArray)) ++ t308)) else (none))) else (none))
theorem crossbuckref03_Print.mono : ∀ a0 a1 k, LeO (crossbuckref03_Print.f k a0 a1) (crossbuckref03_Print.f (k + 1) a0 a1) := by
 intro a0 a1 k
 unfold crossbuckref03_Print.f
 repeat' first
   | (with_reducible exact crossbuckref02_Addr.mono _ _)
   | (with_reducible exact crossbuckref02_Digits.mono _ _)
   | (with_reducible exact LeO.refl _)
   | (with_reducible exact LeO.none _)
   | (with_reducible refine LeO.ite ?_ ?_)
   | (with_reducible refine LeO.bind ?_ (fun _ => ?_))
   | exact crossbuckref02_Addr.mono _ _
   | exact crossbuckref02_Digits.mono _ _
   | exact LeO.none _
   | refine LeO.ite ?_ ?_
   | refine LeO.bind ?_ (fun _ => ?_)
def crossbuckref03_Print.T1 : Bool × List (List Nat × List Nat) := (true, [([], []), ([0], [0]), ([1], [1]), ([2], [2]), ([], []), ([4], [4]), ([5, 2], [5]), ([3, 6], [3, 6]), ([7, 6, 0, 1, 2, 3, 4, 5, 6, 7], [7])])
def crossbuckref03_Print.B1 : List Nat := [0, 1, 3, 7, 0, 16, 55, 127, 255]
theorem crossbuckref03_Print.tab1 : rtab .any (opsOf Tryd.f63 1) = crossbuckref03_Print.T1 := by kernel_rfl
theorem crossbuckref03_Print.bits1 : waitsOk crossbuckref03_Print.T1.2 crossbuckref03_Print.B1 = true := by kernel_rfl
set_option maxHeartbeats 8000000 in
set_option maxRecDepth 100000 in
theorem crossbuckref03_Print.calls (k : Nat) (a0_0 : Int) (a0_1 : Int) (r : ByteArray) (w : World) (h : crossbuckref03_Print.f k a0_0 a0_1 = some r) :
  Calls Tryd.prog 63 #[.agg #[.int .u32 a0_0, .int .i64 a0_1]] w fun e w' => e = .returned (.string r) ∧ Below w.heap.size w w' := by
 have hu42 := Tryd.underlying42
 have HB := Aside0.mk (Below.refl w.heap.size w)
 have H : ((crossbuckref02_Addr.f k a0_0).bind fun t307 => (if t307.size + 1 ≤ 9223372036854775807 then ((crossbuckref02_Digits.f k a0_1).bind fun t308 => (if (t307 ++ (⟨#[47]⟩ : ByteArray)).size + t308.size ≤ 9223372036854775807 then (some ((t307 ++ (⟨#[47]⟩ : ByteArray)) ++ t308)) else (none))) else (none))) = some r := h
 clear h
 replace H := Option.bind_eq_some_iff.mp H
 obtain ⟨t307, A20, H⟩ := H
 replace H : (if t307.size + 1 ≤ 9223372036854775807 then ((crossbuckref02_Digits.f k a0_1).bind fun t308 => (if (t307 ++ (⟨#[47]⟩ : ByteArray)).size + t308.size ≤ 9223372036854775807 then (some ((t307 ++ (⟨#[47]⟩ : ByteArray)) ++ t308)) else (none))) else (none)) = some r := H
 have A2 := Aside0.mk A20
 clear A20
 by_cases c3 : t307.size + 1 ≤ 9223372036854775807
 ·rw [if_pos c3] at H
  have c3b0 := eq_true c3
  have c3b1 : decide (t307.size + 1 ≤ 9223372036854775807) = true := decide_eq_true c3
  try have c3b2 : (9223372036854775807 < t307.size + 1) = False := eq_false (Nat.not_lt.2 c3)
  replace H := Option.bind_eq_some_iff.mp H
  obtain ⟨t308, A40, H⟩ := H
  replace H : (if (t307 ++ (⟨#[47]⟩ : ByteArray)).size + t308.size ≤ 9223372036854775807 then (some ((t307 ++ (⟨#[47]⟩ : ByteArray)) ++ t308)) else (none)) = some r := H
  have A4 := Aside0.mk A40
  clear A40
  by_cases c5 : (t307 ++ (⟨#[47]⟩ : ByteArray)).size + t308.size ≤ 9223372036854775807
  ·rw [if_pos c5] at H
   have c5b0 := eq_true c5
   have c5b1 : decide ((t307 ++ (⟨#[47]⟩ : ByteArray)).size + t308.size ≤ 9223372036854775807) = true := decide_eq_true c5
   try have c5b2 : (9223372036854775807 < (t307 ++ (⟨#[47]⟩ : ByteArray)).size + t308.size) = False := eq_false (Nat.not_lt.2 c5)
   try have c5b3 := c5b2
   try simp only [ByteArray.size_append, Hand.lit_size, List.length_cons, List.length_nil, Nat.zero_add, Nat.reduceAdd] at c5b3
   obtain rfl := Option.some.inj H
   go_enter Tryd.func63, Tryd.ntmps63
   try go_wp2_with (first | ((with_reducible refine gate_dst (N := 1) rfl ?_); refine box_event ?hg (N := 1) ?hd (cs := #[.int .u32 a0_0, .int .i64 a0_1]) (t := 42) ?hr ?_; (case hd => rfl); (case hg => rfl); (case hr => first | (go_simp; done) | (go_simp; rfl)); intro gb306 hg w6 hbox hb; have n0_ := Aside0.mk (below_step (by repeat (first | (with_reducible first | exact HB.out | apply below_alloc | apply pw_below_drewN | apply below_drew1) | exact HB.out)) hb); have n1_ := Aside0.mk (hbox); have n2_ := Aside0.mk ((by rw [hg]; exact (below_size (by repeat (first | (with_reducible first | exact HB.out | apply below_alloc | apply pw_below_drewN | apply below_drew1) | exact HB.out))) : w.heap.size ≤ gb306)); have n3_ := Aside0.mk ((by rw [hg]; exact (below_size (by repeat (first | (with_reducible first | exact HB.out | apply below_alloc | apply pw_below_drewN | apply below_drew1) | exact HB.out))) : w.heap.size ≤ gb306)); clear HB; have HB := n0_; have BK306 := n1_; have GW306 := n2_; have GE306 := n3_; clear n0_ n1_ n2_ n3_; clear hb hbox hg))
   have n0_ := Aside0.mk (blk_drew BK306.out)
   have n1_ := Aside0.mk (below_drew1 HB.out)
   clear BK306
   clear HB
   have BK306 := n0_
   have HB := n1_
   clear n0_ n1_
   refine start_ (n := 9) (S := fun w' => w'.cell? ⟨gb306, 0, none⟩ = some (.int .u32 a0_0) ∧ w'.cell? ⟨gb306, 1, none⟩ = some (.int .i64 a0_1)) (ds := []) #[false, false, false, false, false, false, false, false, false] (by kernel_rfl) rfl rfl ⟨(blk_cell BK306.out 0).trans rfl, (blk_cell BK306.out 1).trans rfl⟩ (fun hHeld => ?_); refine with_tabW crossbuckref03_Print.tab1 crossbuckref03_Print.bits1 (fun HT_ HW_ => ?_)
   generalize w6.drew = w7 at BK306 HB hHeld ⊢
   refine pure_ (i := 0) (N := some 3) (v := ?_) (a' := ?_) #[true, false, false, false, false, false, false, false, false] rfl rfl (any_of HT_.out (by kernel_rfl)) (fun _ _ _ h => h) (Or.inl ⟨by rfl, ?_⟩) ?_ ?_
   rotate_left
   ·intro w'
    go_simp
    with_reducible rfl
   rotate_left
   ·simp only [Act.put, List.setIfInBounds_toArray, List.set_cons_zero, List.set_cons_succ, i64_w, i32_w]
    rfl
   refine pure_ (i := 4) (N := some 7) (v := ?_) (a' := ?_) #[true, false, false, false, true, false, false, false, false] rfl rfl (any_of HT_.out (by kernel_rfl)) (fun _ _ _ h => h) (Or.inl ⟨by rfl, ?_⟩) ?_ ?_
   rotate_left
   ·intro w'
    go_simp
    with_reducible rfl
   rotate_left
   ·simp only [Act.put, List.setIfInBounds_toArray, List.set_cons_zero, List.set_cons_succ, i64_w, i32_w]
    rfl
   refine take_ (i := 1) (N := some 4) (v := ?_) (a' := ?_) #[true, true, false, false, true, false, false, false, false] rfl rfl (take_ofW HT_.out HW_.out (by kernel_rfl)) (fun _ _ _ h => h) (Or.inl ⟨by rfl, ?_⟩) hHeld ?_ ?_
   rotate_left
   ·rintro w' ⟨s0, s1⟩
    go_simp
    with_reducible rfl
   rotate_left
   ·simp only [Act.put, List.setIfInBounds_toArray, List.set_cons_zero, List.set_cons_succ, i64_w, i32_w]
    rfl
   refine take_ (i := 5) (N := some 8) (v := ?_) (a' := ?_) #[true, true, false, false, true, true, false, false, false] rfl rfl (take_ofW HT_.out HW_.out (by kernel_rfl)) (fun _ _ _ h => h) (Or.inl ⟨by rfl, ?_⟩) hHeld ?_ ?_
   rotate_left
   ·rintro w' ⟨s0, s1⟩
    go_simp
    with_reducible rfl
   rotate_left
   ·simp only [Act.put, List.setIfInBounds_toArray, List.set_cons_zero, List.set_cons_succ, i64_w, i32_w]
    rfl
   refine one_ (i := 2) (N := some 5) #[true, true, true, false, true, true, false, false, false] rfl rfl (one_of HT_.out (by kernel_rfl)) (by decide) (fun K hK => ?_)
   refine goes_ Tryd.func55 (by kernel_rfl) rfl #[.int .u32 a0_0] (by rfl) rfl rfl (by (try simp only [List.map_toArray, List.map_cons, List.map_nil]); first | done | rfl | (simp only [List.length_drop, List.length_take]; rfl)) ?_
   with_reducible refine (crossbuckref02_Addr.calls k a0_0 t307 _ A2.out).mono ?_
   rintro e w8 ⟨rfl, hb⟩
   refine ⟨_, rfl, ?_⟩
   have n0_ := Aside0.mk (blk_below (g := gb306) (o := .cells #[.int .u32 a0_0, .int .i64 a0_1] 42 (0, 0)) (by (with_reducible repeat (first | refine blk_drewN ?_ _ | refine blk_drew ?_ | refine blk_alloc ?_ _)); exact BK306.out) hb)
   have n1_ := Aside0.mk (below_step (by repeat (first | (with_reducible first | exact HB.out | apply below_alloc | apply pw_below_drewN | apply below_drew1 | refine below_set ?_ GE306.out) | exact HB.out)) hb)
   clear BK306
   clear HB
   have BK306 := n0_
   have HB := n1_
   clear n0_ n1_
   (try clear hb)
   (try clear hb2)
   (try clear hk)
   (try clear hi)
   refine hK.out _ _ ⟨(blk_cell BK306.out 0).trans rfl, (blk_cell BK306.out 1).trans rfl⟩ (fun hHeld => ?_)
   clear hK K
   refine norm_ (a' := ?_) ?_ ?_
   rotate_left
   ·show Act.put _ (some 5) _ = _
    simp only [Act.put, List.setIfInBounds_toArray, List.set_cons_zero, List.set_cons_succ, i64_w, i32_w]
    rfl
   refine pure_ (i := 3) (N := some 6) (v := ?_) (a' := ?_) #[true, true, true, true, true, true, false, false, false] rfl rfl (any_of HT_.out (by kernel_rfl)) (fun _ _ _ h => h) (Or.inl ⟨by rfl, ?_⟩) ?_ ?_
   rotate_left
   ·intro w'
    go_simp
    with_reducible rfl
   rotate_left
   ·simp only [Act.put, List.setIfInBounds_toArray, List.set_cons_zero, List.set_cons_succ, i64_w, i32_w]
    rfl
   refine one_ (i := 6) (N := some 9) #[true, true, true, true, true, true, true, false, false] rfl rfl (one_of HT_.out (by kernel_rfl)) (by decide) (fun K hK => ?_)
   refine goes_ Tryd.func99 (by kernel_rfl) rfl #[.int .i64 a0_1] (by rfl) rfl rfl (by (try simp only [List.map_toArray, List.map_cons, List.map_nil]); first | done | rfl | (simp only [List.length_drop, List.length_take]; rfl)) ?_
   with_reducible refine (crossbuckref02_Digits.calls k a0_1 t308 _ A4.out).mono ?_
   rintro e w9 ⟨rfl, hb⟩
   refine ⟨_, rfl, ?_⟩
   have n0_ := Aside0.mk (blk_below (g := gb306) (o := .cells #[.int .u32 a0_0, .int .i64 a0_1] 42 (0, 0)) (by (with_reducible repeat (first | refine blk_drewN ?_ _ | refine blk_drew ?_ | refine blk_alloc ?_ _)); exact BK306.out) hb)
   have n1_ := Aside0.mk (below_step (by repeat (first | (with_reducible first | exact HB.out | apply below_alloc | apply pw_below_drewN | apply below_drew1 | refine below_set ?_ GE306.out) | exact HB.out)) hb)
   clear BK306
   clear HB
   have BK306 := n0_
   have HB := n1_
   clear n0_ n1_
   (try clear hb)
   (try clear hb2)
   (try clear hk)
   (try clear hi)
   refine hK.out _ _ ⟨(blk_cell BK306.out 0).trans rfl, (blk_cell BK306.out 1).trans rfl⟩ (fun hHeld => ?_)
   clear hK K
   refine norm_ (a' := ?_) ?_ ?_
   rotate_left
   ·show Act.put _ (some 9) _ = _
    simp only [Act.put, List.setIfInBounds_toArray, List.set_cons_zero, List.set_cons_succ, i64_w, i32_w]
    rfl
   refine pure_ (i := 7) (N := some 10) (v := ?_) (a' := ?_) #[true, true, true, true, true, true, true, true, false] rfl rfl (any_of HT_.out (by kernel_rfl)) (fun _ _ _ h => h) (Or.inl ⟨by rfl, ?_⟩) ?_ ?_
   rotate_left
   ·intro w'
    go_simp
    with_reducible rfl
   rotate_left
   ·simp only [Act.put, List.setIfInBounds_toArray, List.set_cons_zero, List.set_cons_succ, i64_w, i32_w]
    rfl
   refine pure_ (i := 8) (N := some 2) (v := ?_) (a' := ?_) #[true, true, true, true, true, true, true, true, true] rfl rfl (any_of HT_.out (by kernel_rfl)) (fun _ _ _ h => h) (Or.inl ⟨by rfl, ?_⟩) ?_ ?_
   rotate_left
   ·intro w'
    go_simp
    with_reducible rfl
   rotate_left
   ·simp only [Act.put, List.setIfInBounds_toArray, List.set_cons_zero, List.set_cons_succ, i64_w, i32_w]
    rfl
   refine done_ (done_of HT_.out (by kernel_rfl)) ?_
   try go_wp2
   go_ret
   exact ⟨by first | rfl | (simp [errW_none, errW_some] <;> rfl) | (simp [*, errW_none, errW_some] <;> rfl), by repeat (first | (with_reducible first | exact HB.out | apply below_alloc | apply pw_below_drewN | apply below_drew1 | refine below_set ?_ GE306.out) | exact HB.out)⟩
  ·rw [if_neg c5] at H
   exact absurd H (by simp)
 ·rw [if_neg c3] at H
  exact absurd H (by simp)

end Go.Proofs.YtloclimoffhbhaaDoor.PSba

namespace Go.Proofs.YtloclimoffhbhaaDoor.PSba
open Go.RowKit Go.Proofs.YtloclimoffhbhaaDoorW.PrintWords Go.Proofs.YtloclimoffhbhaaDoorW.PrintLast Go.Proofs.YtloclimoffhbhaaDoorW.PrintMore
attribute [local go_sem] max2_int min2_int max_two min_two max_three min_three max_four min_four   -- for this text's walks alone
set_option linter.unusedVariables false
set_option linter.unusedSimpArgs false

/-! ### crossbuckref25_n: function 78 -/
def crossbuckref25_n.f (k : Nat) (a0 : Int) : Option (ByteArray) := (crossbuckref02_Digits.f k a0).bind fun t309 => (some t309)
theorem crossbuckref25_n.mono : ∀ a0 k, LeO (crossbuckref25_n.f k a0) (crossbuckref25_n.f (k + 1) a0) := by
 intro a0 k
 unfold crossbuckref25_n.f
 repeat' first
   | (with_reducible exact crossbuckref02_Digits.mono _ _)
   | (with_reducible exact LeO.refl _)
   | (with_reducible exact LeO.none _)
   | (with_reducible refine LeO.ite ?_ ?_)
   | (with_reducible refine LeO.bind ?_ (fun _ => ?_))
   | exact crossbuckref02_Digits.mono _ _
   | exact LeO.none _
   | refine LeO.ite ?_ ?_
   | refine LeO.bind ?_ (fun _ => ?_)
set_option maxHeartbeats 8000000 in
set_option maxRecDepth 100000 in
theorem crossbuckref25_n.calls (k : Nat) (a0 : Int) (r : ByteArray) (w : World) (h : crossbuckref25_n.f k a0 = some r) :
  Calls Tryd.prog 78 #[.int .i64 a0] w fun e w' => e = .returned (.string r) ∧ Below w.heap.size w w' := by
 have HB := Aside0.mk (Below.refl w.heap.size w)
 have H : ((crossbuckref02_Digits.f k a0).bind fun t309 => (some t309)) = some r := h
 clear h
 replace H := Option.bind_eq_some_iff.mp H
 obtain ⟨t309, A20, H⟩ := H
 replace H : (some t309) = some r := H
 have A2 := Aside0.mk A20
 clear A20
 obtain rfl := Option.some.inj H
 go_enter Tryd.func78, Tryd.ntmps78
 go_wp2_with (first | ((with_reducible refine gate_callee (f := 99) rfl ?_); refine goesL_ (some 4) rfl rfl Tryd.func99 (by kernel_rfl) rfl #[.int .i64 a0] rfl (by (try simp only [List.map_toArray, List.map_cons, List.map_nil]); first | done | rfl | (simp only [List.length_drop, List.length_take]; rfl)) ?_; (with_reducible refine (crossbuckref02_Digits.calls k a0 t309 _ A2.out).mono ?_); rintro e w3 ⟨rfl, hb⟩; refine ⟨_, rfl, ?_⟩; have n0_ := Aside0.mk (below_step (by repeat (first | (with_reducible first | exact HB.out | apply below_alloc | apply pw_below_drewN | apply below_drew1) | exact HB.out)) hb); clear HB; have HB := n0_; clear n0_; (try clear hb); (try clear hb2); (try clear hk); (try clear hi)))
 go_ret
 exact ⟨by first | rfl | (simp [errW_none, errW_some] <;> rfl) | (simp [*, errW_none, errW_some] <;> rfl), by repeat (first | (with_reducible first | exact HB.out | apply below_alloc | apply pw_below_drewN | apply below_drew1) | exact HB.out)⟩

end Go.Proofs.YtloclimoffhbhaaDoor.PSba
