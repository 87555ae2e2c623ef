-- Written by wip/myprint.py and wip/merge.py (this session's own programs); Lean checks it.
-- halved
import Derived.Test.YtloclimoffhbhaaDoorSq6
import Derived.Test.YtloclimoffhbhaaDoorPSrex0
import Derived.Test.YtloclimoffhbhaaDoorPSrex6
namespace Go.Proofs.YtloclimoffhbhaaDoor.PSre
open Go.RowKit Go.Proofs.YtloclimoffhbhaaDoorW.PrintWords Go.Proofs.YtloclimoffhbhaaDoorW.PrintLast Go.Proofs.YtloclimoffhbhaaDoorW.PrintMore Go.Proofs.YtloclimoffhbhaaDoorW.PrintSq List
attribute [local go_sem] max2_int min2_int max_two min_two max_three min_three max_four min_four   -- for this text's walks alone
set_option linter.unusedVariables false
set_option linter.unusedSimpArgs false

/-! ### crossbuckref02_Digits: function 99 -/
def crossbuckref02_Digits.l0 : Nat → Int → ByteArray → Option (ByteArray)
 | 0, _, _ => none
 | k + 1, x0, x3 => (some (([(wrap64 (48 + (Int.tmod x0 10))) % 256] : List Int) : List Int)).bind fun y299 => (if (strOfNums y299).size + x3.size ≤ 9223372036854775807 then (if (wrap64 (Int.tdiv x0 10)) = 0 then (some ((strOfNums y299) ++ x3)) else (crossbuckref02_Digits.l0 k (wrap64 (Int.tdiv x0 10)) ((strOfNums y299) ++ x3))) else (none))
def crossbuckref02_Digits.f (k : Nat) (a0 : Int) : Option (ByteArray) := crossbuckref02_Digits.l0 k a0 (⟨#[]⟩ : ByteArray)
theorem crossbuckref02_Digits.mono_l : ∀ k, (∀ y0 y1, LeO (crossbuckref02_Digits.l0 k y0 y1) (crossbuckref02_Digits.l0 (k + 1) y0 y1))
 | 0 => fun _ _ r h => by simp [crossbuckref02_Digits.l0] at h
 | k + 1 => by
  have ih0 := crossbuckref02_Digits.mono_l k
  ·intro y0 y1
   unfold crossbuckref02_Digits.l0
   repeat' first
   | (with_reducible exact ih0 _ _)
   | (with_reducible exact LeO.refl _)
   | (with_reducible exact LeO.none _)
   | (with_reducible refine LeO.ite ?_ ?_)
   | (with_reducible refine LeO.bind ?_ (fun _ => ?_))
   | exact ih0 _ _
   | exact LeO.none _
   | refine LeO.ite ?_ ?_
   | refine LeO.bind ?_ (fun _ => ?_)
end Go.Proofs.YtloclimoffhbhaaDoor.PSre

namespace Go.Proofs.YtloclimoffhbhaaDoor.PSre
open Go.RowKit Go.Proofs.YtloclimoffhbhaaDoorW.PrintWords Go.Proofs.YtloclimoffhbhaaDoorW.PrintLast Go.Proofs.YtloclimoffhbhaaDoorW.PrintMore Go.Proofs.YtloclimoffhbhaaDoorW.PrintSq List
attribute [local go_sem] max2_int min2_int max_two min_two max_three min_three max_four min_four   -- for this text's walks alone
set_option linter.unusedVariables false
set_option linter.unusedSimpArgs false

/-! ### crossbuckref02_Addr: function 55 -/
def crossbuckref02_Addr.f (k : Nat) (a0 : Int) : Option (ByteArray) := (crossbuckref02_Digits.f k ((Int.tdiv a0 16777216) % 4294967296)).bind fun t302 => (if t302.size + 1 ≤ 9223372036854775807 then ((crossbuckref02_Digits.f k ((Int.tdiv a0 65536) % 256)).bind fun t303 => (if (t302 ++ (⟨#[46]⟩ : ByteArray)).size + t303.size ≤ 9223372036854775807 then (if ((t302 ++ (⟨#[46]⟩ : ByteArray)) ++ t303).size + 1 ≤ 9223372036854775807 then ((crossbuckref02_Digits.f k ((Int.tdiv a0 256) % 256)).bind fun t304 => (if (((t302 ++ (⟨#[46]⟩ : ByteArray)) ++ t303) ++ (⟨#[46]⟩ : ByteArray)).size + t304.size ≤ 9223372036854775807 then (if ((((t302 ++ (⟨#[46]⟩ : ByteArray)) ++ t303) ++ (⟨#[46]⟩ : ByteArray)) ++ t304).size + 1 ≤ 9223372036854775807 then ((crossbuckref02_Digits.f k (wrap64 (Int.tmod a0 256))).bind fun t305 => (if (((((t302 ++ (⟨#[46]⟩ : ByteArray)) ++ t303) ++ (⟨#[46]⟩ : ByteArray)) ++ t304) ++ (⟨#[46]⟩ : ByteArray)).size + t305.size ≤ 9223372036854775807 then (some ((((((t302 ++ (⟨#[46]⟩ : ByteArray)) ++ t303) ++ (⟨#[46]⟩ : ByteArray)) ++ t304) ++ (⟨#[46]⟩ : ByteArray)) ++ t305)) else (none))) else (none)) else (none))) else (none)) else (none))) else (none))
end Go.Proofs.YtloclimoffhbhaaDoor.PSre

namespace Go.Proofs.YtloclimoffhbhaaDoor.PSre
open Go.RowKit Go.Proofs.YtloclimoffhbhaaDoorW.PrintWords Go.Proofs.YtloclimoffhbhaaDoorW.PrintLast Go.Proofs.YtloclimoffhbhaaDoorW.PrintMore Go.Proofs.YtloclimoffhbhaaDoorW.PrintSq List
attribute [local go_sem] max2_int min2_int max_two min_two max_three min_three max_four min_four   -- for this text's walks alone
set_option linter.unusedVariables false
set_option linter.unusedSimpArgs false

/-! ### crossbuckref03_Print: function 63 -/
def crossbuckref03_Print.f (k : Nat) (a0_0 : Int) (a0_1 : Int) : Option (ByteArray) := (crossbuckref02_Addr.f k a0_0).bind fun t307 => (if t307.size + 1 ≤ 9223372036854775807 then ((crossbuckref02_Digits.f k a0_1).bind fun t308 => (if (t307 ++ (⟨#[47]⟩ : ByteArray)).size + t308.size ≤ 9223372036854775807 then (some ((t307 ++ (⟨#[47]⟩ : ByteArray)) ++ t308)) else (none))) else (none))
end Go.Proofs.YtloclimoffhbhaaDoor.PSre

namespace Go.Proofs.YtloclimoffhbhaaDoor.PSre
open Go.RowKit Go.Proofs.YtloclimoffhbhaaDoorW.PrintWords Go.Proofs.YtloclimoffhbhaaDoorW.PrintLast Go.Proofs.YtloclimoffhbhaaDoorW.PrintMore Go.Proofs.YtloclimoffhbhaaDoorW.PrintSq List
attribute [local go_sem] max2_int min2_int max_two min_two max_three min_three max_four min_four   -- for this text's walks alone
set_option linter.unusedVariables false
set_option linter.unusedSimpArgs false

theorem eqA42 (d : Nat) (w : World) (x0 y0 : Int) (x1 y1 : Int) :
  (Op.equalIn (d + 2) 42 (.agg #[.int .u32 x0, .int .i64 x1]) (.agg #[.int .u32 y0, .int .i64 y1])).run Tryd.prog w = .ok (x0 == y0 && (x1 == y1)) w := by
 refine eqA_of Tryd.underlying42 (by kernel_rfl) ?_
 refine eqf_cons (by rfl) (by go_simp; rfl) (by go_simp; rfl) (by go_simp) ?_
 exact eqf_last (by rfl) (by go_simp; rfl) (by go_simp; rfl) (by go_simp)
theorem eqA44 (d : Nat) (w : World) (x0 y0 : Int) (x1 y1 : Int) (x2 y2 : Int) (x3 y3 : Int) (x4 y4 : Int) (x5 y5 : Int) :
  (Op.equalIn (d + 3) 44 (.agg #[.int .i64 x0, .int .i64 x1, .int .u32 x2, .int .i64 x3, .int .i64 x4, .int .i64 x5]) (.agg #[.int .i64 y0, .int .i64 y1, .int .u32 y2, .int .i64 y3, .int .i64 y4, .int .i64 y5])).run Tryd.prog w = .ok (x0 == y0 && (x1 == y1 && ((x2 == y2 && (x3 == y3)) && (x4 == y4 && (x5 == y5))))) w := by
 refine eqA_of Tryd.underlying44 (by kernel_rfl) ?_
 refine eqf_cons (by rfl) (by go_simp; rfl) (by go_simp; rfl) (by go_simp) ?_
 refine eqf_cons (by rfl) (by go_simp; rfl) (by go_simp; rfl) (by go_simp) ?_
 refine eqf_cons (by rfl) (by go_simp) (by go_simp) (eqA42 (d + 0) w _ _ _ _) ?_
 refine eqf_cons (by rfl) (by go_simp; rfl) (by go_simp; rfl) (by go_simp) ?_
 exact eqf_last (by rfl) (by go_simp; rfl) (by go_simp; rfl) (by go_simp)
theorem eqA46 (d : Nat) (w : World) (x0 y0 : Bool) (x1 y1 : Int) (x2 y2 : Int) (x3 y3 : Int) (x4 y4 : Int) (x5 y5 : Int) (x6 y6 : Int) :
  (Op.equalIn (d + 4) 46 (.agg #[.bool x0, .int .i64 x1, .int .i64 x2, .int .u32 x3, .int .i64 x4, .int .i64 x5, .int .i64 x6]) (.agg #[.bool y0, .int .i64 y1, .int .i64 y2, .int .u32 y3, .int .i64 y4, .int .i64 y5, .int .i64 y6])).run Tryd.prog w = .ok (x0 == y0 && ((x1 == y1 && (x2 == y2 && ((x3 == y3 && (x4 == y4)) && (x5 == y5 && (x6 == y6))))))) w := by
 refine eqA_of Tryd.underlying46 (by kernel_rfl) ?_
 refine eqf_cons (by rfl) (by go_simp; rfl) (by go_simp; rfl) (by go_simp) ?_
 exact eqf_last (by rfl) (by go_simp) (by go_simp) (eqA44 (d + 0) w _ _ _ _ _ _ _ _ _ _ _ _)
end Go.Proofs.YtloclimoffhbhaaDoor.PSre

namespace Go.Proofs.YtloclimoffhbhaaDoor.PSre
open Go.RowKit Go.Proofs.YtloclimoffhbhaaDoorW.PrintWords Go.Proofs.YtloclimoffhbhaaDoorW.PrintLast Go.Proofs.YtloclimoffhbhaaDoorW.PrintMore Go.Proofs.YtloclimoffhbhaaDoorW.PrintSq List
attribute [local go_sem] max2_int min2_int max_two min_two max_three min_three max_four min_four   -- for this text's walks alone
set_option linter.unusedVariables false
set_option linter.unusedSimpArgs false

/-! ### crossbucklaw25_sameChange: function 70 (by hand) -/
attribute [local go_sem high] eqA46
end Go.Proofs.YtloclimoffhbhaaDoor.PSre

namespace Go.Proofs.YtloclimoffhbhaaDoor.PSre
open Go.RowKit Go.Proofs.YtloclimoffhbhaaDoorW.PrintWords Go.Proofs.YtloclimoffhbhaaDoorW.PrintLast Go.Proofs.YtloclimoffhbhaaDoorW.PrintMore Go.Proofs.YtloclimoffhbhaaDoorW.PrintSq List
attribute [local go_sem] max2_int min2_int max_two min_two max_three min_three max_four min_four   -- for this text's walks alone
set_option linter.unusedVariables false
set_option linter.unusedSimpArgs false

/-! ### cidr_PrintRange: function 59 -/
def cidr_PrintRange.f (a0_0 : Int) (a0_1 : Int) : Option (ByteArray) := (strconv_Itoa_76.f (wrap64 (a0_0))).bind fun t337 => (if t337.size + 1 ≤ 9223372036854775807 then ((strconv_Itoa_76.f (wrap64 (a0_1))).bind fun t338 => (if (t337 ++ (⟨#[45]⟩ : ByteArray)).size + t338.size ≤ 9223372036854775807 then (some ((t337 ++ (⟨#[45]⟩ : ByteArray)) ++ t338)) else (none))) else (none))
def cidr_PrintRange.T1 : Bool × List (List Nat × List Nat) := (true, [([], []), ([0], [0]), ([1], [1]), ([2], [2]), ([3], [3]), ([], []), ([5], [5]), ([6], [6]), ([7, 3], [7]), ([4, 8], [4, 8]), ([9, 8, 0, 1, 2, 3, 4, 5, 6, 7, 8, 9], [9])])
def cidr_PrintRange.B1 : List Nat := [0, 1, 3, 7, 15, 0, 32, 96, 239, 511, 1023]
theorem cidr_PrintRange.tab1 : rtab .any (opsOf Tryd.f59 1) = cidr_PrintRange.T1 := by kernel_rfl
theorem cidr_PrintRange.bits1 : waitsOk cidr_PrintRange.T1.2 cidr_PrintRange.B1 = true := by kernel_rfl
set_option maxHeartbeats 8000000 in
set_option maxRecDepth 100000 in
theorem cidr_PrintRange.calls (a0_0 : Int) (a0_1 : Int) (r : ByteArray) (w : World) (hG : Hand.Good false true w) (h : cidr_PrintRange.f a0_0 a0_1 = some r) :
  Calls Tryd.prog 59 #[.agg #[.int .u16 a0_0, .int .u16 a0_1]] w fun e w' => e = .returned (.string r) ∧ Below w.heap.size w w' := by
 have hu61 := Tryd.underlying61;have HB := Aside0.mk (Below.refl w.heap.size w);have hGG := Aside0.mk hG;clear hG
 have H : ((strconv_Itoa_76.f (wrap64 (a0_0))).bind fun t337 => (if t337.size + 1 ≤ 9223372036854775807 then ((strconv_Itoa_76.f (wrap64 (a0_1))).bind fun t338 => (if (t337 ++ (⟨#[45]⟩ : ByteArray)).size + t338.size ≤ 9223372036854775807 then (some ((t337 ++ (⟨#[45]⟩ : ByteArray)) ++ t338)) else (none))) else (none))) = some r := h
 clear h;replace H := Option.bind_eq_some_iff.mp H;obtain ⟨t337, A20, H⟩ := H
 replace H : (if t337.size + 1 ≤ 9223372036854775807 then ((strconv_Itoa_76.f (wrap64 (a0_1))).bind fun t338 => (if (t337 ++ (⟨#[45]⟩ : ByteArray)).size + t338.size ≤ 9223372036854775807 then (some ((t337 ++ (⟨#[45]⟩ : ByteArray)) ++ t338)) else (none))) else (none)) = some r := H
 have A2 := Aside0.mk A20;clear A20
 by_cases c3 : t337.size + 1 ≤ 9223372036854775807
 ·rw [if_pos c3] at H
  have c3b0 := eq_true c3;have c3b1 : decide (t337.size + 1 ≤ 9223372036854775807) = true := decide_eq_true c3
  try have c3b2 : (9223372036854775807 < t337.size + 1) = False := eq_false (Nat.not_lt.2 c3)
  replace H := Option.bind_eq_some_iff.mp H;obtain ⟨t338, A40, H⟩ := H;replace H : (if (t337 ++ (⟨#[45]⟩ : ByteArray)).size + t338.size ≤ 9223372036854775807 then (some ((t337 ++ (⟨#[45]⟩ : ByteArray)) ++ t338)) else (none)) = some r := H;have A4 := Aside0.mk A40;clear A40
  by_cases c5 : (t337 ++ (⟨#[45]⟩ : ByteArray)).size + t338.size ≤ 9223372036854775807
  ·rw [if_pos c5] at H
   have c5b0 := eq_true c5;have c5b1 : decide ((t337 ++ (⟨#[45]⟩ : ByteArray)).size + t338.size ≤ 9223372036854775807) = true := decide_eq_true c5
   try have c5b2 : (9223372036854775807 < (t337 ++ (⟨#[45]⟩ : ByteArray)).size + t338.size) = False := eq_false (Nat.not_lt.2 c5)
   try have c5b3 := c5b2
   try simp only [ByteArray.size_append, Hand.lit_size, List.length_cons, List.length_nil, Nat.zero_add, Nat.reduceAdd] at c5b3
   obtain rfl := Option.some.inj H;go_enter Tryd.func59, Tryd.ntmps59
   try go_wp2_with (first | ((with_reducible refine gate_dst (N := 1) rfl ?_); refine box_event rfl (N := 1) rfl (cs := #[.int .u16 a0_0, .int .u16 a0_1]) (t := 61) gs ?_; intro gb336 hg w6 hbox hb; have n0_ := Aside0.mk (below_step (bel HB) hb); have n1_ := Aside0.mk (hbox); have n2_ := Aside0.mk ((by rw [hg]; exact (below_size (bel HB)) : w.heap.size ≤ gb336)); have n3_ := Aside0.mk ((by rw [hg]; exact (below_size (bel HB)) : w.heap.size ≤ gb336)); clear HB; have HB := n0_; have BK336 := n1_; have GW336 := n2_; have GE336 := n3_; clear n0_ n1_ n2_ n3_; clear hb hbox hg))
   replace BK336 := Aside0.mk (blk_drew BK336.out);replace HB := Aside0.mk (below_drew1 HB.out)
   refine start_ (n := 11) (S := fun w' => w'.cell? ⟨gb336, 0, none⟩ = some (.int .u16 a0_0) ∧ w'.cell? ⟨gb336, 1, none⟩ = some (.int .u16 a0_1)) (ds := []) #[F,F,F,F,F,F,F,F,F,F,F] (by kernel_rfl) rfl rfl ⟨(blk_cell BK336.out 0).trans rfl, (blk_cell BK336.out 1).trans rfl⟩ (fun hHeld => ?_); refine with_tabW cidr_PrintRange.tab1 cidr_PrintRange.bits1 (fun HT_ HW_ => ?_)
   generalize w6.drew = w7 at BK336 HB hHeld ⊢
   refine pure_ (i := 0) (N := some 3) (v := ?_) (a' := ?_) #[T,F,F,F,F,F,F,F,F,F,F] rfl rfl (any_of HT_.out (by kernel_rfl)) (fun _ _ _ h => h) (Or.inl ⟨by rfl, ?_⟩) ?_ ?_
   rotate_left;·intro w';go_simp;with_reducible rfl
   rotate_left;·simp only [Act.put, setIfInBounds_toArray, set_cons_zero, set_cons_succ, i64_w, i32_w];rfl
   refine pure_ (i := 5) (N := some 8) (v := ?_) (a' := ?_) #[T,F,F,F,F,T,F,F,F,F,F] rfl rfl (any_of HT_.out (by kernel_rfl)) (fun _ _ _ h => h) (Or.inl ⟨by rfl, ?_⟩) ?_ ?_
   rotate_left;·intro w';go_simp;with_reducible rfl
   rotate_left;·simp only [Act.put, setIfInBounds_toArray, set_cons_zero, set_cons_succ, i64_w, i32_w];rfl
   refine take_ (i := 1) (N := some 4) (v := ?_) (a' := ?_) #[T,T,F,F,F,T,F,F,F,F,F] rfl rfl (take_ofW HT_.out HW_.out (by kernel_rfl)) (fun _ _ _ h => h) (Or.inl ⟨by rfl, ?_⟩) hHeld ?_ ?_
   rotate_left
   ·rintro w' ⟨s0, s1⟩
    go_simp;with_reducible rfl
   rotate_left;·simp only [Act.put, setIfInBounds_toArray, set_cons_zero, set_cons_succ, i64_w, i32_w];rfl
   refine pure_ (i := 2) (N := some 5) (v := ?_) (a' := ?_) #[T,T,T,F,F,T,F,F,F,F,F] rfl rfl (any_of HT_.out (by kernel_rfl)) (fun _ _ _ h => h) (Or.inl ⟨by rfl, ?_⟩) ?_ ?_
   rotate_left;·intro w';go_simp;with_reducible rfl
   rotate_left;·simp only [Act.put, setIfInBounds_toArray, set_cons_zero, set_cons_succ, i64_w, i32_w];rfl
   refine take_ (i := 6) (N := some 9) (v := ?_) (a' := ?_) #[T,T,T,F,F,T,T,F,F,F,F] rfl rfl (take_ofW HT_.out HW_.out (by kernel_rfl)) (fun _ _ _ h => h) (Or.inl ⟨by rfl, ?_⟩) hHeld ?_ ?_
   rotate_left
   ·rintro w' ⟨s0, s1⟩
    go_simp;with_reducible rfl
   rotate_left;·simp only [Act.put, setIfInBounds_toArray, set_cons_zero, set_cons_succ, i64_w, i32_w];rfl
   refine pure_ (i := 7) (N := some 10) (v := ?_) (a' := ?_) #[T,T,T,F,F,T,T,T,F,F,F] rfl rfl (any_of HT_.out (by kernel_rfl)) (fun _ _ _ h => h) (Or.inl ⟨by rfl, ?_⟩) ?_ ?_
   rotate_left;·intro w';go_simp;with_reducible rfl
   rotate_left;·simp only [Act.put, setIfInBounds_toArray, set_cons_zero, set_cons_succ, i64_w, i32_w];rfl
   refine one_ (i := 3) (N := some 6) #[T,T,T,T,F,T,T,T,F,F,F] rfl rfl (one_of HT_.out (by kernel_rfl)) (by decide) (fun K hK => ?_)
   refine goes_ Tryd.func76 (by kernel_rfl) rfl #[.int .i64 (wrap64 (a0_0))] (by rfl) rfl rfl aok ?_
   with_reducible refine (strconv_Itoa_76.calls (wrap64 (a0_0)) t337 _ (Hand.Good.below false true hGG.out (bel HB) rfl rfl) A2.out).mono ?_
   rintro e w8 ⟨rfl, hb⟩;refine ⟨_, rfl, ?_⟩;replace BK336 := Aside0.mk (bb BK336.out hb)
   replace HB := Aside0.mk (below_step (bel HB) hb)
   (try clear hb);(try clear hb2);(try clear hk);(try clear hi)
   refine hK.out _ _ ⟨(blk_cell BK336.out 0).trans rfl, (blk_cell BK336.out 1).trans rfl⟩ (fun hHeld => ?_)
   clear hK K
   refine norm_ (a' := ?_) ?_ ?_;rotate_left;·show Act.put _ (some 6) _ = _;simp only [Act.put, setIfInBounds_toArray, set_cons_zero, set_cons_succ, i64_w, i32_w];rfl
   refine pure_ (i := 4) (N := some 7) (v := ?_) (a' := ?_) #[T,T,T,T,T,T,T,T,F,F,F] rfl rfl (any_of HT_.out (by kernel_rfl)) (fun _ _ _ h => h) (Or.inl ⟨by rfl, ?_⟩) ?_ ?_
   rotate_left;·intro w';go_simp;with_reducible rfl
   rotate_left;·simp only [Act.put, setIfInBounds_toArray, set_cons_zero, set_cons_succ, i64_w, i32_w];rfl
   refine one_ (i := 8) (N := some 11) #[T,T,T,T,T,T,T,T,T,F,F] rfl rfl (one_of HT_.out (by kernel_rfl)) (by decide) (fun K hK => ?_)
   refine goes_ Tryd.func76 (by kernel_rfl) rfl #[.int .i64 (wrap64 (a0_1))] (by rfl) rfl rfl aok ?_
   with_reducible refine (strconv_Itoa_76.calls (wrap64 (a0_1)) t338 _ (Hand.Good.below false true hGG.out (bel HB) rfl rfl) A4.out).mono ?_
   rintro e w9 ⟨rfl, hb⟩;refine ⟨_, rfl, ?_⟩;replace BK336 := Aside0.mk (bb BK336.out hb)
   replace HB := Aside0.mk (below_step (bel HB) hb)
   (try clear hb);(try clear hb2);(try clear hk);(try clear hi)
   refine hK.out _ _ ⟨(blk_cell BK336.out 0).trans rfl, (blk_cell BK336.out 1).trans rfl⟩ (fun hHeld => ?_)
   clear hK K
   refine norm_ (a' := ?_) ?_ ?_;rotate_left;·show Act.put _ (some 11) _ = _;simp only [Act.put, setIfInBounds_toArray, set_cons_zero, set_cons_succ, i64_w, i32_w];rfl
   refine pure_ (i := 9) (N := some 12) (v := ?_) (a' := ?_) #[T,T,T,T,T,T,T,T,T,T,F] rfl rfl (any_of HT_.out (by kernel_rfl)) (fun _ _ _ h => h) (Or.inl ⟨by rfl, ?_⟩) ?_ ?_
   rotate_left;·intro w';go_simp;with_reducible rfl
   rotate_left;·simp only [Act.put, setIfInBounds_toArray, set_cons_zero, set_cons_succ, i64_w, i32_w];rfl
   refine pure_ (i := 10) (N := some 2) (v := ?_) (a' := ?_) #[T,T,T,T,T,T,T,T,T,T,T] rfl rfl (any_of HT_.out (by kernel_rfl)) (fun _ _ _ h => h) (Or.inl ⟨by rfl, ?_⟩) ?_ ?_
   rotate_left;·intro w';go_simp;with_reducible rfl
   rotate_left;·simp only [Act.put, setIfInBounds_toArray, set_cons_zero, set_cons_succ, i64_w, i32_w];rfl
   refine done_ (done_of HT_.out (by kernel_rfl)) ?_
   try go_wp2
   go_ret
   exact ⟨by first | rfl | (simp [errW_none, errW_some] <;> rfl) | (simp [*, errW_none, errW_some] <;> rfl), bel HB⟩
  ·rw [if_neg c5] at H
   exact absurd H (by simp)
 ·rw [if_neg c3] at H
  exact absurd H (by simp)

end Go.Proofs.YtloclimoffhbhaaDoor.PSre
