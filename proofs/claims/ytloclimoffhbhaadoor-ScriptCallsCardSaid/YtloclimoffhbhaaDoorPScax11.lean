-- Written by wip/myprint.py and wip/merge.py (this session's own programs); Lean checks it.
-- halved
import Derived.Test.YtloclimoffhbhaaDoorSq6
import Derived.Test.YtloclimoffhbhaaDoorPScax0
import Derived.Test.YtloclimoffhbhaaDoorPScax10
namespace Go.Proofs.YtloclimoffhbhaaDoor.PSca
open Go.RowKit Go.Proofs.YtloclimoffhbhaaDoorW.PrintWords Go.Proofs.YtloclimoffhbhaaDoorW.PrintLast Go.Proofs.YtloclimoffhbhaaDoorW.PrintMore Go.Proofs.YtloclimoffhbhaaDoorW.PrintSq List
attribute [local go_sem] max2_int min2_int max_two min_two max_three min_three max_four min_four   -- for this text's walks alone
set_option linter.unusedVariables false
set_option linter.unusedSimpArgs false

/-! ### crossbuckref03_Print: function 63 -/
def crossbuckref03_Print.f (k : Nat) (a0_0 : Int) (a0_1 : Int) : Option (ByteArray) := (crossbuckref02_Addr.f k a0_0).bind fun t307 => (if t307.size + 1 ≤ 9223372036854775807 then ((crossbuckref02_Digits.f k a0_1).bind fun t308 => (if (t307 ++ (⟨#[47]⟩ : ByteArray)).size + t308.size ≤ 9223372036854775807 then (some ((t307 ++ (⟨#[47]⟩ : ByteArray)) ++ t308)) else (none))) else (none))
def crossbuckref03_Print.T1 : Bool × List (List Nat × List Nat) := (true, [([], []), ([0], [0]), ([1], [1]), ([2], [2]), ([], []), ([4], [4]), ([5, 2], [5]), ([3, 6], [3, 6]), ([7, 6, 0, 1, 2, 3, 4, 5, 6, 7], [7])])
def crossbuckref03_Print.B1 : List Nat := [0, 1, 3, 7, 0, 16, 55, 127, 255]
theorem crossbuckref03_Print.tab1 : rtab .any (opsOf Tryd.f63 1) = crossbuckref03_Print.T1 := by kernel_rfl
theorem crossbuckref03_Print.bits1 : waitsOk crossbuckref03_Print.T1.2 crossbuckref03_Print.B1 = true := by kernel_rfl
set_option maxHeartbeats 8000000 in
set_option maxRecDepth 100000 in
theorem crossbuckref03_Print.calls (k : Nat) (a0_0 : Int) (a0_1 : Int) (r : ByteArray) (w : World) (h : crossbuckref03_Print.f k a0_0 a0_1 = some r) :
  Calls Tryd.prog 63 #[.agg #[.int .u32 a0_0, .int .i64 a0_1]] w fun e w' => e = .returned (.string r) ∧ Below w.heap.size w w' := by
 have hu42 := Tryd.underlying42;have HB := Aside0.mk (Below.refl w.heap.size w)
 have H : ((crossbuckref02_Addr.f k a0_0).bind fun t307 => (if t307.size + 1 ≤ 9223372036854775807 then ((crossbuckref02_Digits.f k a0_1).bind fun t308 => (if (t307 ++ (⟨#[47]⟩ : ByteArray)).size + t308.size ≤ 9223372036854775807 then (some ((t307 ++ (⟨#[47]⟩ : ByteArray)) ++ t308)) else (none))) else (none))) = some r := h
 clear h;replace H := Option.bind_eq_some_iff.mp H;obtain ⟨t307, A20, H⟩ := H
 replace H : (if t307.size + 1 ≤ 9223372036854775807 then ((crossbuckref02_Digits.f k a0_1).bind fun t308 => (if (t307 ++ (⟨#[47]⟩ : ByteArray)).size + t308.size ≤ 9223372036854775807 then (some ((t307 ++ (⟨#[47]⟩ : ByteArray)) ++ t308)) else (none))) else (none)) = some r := H
 have A2 := Aside0.mk A20;clear A20
 by_cases c3 : t307.size + 1 ≤ 9223372036854775807
 ·rw [if_pos c3] at H
  have c3b0 := eq_true c3;have c3b1 : decide (t307.size + 1 ≤ 9223372036854775807) = true := decide_eq_true c3
  try have c3b2 : (9223372036854775807 < t307.size + 1) = False := eq_false (Nat.not_lt.2 c3)
  replace H := Option.bind_eq_some_iff.mp H;obtain ⟨t308, A40, H⟩ := H;replace H : (if (t307 ++ (⟨#[47]⟩ : ByteArray)).size + t308.size ≤ 9223372036854775807 then (some ((t307 ++ (⟨#[47]⟩ : ByteArray)) ++ t308)) else (none)) = some r := H;have A4 := Aside0.mk A40;clear A40
  by_cases c5 : (t307 ++ (⟨#[47]⟩ : ByteArray)).size + t308.size ≤ 9223372036854775807
  ·rw [if_pos c5] at H
   have c5b0 := eq_true c5;have c5b1 : decide ((t307 ++ (⟨#[47]⟩ : ByteArray)).size + t308.size ≤ 9223372036854775807) = true := decide_eq_true c5
   try have c5b2 : (9223372036854775807 < (t307 ++ (⟨#[47]⟩ : ByteArray)).size + t308.size) = False := eq_false (Nat.not_lt.2 c5)
   try have c5b3 := c5b2
   try simp only [ByteArray.size_append, Hand.lit_size, List.length_cons, List.length_nil, Nat.zero_add, Nat.reduceAdd] at c5b3
   obtain rfl := Option.some.inj H;go_enter Tryd.func63, Tryd.ntmps63
   try go_wp2_with (first | ((with_reducible refine gate_dst (N := 1) rfl ?_); refine box_event rfl (N := 1) rfl (cs := #[.int .u32 a0_0, .int .i64 a0_1]) (t := 42) gs ?_; intro gb306 hg w6 hbox hb; have n0_ := Aside0.mk (below_step (bel HB) hb); have n1_ := Aside0.mk (hbox); have n2_ := Aside0.mk ((by rw [hg]; exact (below_size (bel HB)) : w.heap.size ≤ gb306)); have n3_ := Aside0.mk ((by rw [hg]; exact (below_size (bel HB)) : w.heap.size ≤ gb306)); clear HB; have HB := n0_; have BK306 := n1_; have GW306 := n2_; have GE306 := n3_; clear n0_ n1_ n2_ n3_; clear hb hbox hg))
   replace BK306 := Aside0.mk (blk_drew BK306.out);replace HB := Aside0.mk (below_drew1 HB.out)
   refine start_ (n := 9) (S := fun w' => w'.cell? ⟨gb306, 0, none⟩ = some (.int .u32 a0_0) ∧ w'.cell? ⟨gb306, 1, none⟩ = some (.int .i64 a0_1)) (ds := []) #[F,F,F,F,F,F,F,F,F] (by kernel_rfl) rfl rfl ⟨(blk_cell BK306.out 0).trans rfl, (blk_cell BK306.out 1).trans rfl⟩ (fun hHeld => ?_); refine with_tabW crossbuckref03_Print.tab1 crossbuckref03_Print.bits1 (fun HT_ HW_ => ?_)
   generalize w6.drew = w7 at BK306 HB hHeld ⊢
   refine pure_ (i := 0) (N := some 3) (v := ?_) (a' := ?_) #[T,F,F,F,F,F,F,F,F] rfl rfl (any_of HT_.out (by kernel_rfl)) (fun _ _ _ h => h) (Or.inl ⟨by rfl, ?_⟩) ?_ ?_
   rotate_left;·intro w';go_simp;with_reducible rfl
   rotate_left;·simp only [Act.put, setIfInBounds_toArray, set_cons_zero, set_cons_succ, i64_w, i32_w];rfl
   refine pure_ (i := 4) (N := some 7) (v := ?_) (a' := ?_) #[T,F,F,F,T,F,F,F,F] rfl rfl (any_of HT_.out (by kernel_rfl)) (fun _ _ _ h => h) (Or.inl ⟨by rfl, ?_⟩) ?_ ?_
   rotate_left;·intro w';go_simp;with_reducible rfl
   rotate_left;·simp only [Act.put, setIfInBounds_toArray, set_cons_zero, set_cons_succ, i64_w, i32_w];rfl
   refine take_ (i := 1) (N := some 4) (v := ?_) (a' := ?_) #[T,T,F,F,T,F,F,F,F] rfl rfl (take_ofW HT_.out HW_.out (by kernel_rfl)) (fun _ _ _ h => h) (Or.inl ⟨by rfl, ?_⟩) hHeld ?_ ?_
   rotate_left
   ·rintro w' ⟨s0, s1⟩
    go_simp;with_reducible rfl
   rotate_left;·simp only [Act.put, setIfInBounds_toArray, set_cons_zero, set_cons_succ, i64_w, i32_w];rfl
   refine take_ (i := 5) (N := some 8) (v := ?_) (a' := ?_) #[T,T,F,F,T,T,F,F,F] rfl rfl (take_ofW HT_.out HW_.out (by kernel_rfl)) (fun _ _ _ h => h) (Or.inl ⟨by rfl, ?_⟩) hHeld ?_ ?_
   rotate_left
   ·rintro w' ⟨s0, s1⟩
    go_simp;with_reducible rfl
   rotate_left;·simp only [Act.put, setIfInBounds_toArray, set_cons_zero, set_cons_succ, i64_w, i32_w];rfl
   refine one_ (i := 2) (N := some 5) #[T,T,T,F,T,T,F,F,F] rfl rfl (one_of HT_.out (by kernel_rfl)) (by decide) (fun K hK => ?_)
   refine goes_ Tryd.func55 (by kernel_rfl) rfl #[.int .u32 a0_0] (by rfl) rfl rfl aok ?_
   with_reducible refine (crossbuckref02_Addr.calls k a0_0 t307 _ A2.out).mono ?_;rintro e w8 ⟨rfl, hb⟩;refine ⟨_, rfl, ?_⟩;replace BK306 := Aside0.mk (bb BK306.out hb)
   replace HB := Aside0.mk (below_step (bel HB) hb)
   (try clear hb);(try clear hb2);(try clear hk);(try clear hi)
   refine hK.out _ _ ⟨(blk_cell BK306.out 0).trans rfl, (blk_cell BK306.out 1).trans rfl⟩ (fun hHeld => ?_)
   clear hK K
   refine norm_ (a' := ?_) ?_ ?_;rotate_left;·show Act.put _ (some 5) _ = _;simp only [Act.put, setIfInBounds_toArray, set_cons_zero, set_cons_succ, i64_w, i32_w];rfl
   refine pure_ (i := 3) (N := some 6) (v := ?_) (a' := ?_) #[T,T,T,T,T,T,F,F,F] rfl rfl (any_of HT_.out (by kernel_rfl)) (fun _ _ _ h => h) (Or.inl ⟨by rfl, ?_⟩) ?_ ?_
   rotate_left;·intro w';go_simp;with_reducible rfl
   rotate_left;·simp only [Act.put, setIfInBounds_toArray, set_cons_zero, set_cons_succ, i64_w, i32_w];rfl
   refine one_ (i := 6) (N := some 9) #[T,T,T,T,T,T,T,F,F] rfl rfl (one_of HT_.out (by kernel_rfl)) (by decide) (fun K hK => ?_)
   refine goes_ Tryd.func99 (by kernel_rfl) rfl #[.int .i64 a0_1] (by rfl) rfl rfl aok ?_
   with_reducible refine (crossbuckref02_Digits.calls k a0_1 t308 _ A4.out).mono ?_;rintro e w9 ⟨rfl, hb⟩;refine ⟨_, rfl, ?_⟩;replace BK306 := Aside0.mk (bb BK306.out hb)
   replace HB := Aside0.mk (below_step (bel HB) hb)
   (try clear hb);(try clear hb2);(try clear hk);(try clear hi)
   refine hK.out _ _ ⟨(blk_cell BK306.out 0).trans rfl, (blk_cell BK306.out 1).trans rfl⟩ (fun hHeld => ?_)
   clear hK K
   refine norm_ (a' := ?_) ?_ ?_;rotate_left;·show Act.put _ (some 9) _ = _;simp only [Act.put, setIfInBounds_toArray, set_cons_zero, set_cons_succ, i64_w, i32_w];rfl
   refine pure_ (i := 7) (N := some 10) (v := ?_) (a' := ?_) #[T,T,T,T,T,T,T,T,F] rfl rfl (any_of HT_.out (by kernel_rfl)) (fun _ _ _ h => h) (Or.inl ⟨by rfl, ?_⟩) ?_ ?_
   rotate_left;·intro w';go_simp;with_reducible rfl
   rotate_left;·simp only [Act.put, setIfInBounds_toArray, set_cons_zero, set_cons_succ, i64_w, i32_w];rfl
   refine pure_ (i := 8) (N := some 2) (v := ?_) (a' := ?_) #[T,T,T,T,T,T,T,T,T] rfl rfl (any_of HT_.out (by kernel_rfl)) (fun _ _ _ h => h) (Or.inl ⟨by rfl, ?_⟩) ?_ ?_
   rotate_left;·intro w';go_simp;with_reducible rfl
   rotate_left;·simp only [Act.put, setIfInBounds_toArray, set_cons_zero, set_cons_succ, i64_w, i32_w];rfl
   refine done_ (done_of HT_.out (by kernel_rfl)) ?_
   try go_wp2
   go_ret
   exact ⟨by first | rfl | (simp [errW_none, errW_some] <;> rfl) | (simp [*, errW_none, errW_some] <;> rfl), bel HB⟩
  ·rw [if_neg c5] at H
   exact absurd H (by simp)
 ·rw [if_neg c3] at H
  exact absurd H (by simp)

end Go.Proofs.YtloclimoffhbhaaDoor.PSca

namespace Go.Proofs.YtloclimoffhbhaaDoor.PSca
open Go.RowKit Go.Proofs.YtloclimoffhbhaaDoorW.PrintWords Go.Proofs.YtloclimoffhbhaaDoorW.PrintLast Go.Proofs.YtloclimoffhbhaaDoorW.PrintMore Go.Proofs.YtloclimoffhbhaaDoorW.PrintSq List
attribute [local go_sem] max2_int min2_int max_two min_two max_three min_three max_four min_four   -- for this text's walks alone
set_option linter.unusedVariables false
set_option linter.unusedSimpArgs false

/-! ### crossbuckref03_PrintRange: function 60 -/
def crossbuckref03_PrintRange.f (k : Nat) (a0_0 : Int) (a0_1 : Int) : Option (ByteArray) := (crossbuckref02_Digits.f k (wrap64 (a0_0))).bind fun t350 => (if t350.size + 1 ≤ 9223372036854775807 then ((crossbuckref02_Digits.f k (wrap64 (a0_1))).bind fun t351 => (if (t350 ++ (⟨#[45]⟩ : ByteArray)).size + t351.size ≤ 9223372036854775807 then (some ((t350 ++ (⟨#[45]⟩ : ByteArray)) ++ t351)) else (none))) else (none))
def crossbuckref03_PrintRange.T1 : Bool × List (List Nat × List Nat) := (true, [([], []), ([0], [0]), ([1], [1]), ([2], [2]), ([3], [3]), ([], []), ([5], [5]), ([6], [6]), ([7, 3], [7]), ([4, 8], [4, 8]), ([9, 8, 0, 1, 2, 3, 4, 5, 6, 7, 8, 9], [9])])
def crossbuckref03_PrintRange.B1 : List Nat := [0, 1, 3, 7, 15, 0, 32, 96, 239, 511, 1023]
theorem crossbuckref03_PrintRange.tab1 : rtab .any (opsOf Tryd.f60 1) = crossbuckref03_PrintRange.T1 := by kernel_rfl
theorem crossbuckref03_PrintRange.bits1 : waitsOk crossbuckref03_PrintRange.T1.2 crossbuckref03_PrintRange.B1 = true := by kernel_rfl
set_option maxHeartbeats 8000000 in
set_option maxRecDepth 100000 in
theorem crossbuckref03_PrintRange.calls (k : Nat) (a0_0 : Int) (a0_1 : Int) (r : ByteArray) (w : World) (h : crossbuckref03_PrintRange.f k a0_0 a0_1 = some r) :
  Calls Tryd.prog 60 #[.agg #[.int .u16 a0_0, .int .u16 a0_1]] w fun e w' => e = .returned (.string r) ∧ Below w.heap.size w w' := by
 have hu61 := Tryd.underlying61;have HB := Aside0.mk (Below.refl w.heap.size w)
 have H : ((crossbuckref02_Digits.f k (wrap64 (a0_0))).bind fun t350 => (if t350.size + 1 ≤ 9223372036854775807 then ((crossbuckref02_Digits.f k (wrap64 (a0_1))).bind fun t351 => (if (t350 ++ (⟨#[45]⟩ : ByteArray)).size + t351.size ≤ 9223372036854775807 then (some ((t350 ++ (⟨#[45]⟩ : ByteArray)) ++ t351)) else (none))) else (none))) = some r := h
 clear h;replace H := Option.bind_eq_some_iff.mp H;obtain ⟨t350, A20, H⟩ := H
 replace H : (if t350.size + 1 ≤ 9223372036854775807 then ((crossbuckref02_Digits.f k (wrap64 (a0_1))).bind fun t351 => (if (t350 ++ (⟨#[45]⟩ : ByteArray)).size + t351.size ≤ 9223372036854775807 then (some ((t350 ++ (⟨#[45]⟩ : ByteArray)) ++ t351)) else (none))) else (none)) = some r := H
 have A2 := Aside0.mk A20;clear A20
 by_cases c3 : t350.size + 1 ≤ 9223372036854775807
 ·rw [if_pos c3] at H
  have c3b0 := eq_true c3;have c3b1 : decide (t350.size + 1 ≤ 9223372036854775807) = true := decide_eq_true c3
  try have c3b2 : (9223372036854775807 < t350.size + 1) = False := eq_false (Nat.not_lt.2 c3)
  replace H := Option.bind_eq_some_iff.mp H;obtain ⟨t351, A40, H⟩ := H;replace H : (if (t350 ++ (⟨#[45]⟩ : ByteArray)).size + t351.size ≤ 9223372036854775807 then (some ((t350 ++ (⟨#[45]⟩ : ByteArray)) ++ t351)) else (none)) = some r := H;have A4 := Aside0.mk A40;clear A40
  by_cases c5 : (t350 ++ (⟨#[45]⟩ : ByteArray)).size + t351.size ≤ 9223372036854775807
  ·rw [if_pos c5] at H
   have c5b0 := eq_true c5;have c5b1 : decide ((t350 ++ (⟨#[45]⟩ : ByteArray)).size + t351.size ≤ 9223372036854775807) = true := decide_eq_true c5
   try have c5b2 : (9223372036854775807 < (t350 ++ (⟨#[45]⟩ : ByteArray)).size + t351.size) = False := eq_false (Nat.not_lt.2 c5)
   try have c5b3 := c5b2
   try simp only [ByteArray.size_append, Hand.lit_size, List.length_cons, List.length_nil, Nat.zero_add, Nat.reduceAdd] at c5b3
   obtain rfl := Option.some.inj H;go_enter Tryd.func60, Tryd.ntmps60
   try go_wp2_with (first | ((with_reducible refine gate_dst (N := 1) rfl ?_); refine box_event rfl (N := 1) rfl (cs := #[.int .u16 a0_0, .int .u16 a0_1]) (t := 61) gs ?_; intro gb349 hg w6 hbox hb; have n0_ := Aside0.mk (below_step (bel HB) hb); have n1_ := Aside0.mk (hbox); have n2_ := Aside0.mk ((by rw [hg]; exact (below_size (bel HB)) : w.heap.size ≤ gb349)); have n3_ := Aside0.mk ((by rw [hg]; exact (below_size (bel HB)) : w.heap.size ≤ gb349)); clear HB; have HB := n0_; have BK349 := n1_; have GW349 := n2_; have GE349 := n3_; clear n0_ n1_ n2_ n3_; clear hb hbox hg))
   replace BK349 := Aside0.mk (blk_drew BK349.out);replace HB := Aside0.mk (below_drew1 HB.out)
   refine start_ (n := 11) (S := fun w' => w'.cell? ⟨gb349, 0, none⟩ = some (.int .u16 a0_0) ∧ w'.cell? ⟨gb349, 1, none⟩ = some (.int .u16 a0_1)) (ds := []) #[F,F,F,F,F,F,F,F,F,F,F] (by kernel_rfl) rfl rfl ⟨(blk_cell BK349.out 0).trans rfl, (blk_cell BK349.out 1).trans rfl⟩ (fun hHeld => ?_); refine with_tabW crossbuckref03_PrintRange.tab1 crossbuckref03_PrintRange.bits1 (fun HT_ HW_ => ?_)
   generalize w6.drew = w7 at BK349 HB hHeld ⊢
   refine pure_ (i := 0) (N := some 3) (v := ?_) (a' := ?_) #[T,F,F,F,F,F,F,F,F,F,F] rfl rfl (any_of HT_.out (by kernel_rfl)) (fun _ _ _ h => h) (Or.inl ⟨by rfl, ?_⟩) ?_ ?_
   rotate_left;·intro w';go_simp;with_reducible rfl
   rotate_left;·simp only [Act.put, setIfInBounds_toArray, set_cons_zero, set_cons_succ, i64_w, i32_w];rfl
   refine pure_ (i := 5) (N := some 8) (v := ?_) (a' := ?_) #[T,F,F,F,F,T,F,F,F,F,F] rfl rfl (any_of HT_.out (by kernel_rfl)) (fun _ _ _ h => h) (Or.inl ⟨by rfl, ?_⟩) ?_ ?_
   rotate_left;·intro w';go_simp;with_reducible rfl
   rotate_left;·simp only [Act.put, setIfInBounds_toArray, set_cons_zero, set_cons_succ, i64_w, i32_w];rfl
   refine take_ (i := 1) (N := some 4) (v := ?_) (a' := ?_) #[T,T,F,F,F,T,F,F,F,F,F] rfl rfl (take_ofW HT_.out HW_.out (by kernel_rfl)) (fun _ _ _ h => h) (Or.inl ⟨by rfl, ?_⟩) hHeld ?_ ?_
   rotate_left
   ·rintro w' ⟨s0, s1⟩
    go_simp;with_reducible rfl
   rotate_left;·simp only [Act.put, setIfInBounds_toArray, set_cons_zero, set_cons_succ, i64_w, i32_w];rfl
   refine pure_ (i := 2) (N := some 5) (v := ?_) (a' := ?_) #[T,T,T,F,F,T,F,F,F,F,F] rfl rfl (any_of HT_.out (by kernel_rfl)) (fun _ _ _ h => h) (Or.inl ⟨by rfl, ?_⟩) ?_ ?_
   rotate_left;·intro w';go_simp;with_reducible rfl
   rotate_left;·simp only [Act.put, setIfInBounds_toArray, set_cons_zero, set_cons_succ, i64_w, i32_w];rfl
   refine take_ (i := 6) (N := some 9) (v := ?_) (a' := ?_) #[T,T,T,F,F,T,T,F,F,F,F] rfl rfl (take_ofW HT_.out HW_.out (by kernel_rfl)) (fun _ _ _ h => h) (Or.inl ⟨by rfl, ?_⟩) hHeld ?_ ?_
   rotate_left
   ·rintro w' ⟨s0, s1⟩
    go_simp;with_reducible rfl
   rotate_left;·simp only [Act.put, setIfInBounds_toArray, set_cons_zero, set_cons_succ, i64_w, i32_w];rfl
   refine pure_ (i := 7) (N := some 10) (v := ?_) (a' := ?_) #[T,T,T,F,F,T,T,T,F,F,F] rfl rfl (any_of HT_.out (by kernel_rfl)) (fun _ _ _ h => h) (Or.inl ⟨by rfl, ?_⟩) ?_ ?_
   rotate_left;·intro w';go_simp;with_reducible rfl
   rotate_left;·simp only [Act.put, setIfInBounds_toArray, set_cons_zero, set_cons_succ, i64_w, i32_w];rfl
   refine one_ (i := 3) (N := some 6) #[T,T,T,T,F,T,T,T,F,F,F] rfl rfl (one_of HT_.out (by kernel_rfl)) (by decide) (fun K hK => ?_)
   refine goes_ Tryd.func99 (by kernel_rfl) rfl #[.int .i64 (wrap64 (a0_0))] (by rfl) rfl rfl aok ?_
   with_reducible refine (crossbuckref02_Digits.calls k (wrap64 (a0_0)) t350 _ A2.out).mono ?_;rintro e w8 ⟨rfl, hb⟩;refine ⟨_, rfl, ?_⟩;replace BK349 := Aside0.mk (bb BK349.out hb)
   replace HB := Aside0.mk (below_step (bel HB) hb)
   (try clear hb);(try clear hb2);(try clear hk);(try clear hi)
   refine hK.out _ _ ⟨(blk_cell BK349.out 0).trans rfl, (blk_cell BK349.out 1).trans rfl⟩ (fun hHeld => ?_)
   clear hK K
   refine norm_ (a' := ?_) ?_ ?_;rotate_left;·show Act.put _ (some 6) _ = _;simp only [Act.put, setIfInBounds_toArray, set_cons_zero, set_cons_succ, i64_w, i32_w];rfl
   refine pure_ (i := 4) (N := some 7) (v := ?_) (a' := ?_) #[T,T,T,T,T,T,T,T,F,F,F] rfl rfl (any_of HT_.out (by kernel_rfl)) (fun _ _ _ h => h) (Or.inl ⟨by rfl, ?_⟩) ?_ ?_
   rotate_left;·intro w';go_simp;with_reducible rfl
   rotate_left;·simp only [Act.put, setIfInBounds_toArray, set_cons_zero, set_cons_succ, i64_w, i32_w];rfl
   refine one_ (i := 8) (N := some 11) #[T,T,T,T,T,T,T,T,T,F,F] rfl rfl (one_of HT_.out (by kernel_rfl)) (by decide) (fun K hK => ?_)
   refine goes_ Tryd.func99 (by kernel_rfl) rfl #[.int .i64 (wrap64 (a0_1))] (by rfl) rfl rfl aok ?_
   with_reducible refine (crossbuckref02_Digits.calls k (wrap64 (a0_1)) t351 _ A4.out).mono ?_;rintro e w9 ⟨rfl, hb⟩;refine ⟨_, rfl, ?_⟩;replace BK349 := Aside0.mk (bb BK349.out hb)
   replace HB := Aside0.mk (below_step (bel HB) hb)
   (try clear hb);(try clear hb2);(try clear hk);(try clear hi)
   refine hK.out _ _ ⟨(blk_cell BK349.out 0).trans rfl, (blk_cell BK349.out 1).trans rfl⟩ (fun hHeld => ?_)
   clear hK K
   refine norm_ (a' := ?_) ?_ ?_;rotate_left;·show Act.put _ (some 11) _ = _;simp only [Act.put, setIfInBounds_toArray, set_cons_zero, set_cons_succ, i64_w, i32_w];rfl
   refine pure_ (i := 9) (N := some 12) (v := ?_) (a' := ?_) #[T,T,T,T,T,T,T,T,T,T,F] rfl rfl (any_of HT_.out (by kernel_rfl)) (fun _ _ _ h => h) (Or.inl ⟨by rfl, ?_⟩) ?_ ?_
   rotate_left;·intro w';go_simp;with_reducible rfl
   rotate_left;·simp only [Act.put, setIfInBounds_toArray, set_cons_zero, set_cons_succ, i64_w, i32_w];rfl
   refine pure_ (i := 10) (N := some 2) (v := ?_) (a' := ?_) #[T,T,T,T,T,T,T,T,T,T,T] rfl rfl (any_of HT_.out (by kernel_rfl)) (fun _ _ _ h => h) (Or.inl ⟨by rfl, ?_⟩) ?_ ?_
   rotate_left;·intro w';go_simp;with_reducible rfl
   rotate_left;·simp only [Act.put, setIfInBounds_toArray, set_cons_zero, set_cons_succ, i64_w, i32_w];rfl
   refine done_ (done_of HT_.out (by kernel_rfl)) ?_
   try go_wp2
   go_ret
   exact ⟨by first | rfl | (simp [errW_none, errW_some] <;> rfl) | (simp [*, errW_none, errW_some] <;> rfl), bel HB⟩
  ·rw [if_neg c5] at H
   exact absurd H (by simp)
 ·rw [if_neg c3] at H
  exact absurd H (by simp)

end Go.Proofs.YtloclimoffhbhaaDoor.PSca

namespace Go.Proofs.YtloclimoffhbhaaDoor.PSca
open Go.RowKit Go.Proofs.YtloclimoffhbhaaDoorW.PrintWords Go.Proofs.YtloclimoffhbhaaDoorW.PrintLast Go.Proofs.YtloclimoffhbhaaDoorW.PrintMore Go.Proofs.YtloclimoffhbhaaDoorW.PrintSq List
attribute [local go_sem] max2_int min2_int max_two min_two max_three min_three max_four min_four   -- for this text's walks alone
set_option linter.unusedVariables false
set_option linter.unusedSimpArgs false

/-! ### crossbuckref04_Print: function 67 -/
def crossbuckref04_Print.j0 : Nat → ByteArray → Int → Int → Int → Int → Int → Int → Int → Int → Int → Option (ByteArray)
 | 0, _, _, _, _, _, _, _, _, _, _ => none
 | k + 1, x3, x353000, x353001, x353002, x353003, x353004, x353005, x353006, x353007, x353008 => (crossbuckref03_Print.f k x353000 x353001).bind fun t354 => (if t354.size + 1 ≤ 9223372036854775807 then ((crossbuckref03_Print.f k x353002 x353003).bind fun t355 => (if (t354 ++ (⟨#[32]⟩ : ByteArray)).size + t355.size ≤ 9223372036854775807 then (if ((t354 ++ (⟨#[32]⟩ : ByteArray)) ++ t355).size + 1 ≤ 9223372036854775807 then (if (((t354 ++ (⟨#[32]⟩ : ByteArray)) ++ t355) ++ (⟨#[32]⟩ : ByteArray)).size + x3.size ≤ 9223372036854775807 then (if ((((t354 ++ (⟨#[32]⟩ : ByteArray)) ++ t355) ++ (⟨#[32]⟩ : ByteArray)) ++ x3).size + 1 ≤ 9223372036854775807 then ((crossbuckref03_PrintRange.f k x353005 x353006).bind fun t356 => (if (((((t354 ++ (⟨#[32]⟩ : ByteArray)) ++ t355) ++ (⟨#[32]⟩ : ByteArray)) ++ x3) ++ (⟨#[32]⟩ : ByteArray)).size + t356.size ≤ 9223372036854775807 then (if ((((((t354 ++ (⟨#[32]⟩ : ByteArray)) ++ t355) ++ (⟨#[32]⟩ : ByteArray)) ++ x3) ++ (⟨#[32]⟩ : ByteArray)) ++ t356).size + 1 ≤ 9223372036854775807 then ((crossbuckref03_PrintRange.f k x353007 x353008).bind fun t357 => (if (((((((t354 ++ (⟨#[32]⟩ : ByteArray)) ++ t355) ++ (⟨#[32]⟩ : ByteArray)) ++ x3) ++ (⟨#[32]⟩ : ByteArray)) ++ t356) ++ (⟨#[32]⟩ : ByteArray)).size + t357.size ≤ 9223372036854775807 then (some ((((((((t354 ++ (⟨#[32]⟩ : ByteArray)) ++ t355) ++ (⟨#[32]⟩ : ByteArray)) ++ x3) ++ (⟨#[32]⟩ : ByteArray)) ++ t356) ++ (⟨#[32]⟩ : ByteArray)) ++ t357)) else (none))) else (none)) else (none))) else (none)) else (none)) else (none)) else (none))) else (none))
def crossbuckref04_Print.f (k : Nat) (a0_0 : Int) (a0_1 : Int) (a0_2 : Int) (a0_3 : Int) (a0_4 : Int) (a0_5 : Int) (a0_6 : Int) (a0_7 : Int) (a0_8 : Int) : Option (ByteArray) := if a0_4 ≥ 0 then ((crossbuckref02_Digits.f k a0_4).bind fun t353 => (crossbuckref04_Print.j0 k t353 a0_0 a0_1 a0_2 a0_3 a0_4 a0_5 a0_6 a0_7 a0_8)) else (crossbuckref04_Print.j0 k (⟨#[97, 110, 121]⟩ : ByteArray) a0_0 a0_1 a0_2 a0_3 a0_4 a0_5 a0_6 a0_7 a0_8)
def crossbuckref04_Print.T4 : Bool × List (List Nat × List Nat) := (true, [([], []), ([0], [0]), ([1], [1]), ([2], [2]), ([], []), ([4], [4]), ([5, 2], [5]), ([3, 6], [3, 6]), ([7], [7]), ([], []), ([8, 9], [8, 9]), ([10], [10]), ([], []), ([12], [12]), ([13, 6], [13]), ([11, 14], [11, 14]), ([15], [15]), ([], []), ([17], [17]), ([18, 14], [18]), ([16, 19], [16, 19]), ([20, 19, 0, 1, 2, 3, 4, 5, 6, 7, 8, 9, 10, 11, 12, 13, 14, 15, 16, 17, 18, 19, 20], [20])])
def crossbuckref04_Print.B4 : List Nat := [0, 1, 3, 7, 0, 16, 55, 127, 255, 0, 1023, 2047, 0, 4096, 12407, 32767, 65535, 0, 131072, 422007, 1048575, 2097151]
theorem crossbuckref04_Print.tab4 : rtab .any (opsOf Tryd.f67 4) = crossbuckref04_Print.T4 := by kernel_rfl
theorem crossbuckref04_Print.bits4 : waitsOk crossbuckref04_Print.T4.2 crossbuckref04_Print.B4 = true := by kernel_rfl
set_option maxHeartbeats 8000000 in
set_option maxRecDepth 100000 in
theorem crossbuckref04_Print.calls (k : Nat) (a0_0 : Int) (a0_1 : Int) (a0_2 : Int) (a0_3 : Int) (a0_4 : Int) (a0_5 : Int) (a0_6 : Int) (a0_7 : Int) (a0_8 : Int) (r : ByteArray) (w : World) (h : crossbuckref04_Print.f k a0_0 a0_1 a0_2 a0_3 a0_4 a0_5 a0_6 a0_7 a0_8 = some r) :
  Calls Tryd.prog 67 #[.agg #[.int .u32 a0_0, .int .i64 a0_1, .int .u32 a0_2, .int .i64 a0_3, .int .i64 a0_4, .int .u16 a0_5, .int .u16 a0_6, .int .u16 a0_7, .int .u16 a0_8]] w fun e w' => e = .returned (.string r) ∧ Below w.heap.size w w' := by
 have hu77 := Tryd.underlying77;have hu42 := Tryd.underlying42;have hu61 := Tryd.underlying61;have HB := Aside0.mk (Below.refl w.heap.size w)
 have H : (if a0_4 ≥ 0 then ((crossbuckref02_Digits.f k a0_4).bind fun t353 => (crossbuckref04_Print.j0 k t353 a0_0 a0_1 a0_2 a0_3 a0_4 a0_5 a0_6 a0_7 a0_8)) else (crossbuckref04_Print.j0 k (⟨#[97, 110, 121]⟩ : ByteArray) a0_0 a0_1 a0_2 a0_3 a0_4 a0_5 a0_6 a0_7 a0_8)) = some r := h
 clear h;have HC2 := Aside0.mk H;clear H;go_enter Tryd.func67, Tryd.ntmps67
 go_upto_if 6 with (first | ((with_reducible refine gate_dst (N := 1) rfl ?_); refine box_event rfl (N := 1) rfl (cs := #[.int .u32 a0_0, .int .i64 a0_1, .int .u32 a0_2, .int .i64 a0_3, .int .i64 a0_4, .int .u16 a0_5, .int .u16 a0_6, .int .u16 a0_7, .int .u16 a0_8]) (t := 77) gs ?_; intro gb352 hg w3 hbox hb; have n0_ := Aside0.mk (below_step (bel HB) hb); have n1_ := Aside0.mk (hbox); have n2_ := Aside0.mk ((by rw [hg]; exact (below_size (bel HB)) : w.heap.size ≤ gb352)); have n3_ := Aside0.mk ((by rw [hg]; exact (below_size (bel HB)) : w.heap.size ≤ gb352)); clear HB; have HB := n0_; have BK352 := n1_; have GW352 := n2_; have GE352 := n3_; clear n0_ n1_ n2_ n3_; clear hb hbox hg; have hcz4 := cz9 BK352.out))
 (try simp only [Act.put, setIfInBounds_toArray, set_cons_zero, set_cons_succ])
 go_cut [3] (fun v3 wc => ∃ (kq : Nat) (x3_1 : ByteArray), v3 = .string x3_1 ∧ Aside0 (crossbuckref04_Print.j0 kq x3_1 a0_0 a0_1 a0_2 a0_3 a0_4 a0_5 a0_6 a0_7 a0_8 = some r) ∧ Aside0 (kq ≤ k) ∧ Aside0 (wc.heap[gb352]? = some (.cells #[.int .u32 a0_0, .int .i64 a0_1, .int .u32 a0_2, .int .i64 a0_3, .int .i64 a0_4, .int .u16 a0_5, .int .u16 a0_6, .int .u16 a0_7, .int .u16 a0_8] 77 (0, 0))) ∧ Aside0 (Below w.heap.size w wc))
 case first =>
  have H := HC2.out;clear HC2
  by_cases c5 : a0_4 ≥ 0
  ·rw [if_pos c5] at H
   have c5b0 : decide (0 ≤ a0_4) = true := decide_eq_true c5;clear c5;(first | rw [c5b0] | (simp only [i64_w, i32_w]; rw [c5b0]) | skip);replace H := Option.bind_eq_some_iff.mp H;obtain ⟨t353, A60, H⟩ := H;replace H : (crossbuckref04_Print.j0 k t353 a0_0 a0_1 a0_2 a0_3 a0_4 a0_5 a0_6 a0_7 a0_8) = some r := H;have A6 := Aside0.mk A60;clear A60;have H' := Aside0.mk H;clear H;have hcz7 := cz9 BK352.out
   go_wp2_with (first | ((with_reducible refine gate_callee (f := 99) rfl ?_); refine goesL_ (some 9) rfl rfl Tryd.func99 (by kernel_rfl) rfl #[.int .i64 a0_4] rfl aok ?_; (with_reducible refine (crossbuckref02_Digits.calls k a0_4 t353 _ A6.out).mono ?_); rintro e w8 ⟨rfl, hb⟩; refine ⟨_, rfl, ?_⟩; have n0_ := Aside0.mk (bb BK352.out hb); have n1_ := Aside0.mk (below_step (bel HB) hb); clear BK352; clear HB; have BK352 := n0_; have HB := n1_; clear n0_ n1_; (try clear hb); (try clear hb2); (try clear hk); (try clear hi)))
   go_meet
   case rel => exact ⟨_, (t353), (by first | rfl | (simp; done) | (simp [*]; done)), H', ⟨by first | omega | exact Nat.le_refl _⟩, ⟨by (with_reducible repeat (first | refine blk_drewN ?_ _ | refine blk_drew ?_ | refine blk_alloc ?_ _)); exact BK352.out⟩, ⟨by repeat (first | (with_reducible first | exact HB.out | apply below_alloc | apply pw_below_drewN | apply below_drew1 | refine below_set ?_ GE352.out) | exact HB.out)⟩⟩
  ·rw [if_neg c5] at H
   have c5b0 : decide (0 ≤ a0_4) = false := decide_eq_false c5;clear c5;(first | rw [c5b0] | (simp only [i64_w, i32_w]; rw [c5b0]) | skip);have H' := Aside0.mk H;clear H;go_wp2;go_meet
   case rel => exact ⟨_, ((⟨#[97, 110, 121]⟩ : ByteArray)), (by first | rfl | (simp; done) | (simp [*]; done)), H', ⟨by first | omega | exact Nat.le_refl _⟩, ⟨by (with_reducible repeat (first | refine blk_drewN ?_ _ | refine blk_drew ?_ | refine blk_alloc ?_ _)); exact BK352.out⟩, ⟨by repeat (first | (with_reducible first | exact HB.out | apply below_alloc | apply pw_below_drewN | apply below_drew1 | refine below_set ?_ GE352.out) | exact HB.out)⟩⟩
 case rest =>
  clear HC2
  try clear p2
  try clear c5
  try clear c5b0
  try clear c6
  try clear hcz4
  try clear hcz7
  obtain ⟨kq, x3_1, rfl, HA, HJ1, BK352, HB⟩ := hcut
  cases kq with
  | zero => exact absurd HA.out (by simp [crossbuckref04_Print.j0])
  | succ kj1 =>
   have H := HA.out;clear HA;simp only [crossbuckref04_Print.j0] at H;replace H := Option.bind_eq_some_iff.mp H;obtain ⟨t354, A90, H⟩ := H
   replace H : (if t354.size + 1 ≤ 9223372036854775807 then ((crossbuckref03_Print.f kj1 a0_2 a0_3).bind fun t355 => (if (t354 ++ (⟨#[32]⟩ : ByteArray)).size + t355.size ≤ 9223372036854775807 then (if ((t354 ++ (⟨#[32]⟩ : ByteArray)) ++ t355).size + 1 ≤ 9223372036854775807 then (if (((t354 ++ (⟨#[32]⟩ : ByteArray)) ++ t355) ++ (⟨#[32]⟩ : ByteArray)).size + x3_1.size ≤ 9223372036854775807 then (if ((((t354 ++ (⟨#[32]⟩ : ByteArray)) ++ t355) ++ (⟨#[32]⟩ : ByteArray)) ++ x3_1).size + 1 ≤ 9223372036854775807 then ((crossbuckref03_PrintRange.f kj1 a0_5 a0_6).bind fun t356 => (if (((((t354 ++ (⟨#[32]⟩ : ByteArray)) ++ t355) ++ (⟨#[32]⟩ : ByteArray)) ++ x3_1) ++ (⟨#[32]⟩ : ByteArray)).size + t356.size ≤ 9223372036854775807 then (if ((((((t354 ++ (⟨#[32]⟩ : ByteArray)) ++ t355) ++ (⟨#[32]⟩ : ByteArray)) ++ x3_1) ++ (⟨#[32]⟩ : ByteArray)) ++ t356).size + 1 ≤ 9223372036854775807 then ((crossbuckref03_PrintRange.f kj1 a0_7 a0_8).bind fun t357 => (if (((((((t354 ++ (⟨#[32]⟩ : ByteArray)) ++ t355) ++ (⟨#[32]⟩ : ByteArray)) ++ x3_1) ++ (⟨#[32]⟩ : ByteArray)) ++ t356) ++ (⟨#[32]⟩ : ByteArray)).size + t357.size ≤ 9223372036854775807 then (some ((((((((t354 ++ (⟨#[32]⟩ : ByteArray)) ++ t355) ++ (⟨#[32]⟩ : ByteArray)) ++ x3_1) ++ (⟨#[32]⟩ : ByteArray)) ++ t356) ++ (⟨#[32]⟩ : ByteArray)) ++ t357)) else (none))) else (none)) else (none))) else (none)) else (none)) else (none)) else (none))) else (none)) = some r := H
   have A9 := Aside0.mk A90;clear A90
   by_cases c10 : t354.size + 1 ≤ 9223372036854775807
   ·rw [if_pos c10] at H
    have c10b0 := eq_true c10;have c10b1 : decide (t354.size + 1 ≤ 9223372036854775807) = true := decide_eq_true c10
    try have c10b2 : (9223372036854775807 < t354.size + 1) = False := eq_false (Nat.not_lt.2 c10)
    replace H := Option.bind_eq_some_iff.mp H;obtain ⟨t355, A110, H⟩ := H
    replace H : (if (t354 ++ (⟨#[32]⟩ : ByteArray)).size + t355.size ≤ 9223372036854775807 then (if ((t354 ++ (⟨#[32]⟩ : ByteArray)) ++ t355).size + 1 ≤ 9223372036854775807 then (if (((t354 ++ (⟨#[32]⟩ : ByteArray)) ++ t355) ++ (⟨#[32]⟩ : ByteArray)).size + x3_1.size ≤ 9223372036854775807 then (if ((((t354 ++ (⟨#[32]⟩ : ByteArray)) ++ t355) ++ (⟨#[32]⟩ : ByteArray)) ++ x3_1).size + 1 ≤ 9223372036854775807 then ((crossbuckref03_PrintRange.f kj1 a0_5 a0_6).bind fun t356 => (if (((((t354 ++ (⟨#[32]⟩ : ByteArray)) ++ t355) ++ (⟨#[32]⟩ : ByteArray)) ++ x3_1) ++ (⟨#[32]⟩ : ByteArray)).size + t356.size ≤ 9223372036854775807 then (if ((((((t354 ++ (⟨#[32]⟩ : ByteArray)) ++ t355) ++ (⟨#[32]⟩ : ByteArray)) ++ x3_1) ++ (⟨#[32]⟩ : ByteArray)) ++ t356).size + 1 ≤ 9223372036854775807 then ((crossbuckref03_PrintRange.f kj1 a0_7 a0_8).bind fun t357 => (if (((((((t354 ++ (⟨#[32]⟩ : ByteArray)) ++ t355) ++ (⟨#[32]⟩ : ByteArray)) ++ x3_1) ++ (⟨#[32]⟩ : ByteArray)) ++ t356) ++ (⟨#[32]⟩ : ByteArray)).size + t357.size ≤ 9223372036854775807 then (some ((((((((t354 ++ (⟨#[32]⟩ : ByteArray)) ++ t355) ++ (⟨#[32]⟩ : ByteArray)) ++ x3_1) ++ (⟨#[32]⟩ : ByteArray)) ++ t356) ++ (⟨#[32]⟩ : ByteArray)) ++ t357)) else (none))) else (none)) else (none))) else (none)) else (none)) else (none)) else (none)) = some r := H
    have A11 := Aside0.mk A110;clear A110
    by_cases c12 : (t354 ++ (⟨#[32]⟩ : ByteArray)).size + t355.size ≤ 9223372036854775807
    ·rw [if_pos c12] at H
     have c12b0 := eq_true c12;have c12b1 : decide ((t354 ++ (⟨#[32]⟩ : ByteArray)).size + t355.size ≤ 9223372036854775807) = true := decide_eq_true c12
     try have c12b2 : (9223372036854775807 < (t354 ++ (⟨#[32]⟩ : ByteArray)).size + t355.size) = False := eq_false (Nat.not_lt.2 c12)
     try have c12b3 := c12b2
     try simp only [ByteArray.size_append, Hand.lit_size, List.length_cons, List.length_nil, Nat.zero_add, Nat.reduceAdd] at c12b3
     by_cases c13 : ((t354 ++ (⟨#[32]⟩ : ByteArray)) ++ t355).size + 1 ≤ 9223372036854775807
     ·rw [if_pos c13] at H
      have c13b0 := eq_true c13;have c13b1 : decide (((t354 ++ (⟨#[32]⟩ : ByteArray)) ++ t355).size + 1 ≤ 9223372036854775807) = true := decide_eq_true c13
      try have c13b2 : (9223372036854775807 < ((t354 ++ (⟨#[32]⟩ : ByteArray)) ++ t355).size + 1) = False := eq_false (Nat.not_lt.2 c13)
      try have c13b3 := c13b2
      try simp only [ByteArray.size_append, Hand.lit_size, List.length_cons, List.length_nil, Nat.zero_add, Nat.reduceAdd] at c13b3
      by_cases c14 : (((t354 ++ (⟨#[32]⟩ : ByteArray)) ++ t355) ++ (⟨#[32]⟩ : ByteArray)).size + x3_1.size ≤ 9223372036854775807
      ·rw [if_pos c14] at H
       have c14b0 := eq_true c14;have c14b1 : decide ((((t354 ++ (⟨#[32]⟩ : ByteArray)) ++ t355) ++ (⟨#[32]⟩ : ByteArray)).size + x3_1.size ≤ 9223372036854775807) = true := decide_eq_true c14
       try have c14b2 : (9223372036854775807 < (((t354 ++ (⟨#[32]⟩ : ByteArray)) ++ t355) ++ (⟨#[32]⟩ : ByteArray)).size + x3_1.size) = False := eq_false (Nat.not_lt.2 c14)
       try have c14b3 := c14b2
       try simp only [ByteArray.size_append, Hand.lit_size, List.length_cons, List.length_nil, Nat.zero_add, Nat.reduceAdd] at c14b3
       by_cases c15 : ((((t354 ++ (⟨#[32]⟩ : ByteArray)) ++ t355) ++ (⟨#[32]⟩ : ByteArray)) ++ x3_1).size + 1 ≤ 9223372036854775807
       ·rw [if_pos c15] at H
        have c15b0 := eq_true c15;have c15b1 : decide (((((t354 ++ (⟨#[32]⟩ : ByteArray)) ++ t355) ++ (⟨#[32]⟩ : ByteArray)) ++ x3_1).size + 1 ≤ 9223372036854775807) = true := decide_eq_true c15
        try have c15b2 : (9223372036854775807 < ((((t354 ++ (⟨#[32]⟩ : ByteArray)) ++ t355) ++ (⟨#[32]⟩ : ByteArray)) ++ x3_1).size + 1) = False := eq_false (Nat.not_lt.2 c15)
        try have c15b3 := c15b2
        try simp only [ByteArray.size_append, Hand.lit_size, List.length_cons, List.length_nil, Nat.zero_add, Nat.reduceAdd] at c15b3
        replace H := Option.bind_eq_some_iff.mp H;obtain ⟨t356, A160, H⟩ := H
        replace H : (if (((((t354 ++ (⟨#[32]⟩ : ByteArray)) ++ t355) ++ (⟨#[32]⟩ : ByteArray)) ++ x3_1) ++ (⟨#[32]⟩ : ByteArray)).size + t356.size ≤ 9223372036854775807 then (if ((((((t354 ++ (⟨#[32]⟩ : ByteArray)) ++ t355) ++ (⟨#[32]⟩ : ByteArray)) ++ x3_1) ++ (⟨#[32]⟩ : ByteArray)) ++ t356).size + 1 ≤ 9223372036854775807 then ((crossbuckref03_PrintRange.f kj1 a0_7 a0_8).bind fun t357 => (if (((((((t354 ++ (⟨#[32]⟩ : ByteArray)) ++ t355) ++ (⟨#[32]⟩ : ByteArray)) ++ x3_1) ++ (⟨#[32]⟩ : ByteArray)) ++ t356) ++ (⟨#[32]⟩ : ByteArray)).size + t357.size ≤ 9223372036854775807 then (some ((((((((t354 ++ (⟨#[32]⟩ : ByteArray)) ++ t355) ++ (⟨#[32]⟩ : ByteArray)) ++ x3_1) ++ (⟨#[32]⟩ : ByteArray)) ++ t356) ++ (⟨#[32]⟩ : ByteArray)) ++ t357)) else (none))) else (none)) else (none)) = some r := H
        have A16 := Aside0.mk A160;clear A160
        by_cases c17 : (((((t354 ++ (⟨#[32]⟩ : ByteArray)) ++ t355) ++ (⟨#[32]⟩ : ByteArray)) ++ x3_1) ++ (⟨#[32]⟩ : ByteArray)).size + t356.size ≤ 9223372036854775807
        ·rw [if_pos c17] at H
         have c17b0 := eq_true c17;have c17b1 : decide ((((((t354 ++ (⟨#[32]⟩ : ByteArray)) ++ t355) ++ (⟨#[32]⟩ : ByteArray)) ++ x3_1) ++ (⟨#[32]⟩ : ByteArray)).size + t356.size ≤ 9223372036854775807) = true := decide_eq_true c17
         try have c17b2 : (9223372036854775807 < (((((t354 ++ (⟨#[32]⟩ : ByteArray)) ++ t355) ++ (⟨#[32]⟩ : ByteArray)) ++ x3_1) ++ (⟨#[32]⟩ : ByteArray)).size + t356.size) = False := eq_false (Nat.not_lt.2 c17)
         try have c17b3 := c17b2
         try simp only [ByteArray.size_append, Hand.lit_size, List.length_cons, List.length_nil, Nat.zero_add, Nat.reduceAdd] at c17b3
         by_cases c18 : ((((((t354 ++ (⟨#[32]⟩ : ByteArray)) ++ t355) ++ (⟨#[32]⟩ : ByteArray)) ++ x3_1) ++ (⟨#[32]⟩ : ByteArray)) ++ t356).size + 1 ≤ 9223372036854775807
         ·rw [if_pos c18] at H
          have c18b0 := eq_true c18;have c18b1 : decide (((((((t354 ++ (⟨#[32]⟩ : ByteArray)) ++ t355) ++ (⟨#[32]⟩ : ByteArray)) ++ x3_1) ++ (⟨#[32]⟩ : ByteArray)) ++ t356).size + 1 ≤ 9223372036854775807) = true := decide_eq_true c18
          try have c18b2 : (9223372036854775807 < ((((((t354 ++ (⟨#[32]⟩ : ByteArray)) ++ t355) ++ (⟨#[32]⟩ : ByteArray)) ++ x3_1) ++ (⟨#[32]⟩ : ByteArray)) ++ t356).size + 1) = False := eq_false (Nat.not_lt.2 c18)
          try have c18b3 := c18b2
          try simp only [ByteArray.size_append, Hand.lit_size, List.length_cons, List.length_nil, Nat.zero_add, Nat.reduceAdd] at c18b3
          replace H := Option.bind_eq_some_iff.mp H;obtain ⟨t357, A190, H⟩ := H;replace H : (if (((((((t354 ++ (⟨#[32]⟩ : ByteArray)) ++ t355) ++ (⟨#[32]⟩ : ByteArray)) ++ x3_1) ++ (⟨#[32]⟩ : ByteArray)) ++ t356) ++ (⟨#[32]⟩ : ByteArray)).size + t357.size ≤ 9223372036854775807 then (some ((((((((t354 ++ (⟨#[32]⟩ : ByteArray)) ++ t355) ++ (⟨#[32]⟩ : ByteArray)) ++ x3_1) ++ (⟨#[32]⟩ : ByteArray)) ++ t356) ++ (⟨#[32]⟩ : ByteArray)) ++ t357)) else (none)) = some r := H;have A19 := Aside0.mk A190;clear A190
          by_cases c20 : (((((((t354 ++ (⟨#[32]⟩ : ByteArray)) ++ t355) ++ (⟨#[32]⟩ : ByteArray)) ++ x3_1) ++ (⟨#[32]⟩ : ByteArray)) ++ t356) ++ (⟨#[32]⟩ : ByteArray)).size + t357.size ≤ 9223372036854775807
          ·rw [if_pos c20] at H
           have c20b0 := eq_true c20;have c20b1 : decide ((((((((t354 ++ (⟨#[32]⟩ : ByteArray)) ++ t355) ++ (⟨#[32]⟩ : ByteArray)) ++ x3_1) ++ (⟨#[32]⟩ : ByteArray)) ++ t356) ++ (⟨#[32]⟩ : ByteArray)).size + t357.size ≤ 9223372036854775807) = true := decide_eq_true c20
           try have c20b2 : (9223372036854775807 < (((((((t354 ++ (⟨#[32]⟩ : ByteArray)) ++ t355) ++ (⟨#[32]⟩ : ByteArray)) ++ x3_1) ++ (⟨#[32]⟩ : ByteArray)) ++ t356) ++ (⟨#[32]⟩ : ByteArray)).size + t357.size) = False := eq_false (Nat.not_lt.2 c20)
           try have c20b3 := c20b2
           try simp only [ByteArray.size_append, Hand.lit_size, List.length_cons, List.length_nil, Nat.zero_add, Nat.reduceAdd] at c20b3
           obtain rfl := Option.some.inj H
           try go_wp2
           replace BK352 := Aside0.mk (blk_drew BK352.out);replace HB := Aside0.mk (below_drew1 HB.out)
           refine start_ (n := 22) (S := fun w' => w'.cell? ⟨gb352, 0, none⟩ = some (.int .u32 a0_0) ∧ w'.cell? ⟨gb352, 1, none⟩ = some (.int .i64 a0_1) ∧ w'.cell? ⟨gb352, 2, none⟩ = some (.int .u32 a0_2) ∧ w'.cell? ⟨gb352, 3, none⟩ = some (.int .i64 a0_3) ∧ w'.cell? ⟨gb352, 4, none⟩ = some (.int .i64 a0_4) ∧ w'.cell? ⟨gb352, 5, none⟩ = some (.int .u16 a0_5) ∧ w'.cell? ⟨gb352, 6, none⟩ = some (.int .u16 a0_6) ∧ w'.cell? ⟨gb352, 7, none⟩ = some (.int .u16 a0_7) ∧ w'.cell? ⟨gb352, 8, none⟩ = some (.int .u16 a0_8)) (ds := []) #[F,F,F,F,F,F,F,F,F,F,F,F,F,F,F,F,F,F,F,F,F,F] (by kernel_rfl) rfl rfl ⟨(blk_cell BK352.out 0).trans rfl, (blk_cell BK352.out 1).trans rfl, (blk_cell BK352.out 2).trans rfl, (blk_cell BK352.out 3).trans rfl, (blk_cell BK352.out 4).trans rfl, (blk_cell BK352.out 5).trans rfl, (blk_cell BK352.out 6).trans rfl, (blk_cell BK352.out 7).trans rfl, (blk_cell BK352.out 8).trans rfl⟩ (fun hHeld => ?_); refine with_tabW crossbuckref04_Print.tab4 crossbuckref04_Print.bits4 (fun HT_ HW_ => ?_)
           generalize wc.drew = w21 at BK352 HB hHeld ⊢
           refine pure_ (i := 0) (N := some 10) (v := ?_) (a' := ?_) #[T,F,F,F,F,F,F,F,F,F,F,F,F,F,F,F,F,F,F,F,F,F] rfl rfl (any_of HT_.out (by kernel_rfl)) (fun _ _ _ h => h) (Or.inl ⟨by rfl, ?_⟩) ?_ ?_
           rotate_left;·intro w';go_simp;with_reducible rfl
           rotate_left;·simp only [Act.put, setIfInBounds_toArray, set_cons_zero, set_cons_succ, i64_w, i32_w];rfl
           refine pure_ (i := 4) (N := some 14) (v := ?_) (a' := ?_) #[T,F,F,F,T,F,F,F,F,F,F,F,F,F,F,F,F,F,F,F,F,F] rfl rfl (any_of HT_.out (by kernel_rfl)) (fun _ _ _ h => h) (Or.inl ⟨by rfl, ?_⟩) ?_ ?_
           rotate_left;·intro w';go_simp;with_reducible rfl
           rotate_left;·simp only [Act.put, setIfInBounds_toArray, set_cons_zero, set_cons_succ, i64_w, i32_w];rfl
           refine pure_ (i := 9) (N := some 19) (v := ?_) (a' := ?_) #[T,F,F,F,T,F,F,F,F,T,F,F,F,F,F,F,F,F,F,F,F,F] rfl rfl (any_of HT_.out (by kernel_rfl)) (fun _ _ _ h => h) (Or.inl ⟨by rfl, ?_⟩) ?_ ?_
           rotate_left;·intro w';go_simp;with_reducible rfl
           rotate_left;·simp only [Act.put, setIfInBounds_toArray, set_cons_zero, set_cons_succ, i64_w, i32_w];rfl
           refine pure_ (i := 12) (N := some 22) (v := ?_) (a' := ?_) #[T,F,F,F,T,F,F,F,F,T,F,F,T,F,F,F,F,F,F,F,F,F] rfl rfl (any_of HT_.out (by kernel_rfl)) (fun _ _ _ h => h) (Or.inl ⟨by rfl, ?_⟩) ?_ ?_
           rotate_left;·intro w';go_simp;with_reducible rfl
           rotate_left;·simp only [Act.put, setIfInBounds_toArray, set_cons_zero, set_cons_succ, i64_w, i32_w];rfl
           refine pure_ (i := 17) (N := some 27) (v := ?_) (a' := ?_) #[T,F,F,F,T,F,F,F,F,T,F,F,T,F,F,F,F,T,F,F,F,F] rfl rfl (any_of HT_.out (by kernel_rfl)) (fun _ _ _ h => h) (Or.inl ⟨by rfl, ?_⟩) ?_ ?_
           rotate_left;·intro w';go_simp;with_reducible rfl
           rotate_left;·simp only [Act.put, setIfInBounds_toArray, set_cons_zero, set_cons_succ, i64_w, i32_w];rfl
           refine take_ (i := 1) (N := some 11) (v := ?_) (a' := ?_) #[T,T,F,F,T,F,F,F,F,T,F,F,T,F,F,F,F,T,F,F,F,F] rfl rfl (take_ofW HT_.out HW_.out (by kernel_rfl)) (fun _ _ _ h => h) (Or.inl ⟨by rfl, ?_⟩) hHeld ?_ ?_
           rotate_left
           ·rintro w' ⟨s0, s1, s2, s3, s4, s5, s6, s7, s8⟩
            go_simp;with_reducible rfl
           rotate_left;·simp only [Act.put, setIfInBounds_toArray, set_cons_zero, set_cons_succ, i64_w, i32_w];rfl
           refine take_ (i := 5) (N := some 15) (v := ?_) (a' := ?_) #[T,T,F,F,T,T,F,F,F,T,F,F,T,F,F,F,F,T,F,F,F,F] rfl rfl (take_ofW HT_.out HW_.out (by kernel_rfl)) (fun _ _ _ h => h) (Or.inl ⟨by rfl, ?_⟩) hHeld ?_ ?_
           rotate_left
           ·rintro w' ⟨s0, s1, s2, s3, s4, s5, s6, s7, s8⟩
            go_simp;with_reducible rfl
           rotate_left;·simp only [Act.put, setIfInBounds_toArray, set_cons_zero, set_cons_succ, i64_w, i32_w];rfl
           refine take_ (i := 13) (N := some 23) (v := ?_) (a' := ?_) #[T,T,F,F,T,T,F,F,F,T,F,F,T,T,F,F,F,T,F,F,F,F] rfl rfl (take_ofW HT_.out HW_.out (by kernel_rfl)) (fun _ _ _ h => h) (Or.inl ⟨by rfl, ?_⟩) hHeld ?_ ?_
           rotate_left
           ·rintro w' ⟨s0, s1, s2, s3, s4, s5, s6, s7, s8⟩
            go_simp;with_reducible rfl
           rotate_left;·simp only [Act.put, setIfInBounds_toArray, set_cons_zero, set_cons_succ, i64_w, i32_w];rfl
           refine take_ (i := 18) (N := some 28) (v := ?_) (a' := ?_) #[T,T,F,F,T,T,F,F,F,T,F,F,T,T,F,F,F,T,T,F,F,F] rfl rfl (take_ofW HT_.out HW_.out (by kernel_rfl)) (fun _ _ _ h => h) (Or.inl ⟨by rfl, ?_⟩) hHeld ?_ ?_
           rotate_left
           ·rintro w' ⟨s0, s1, s2, s3, s4, s5, s6, s7, s8⟩
            go_simp;with_reducible rfl
           rotate_left;·simp only [Act.put, setIfInBounds_toArray, set_cons_zero, set_cons_succ, i64_w, i32_w];rfl
           refine one_ (i := 2) (N := some 12) #[T,T,T,F,T,T,F,F,F,T,F,F,T,T,F,F,F,T,T,F,F,F] rfl rfl (one_of HT_.out (by kernel_rfl)) (by decide) (fun K hK => ?_)
           refine goes_ Tryd.func63 (by kernel_rfl) rfl #[.agg #[.int .u32 a0_0, .int .i64 a0_1]] (by rfl) rfl rfl aok ?_
           with_reducible refine (crossbuckref03_Print.calls kj1 a0_0 a0_1 t354 _ A9.out).mono ?_;rintro e w22 ⟨rfl, hb⟩;refine ⟨_, rfl, ?_⟩;replace BK352 := Aside0.mk (bb BK352.out hb)
           replace HB := Aside0.mk (below_step (bel HB) hb)
           (try clear hb);(try clear hb2);(try clear hk);(try clear hi)
           refine hK.out _ _ ⟨(blk_cell BK352.out 0).trans rfl, (blk_cell BK352.out 1).trans rfl, (blk_cell BK352.out 2).trans rfl, (blk_cell BK352.out 3).trans rfl, (blk_cell BK352.out 4).trans rfl, (blk_cell BK352.out 5).trans rfl, (blk_cell BK352.out 6).trans rfl, (blk_cell BK352.out 7).trans rfl, (blk_cell BK352.out 8).trans rfl⟩ (fun hHeld => ?_)
           clear hK K
           refine norm_ (a' := ?_) ?_ ?_;rotate_left;·show Act.put _ (some 12) _ = _;simp only [Act.put, setIfInBounds_toArray, set_cons_zero, set_cons_succ, i64_w, i32_w];rfl
           refine pure_ (i := 3) (N := some 13) (v := ?_) (a' := ?_) #[T,T,T,T,T,T,F,F,F,T,F,F,T,T,F,F,F,T,T,F,F,F] rfl rfl (any_of HT_.out (by kernel_rfl)) (fun _ _ _ h => h) (Or.inl ⟨by rfl, ?_⟩) ?_ ?_
           rotate_left;·intro w';go_simp;with_reducible rfl
           rotate_left;·simp only [Act.put, setIfInBounds_toArray, set_cons_zero, set_cons_succ, i64_w, i32_w];rfl
           refine one_ (i := 6) (N := some 16) #[T,T,T,T,T,T,T,F,F,T,F,F,T,T,F,F,F,T,T,F,F,F] rfl rfl (one_of HT_.out (by kernel_rfl)) (by decide) (fun K hK => ?_)
           refine goes_ Tryd.func63 (by kernel_rfl) rfl #[.agg #[.int .u32 a0_2, .int .i64 a0_3]] (by rfl) rfl rfl aok ?_
           with_reducible refine (crossbuckref03_Print.calls kj1 a0_2 a0_3 t355 _ A11.out).mono ?_;rintro e w23 ⟨rfl, hb⟩;refine ⟨_, rfl, ?_⟩;replace BK352 := Aside0.mk (bb BK352.out hb)
           replace HB := Aside0.mk (below_step (bel HB) hb)
           (try clear hb);(try clear hb2);(try clear hk);(try clear hi)
           refine hK.out _ _ ⟨(blk_cell BK352.out 0).trans rfl, (blk_cell BK352.out 1).trans rfl, (blk_cell BK352.out 2).trans rfl, (blk_cell BK352.out 3).trans rfl, (blk_cell BK352.out 4).trans rfl, (blk_cell BK352.out 5).trans rfl, (blk_cell BK352.out 6).trans rfl, (blk_cell BK352.out 7).trans rfl, (blk_cell BK352.out 8).trans rfl⟩ (fun hHeld => ?_)
           clear hK K
           refine norm_ (a' := ?_) ?_ ?_;rotate_left;·show Act.put _ (some 16) _ = _;simp only [Act.put, setIfInBounds_toArray, set_cons_zero, set_cons_succ, i64_w, i32_w];rfl
           refine pure_ (i := 7) (N := some 17) (v := ?_) (a' := ?_) #[T,T,T,T,T,T,T,T,F,T,F,F,T,T,F,F,F,T,T,F,F,F] rfl rfl (any_of HT_.out (by kernel_rfl)) (fun _ _ _ h => h) (Or.inl ⟨by rfl, ?_⟩) ?_ ?_
           rotate_left;·intro w';go_simp;with_reducible rfl
           rotate_left;·simp only [Act.put, setIfInBounds_toArray, set_cons_zero, set_cons_succ, i64_w, i32_w];rfl
           refine pure_ (i := 8) (N := some 18) (v := ?_) (a' := ?_) #[T,T,T,T,T,T,T,T,T,T,F,F,T,T,F,F,F,T,T,F,F,F] rfl rfl (any_of HT_.out (by kernel_rfl)) (fun _ _ _ h => h) (Or.inl ⟨by rfl, ?_⟩) ?_ ?_
           rotate_left;·intro w';go_simp;with_reducible rfl
           rotate_left;·simp only [Act.put, setIfInBounds_toArray, set_cons_zero, set_cons_succ, i64_w, i32_w];rfl
           refine pure_ (i := 10) (N := some 20) (v := ?_) (a' := ?_) #[T,T,T,T,T,T,T,T,T,T,T,F,T,T,F,F,F,T,T,F,F,F] rfl rfl (any_of HT_.out (by kernel_rfl)) (fun _ _ _ h => h) (Or.inl ⟨by rfl, ?_⟩) ?_ ?_
           rotate_left;·intro w';go_simp;with_reducible rfl
           rotate_left;·simp only [Act.put, setIfInBounds_toArray, set_cons_zero, set_cons_succ, i64_w, i32_w];rfl
           refine pure_ (i := 11) (N := some 21) (v := ?_) (a' := ?_) #[T,T,T,T,T,T,T,T,T,T,T,T,T,T,F,F,F,T,T,F,F,F] rfl rfl (any_of HT_.out (by kernel_rfl)) (fun _ _ _ h => h) (Or.inl ⟨by rfl, ?_⟩) ?_ ?_
           rotate_left;·intro w';go_simp;with_reducible rfl
           rotate_left;·simp only [Act.put, setIfInBounds_toArray, set_cons_zero, set_cons_succ, i64_w, i32_w];rfl
           refine one_ (i := 14) (N := some 24) #[T,T,T,T,T,T,T,T,T,T,T,T,T,T,T,F,F,T,T,F,F,F] rfl rfl (one_of HT_.out (by kernel_rfl)) (by decide) (fun K hK => ?_)
           refine goes_ Tryd.func60 (by kernel_rfl) rfl #[.agg #[.int .u16 a0_5, .int .u16 a0_6]] (by rfl) rfl rfl aok ?_
           with_reducible refine (crossbuckref03_PrintRange.calls kj1 a0_5 a0_6 t356 _ A16.out).mono ?_;rintro e w24 ⟨rfl, hb⟩;refine ⟨_, rfl, ?_⟩;replace BK352 := Aside0.mk (bb BK352.out hb)
           replace HB := Aside0.mk (below_step (bel HB) hb)
           (try clear hb);(try clear hb2);(try clear hk);(try clear hi)
           refine hK.out _ _ ⟨(blk_cell BK352.out 0).trans rfl, (blk_cell BK352.out 1).trans rfl, (blk_cell BK352.out 2).trans rfl, (blk_cell BK352.out 3).trans rfl, (blk_cell BK352.out 4).trans rfl, (blk_cell BK352.out 5).trans rfl, (blk_cell BK352.out 6).trans rfl, (blk_cell BK352.out 7).trans rfl, (blk_cell BK352.out 8).trans rfl⟩ (fun hHeld => ?_)
           clear hK K
           refine norm_ (a' := ?_) ?_ ?_;rotate_left;·show Act.put _ (some 24) _ = _;simp only [Act.put, setIfInBounds_toArray, set_cons_zero, set_cons_succ, i64_w, i32_w];rfl
           refine pure_ (i := 15) (N := some 25) (v := ?_) (a' := ?_) #[T,T,T,T,T,T,T,T,T,T,T,T,T,T,T,T,F,T,T,F,F,F] rfl rfl (any_of HT_.out (by kernel_rfl)) (fun _ _ _ h => h) (Or.inl ⟨by rfl, ?_⟩) ?_ ?_
           rotate_left;·intro w';go_simp;with_reducible rfl
           rotate_left;·simp only [Act.put, setIfInBounds_toArray, set_cons_zero, set_cons_succ, i64_w, i32_w];rfl
           refine pure_ (i := 16) (N := some 26) (v := ?_) (a' := ?_) #[T,T,T,T,T,T,T,T,T,T,T,T,T,T,T,T,T,T,T,F,F,F] rfl rfl (any_of HT_.out (by kernel_rfl)) (fun _ _ _ h => h) (Or.inl ⟨by rfl, ?_⟩) ?_ ?_
           rotate_left;·intro w';go_simp;with_reducible rfl
           rotate_left;·simp only [Act.put, setIfInBounds_toArray, set_cons_zero, set_cons_succ, i64_w, i32_w];rfl
           refine one_ (i := 19) (N := some 29) #[T,T,T,T,T,T,T,T,T,T,T,T,T,T,T,T,T,T,T,T,F,F] rfl rfl (one_of HT_.out (by kernel_rfl)) (by decide) (fun K hK => ?_)
           refine goes_ Tryd.func60 (by kernel_rfl) rfl #[.agg #[.int .u16 a0_7, .int .u16 a0_8]] (by rfl) rfl rfl aok ?_
           with_reducible refine (crossbuckref03_PrintRange.calls kj1 a0_7 a0_8 t357 _ A19.out).mono ?_;rintro e w25 ⟨rfl, hb⟩;refine ⟨_, rfl, ?_⟩;replace BK352 := Aside0.mk (bb BK352.out hb)
           replace HB := Aside0.mk (below_step (bel HB) hb)
           (try clear hb);(try clear hb2);(try clear hk);(try clear hi)
           refine hK.out _ _ ⟨(blk_cell BK352.out 0).trans rfl, (blk_cell BK352.out 1).trans rfl, (blk_cell BK352.out 2).trans rfl, (blk_cell BK352.out 3).trans rfl, (blk_cell BK352.out 4).trans rfl, (blk_cell BK352.out 5).trans rfl, (blk_cell BK352.out 6).trans rfl, (blk_cell BK352.out 7).trans rfl, (blk_cell BK352.out 8).trans rfl⟩ (fun hHeld => ?_)
           clear hK K
           refine norm_ (a' := ?_) ?_ ?_;rotate_left;·show Act.put _ (some 29) _ = _;simp only [Act.put, setIfInBounds_toArray, set_cons_zero, set_cons_succ, i64_w, i32_w];rfl
           refine pure_ (i := 20) (N := some 30) (v := ?_) (a' := ?_) #[T,T,T,T,T,T,T,T,T,T,T,T,T,T,T,T,T,T,T,T,T,F] rfl rfl (any_of HT_.out (by kernel_rfl)) (fun _ _ _ h => h) (Or.inl ⟨by rfl, ?_⟩) ?_ ?_
           rotate_left;·intro w';go_simp;with_reducible rfl
           rotate_left;·simp only [Act.put, setIfInBounds_toArray, set_cons_zero, set_cons_succ, i64_w, i32_w];rfl
           refine pure_ (i := 21) (N := some 2) (v := ?_) (a' := ?_) #[T,T,T,T,T,T,T,T,T,T,T,T,T,T,T,T,T,T,T,T,T,T] rfl rfl (any_of HT_.out (by kernel_rfl)) (fun _ _ _ h => h) (Or.inl ⟨by rfl, ?_⟩) ?_ ?_
           rotate_left;·intro w';go_simp;with_reducible rfl
           rotate_left;·simp only [Act.put, setIfInBounds_toArray, set_cons_zero, set_cons_succ, i64_w, i32_w];rfl
           refine done_ (done_of HT_.out (by kernel_rfl)) ?_
           try go_wp2
           go_ret
           exact ⟨by first | rfl | (simp [errW_none, errW_some] <;> rfl) | (simp [*, errW_none, errW_some] <;> rfl), bel HB⟩
          ·rw [if_neg c20] at H
           exact absurd H (by simp)
         ·rw [if_neg c18] at H
          exact absurd H (by simp)
        ·rw [if_neg c17] at H
         exact absurd H (by simp)
       ·rw [if_neg c15] at H
        exact absurd H (by simp)
      ·rw [if_neg c14] at H
       exact absurd H (by simp)
     ·rw [if_neg c13] at H
      exact absurd H (by simp)
    ·rw [if_neg c12] at H
     exact absurd H (by simp)
   ·rw [if_neg c10] at H
    exact absurd H (by simp)

end Go.Proofs.YtloclimoffhbhaaDoor.PSca

namespace Go.Proofs.YtloclimoffhbhaaDoor.PSca
open Go.RowKit Go.Proofs.YtloclimoffhbhaaDoorW.PrintWords Go.Proofs.YtloclimoffhbhaaDoorW.PrintLast Go.Proofs.YtloclimoffhbhaaDoorW.PrintMore Go.Proofs.YtloclimoffhbhaaDoorW.PrintSq List
attribute [local go_sem] max2_int min2_int max_two min_two max_three min_three max_four min_four   -- for this text's walks alone
set_option linter.unusedVariables false
set_option linter.unusedSimpArgs false

/-! ### crossbuckref25_n: function 78 -/
def crossbuckref25_n.f (k : Nat) (a0 : Int) : Option (ByteArray) := (crossbuckref02_Digits.f k a0).bind fun t309 => (some t309)
set_option maxHeartbeats 8000000 in
set_option maxRecDepth 100000 in
theorem crossbuckref25_n.calls (k : Nat) (a0 : Int) (r : ByteArray) (w : World) (h : crossbuckref25_n.f k a0 = some r) :
  Calls Tryd.prog 78 #[.int .i64 a0] w fun e w' => e = .returned (.string r) ∧ Below w.heap.size w w' := by
 have HB := Aside0.mk (Below.refl w.heap.size w)
 have H : ((crossbuckref02_Digits.f k a0).bind fun t309 => (some t309)) = some r := h
 clear h;replace H := Option.bind_eq_some_iff.mp H;obtain ⟨t309, A20, H⟩ := H;replace H : (some t309) = some r := H;have A2 := Aside0.mk A20;clear A20;obtain rfl := Option.some.inj H;go_enter Tryd.func78, Tryd.ntmps78
 go_wp2_with (first | ((with_reducible refine gate_callee (f := 99) rfl ?_); refine goesL_ (some 4) rfl rfl Tryd.func99 (by kernel_rfl) rfl #[.int .i64 a0] rfl aok ?_; (with_reducible refine (crossbuckref02_Digits.calls k a0 t309 _ A2.out).mono ?_); rintro e w3 ⟨rfl, hb⟩; refine ⟨_, rfl, ?_⟩; have n0_ := Aside0.mk (below_step (bel HB) hb); clear HB; have HB := n0_; clear n0_; (try clear hb); (try clear hb2); (try clear hk); (try clear hi)))
 go_ret
 exact ⟨by first | rfl | (simp [errW_none, errW_some] <;> rfl) | (simp [*, errW_none, errW_some] <;> rfl), bel HB⟩

end Go.Proofs.YtloclimoffhbhaaDoor.PSca
