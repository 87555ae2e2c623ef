-- Written by wip/myprint.py and wip/merge.py (this session's own programs); Lean checks it.
-- halved
import Derived.Test.YtloclimoffhbhaaDoorSq6
import Derived.Test.YtloclimoffhbhaaDoorPStox0
namespace Go.Proofs.YtloclimoffhbhaaDoor.PSto
open Go.RowKit Go.Proofs.YtloclimoffhbhaaDoorW.PrintWords Go.Proofs.YtloclimoffhbhaaDoorW.PrintLast Go.Proofs.YtloclimoffhbhaaDoorW.PrintMore Go.Proofs.YtloclimoffhbhaaDoorW.PrintSq List
attribute [local go_sem] max2_int min2_int max_two min_two max_three min_three max_four min_four   -- for this text's walks alone
set_option linter.unusedVariables false
set_option linter.unusedSimpArgs false

/-! ### cidr_Right: function 86 -/
def cidr_Right.f (a0_0 : Int) (a0_1 : Int) : Option (Bool) := if a0_1 ≥ 0 then (if a0_1 ≤ 32 then ((cidr_mask.f a0_1).bind fun t110 => (some ((Go.bits .andNot .u32 a0_0 t110) == 0))) else (some false)) else (some false)
def cidr_Right.T1 : Bool × List (List Nat × List Nat) := (true, [([], []), ([0], [0]), ([1], [1]), ([2], [2]), ([3], [3]), ([4, 3], [3, 4]), ([5, 3], [3, 5]), ([3, 6], [3, 6]), ([7, 3], [7]), ([8], [8]), ([9, 8], [8, 9]), ([8], [8]), ([11, 8], [8, 11]), ([12, 8, 8], [8, 12]), ([10, 13, 8], [8, 10, 13]), ([14, 8], [8, 14]), ([8, 15], [8, 15]), ([16, 13, 0, 1, 2, 3, 4, 5, 6, 7, 8, 9, 10, 11, 12, 13, 14, 15, 16], [16])])
def cidr_Right.B1 : List Nat := [0, 1, 3, 7, 15, 31, 63, 127, 255, 511, 1023, 511, 2559, 6655, 16383, 32767, 65535, 131071]
theorem cidr_Right.tab1 : rtab .any (opsOf Tryd.f86 1) = cidr_Right.T1 := by kernel_rfl
theorem cidr_Right.bits1 : waitsOk cidr_Right.T1.2 cidr_Right.B1 = true := by kernel_rfl
set_option maxHeartbeats 8000000 in
set_option maxRecDepth 100000 in
theorem cidr_Right.calls (a0_0 : Int) (a0_1 : Int) (r : Bool) (w : World) (h : cidr_Right.f a0_0 a0_1 = some r) :
  Calls Tryd.prog 86 #[.agg #[.int .u32 a0_0, .int .i64 a0_1]] w fun e w' => e = .returned (.bool r) ∧ Below w.heap.size w w' := by
 have hu42 := Tryd.underlying42;have HB := Aside0.mk (Below.refl w.heap.size w)
 have H : (if a0_1 ≥ 0 then (if a0_1 ≤ 32 then ((cidr_mask.f a0_1).bind fun t110 => (some ((Go.bits .andNot .u32 a0_0 t110) == 0))) else (some false)) else (some false)) = some r := h
 clear h
 by_cases c2 : a0_1 ≥ 0
 ·rw [if_pos c2] at H
  have c2b0 : decide (0 ≤ a0_1) = true := decide_eq_true c2;clear c2
  by_cases c3 : a0_1 ≤ 32
  ·rw [if_pos c3] at H
   have c3b0 : decide (a0_1 ≤ 32) = true := decide_eq_true c3;clear c3;replace H := Option.bind_eq_some_iff.mp H;obtain ⟨t110, A40, H⟩ := H;replace H : (some ((Go.bits .andNot .u32 a0_0 t110) == 0)) = some r := H;have A4 := Aside0.mk A40;clear A40;obtain rfl := Option.some.inj H;go_enter Tryd.func86, Tryd.ntmps86
   try go_wp2_with (first | ((with_reducible refine gate_dst (N := 1) rfl ?_); refine box_event rfl (N := 1) rfl (cs := #[.int .u32 a0_0, .int .i64 a0_1]) (t := 42) gs ?_; intro gb109 hg w5 hbox hb; have n0_ := Aside0.mk (below_step (bel HB) hb); have n1_ := Aside0.mk (hbox); have n2_ := gew HB hg; have n3_ := gew HB hg; clear HB; have HB := n0_; have BK109 := n1_; have GW109 := n2_; have GE109 := n3_; clear n0_ n1_ n2_ n3_; clear hb hbox hg))
   replace BK109 := Aside0.mk (blk_drew BK109.out);replace HB := Aside0.mk (below_drew1 HB.out)
   refine start_ (n := 18) (S := fun w' => w'.cell? ⟨gb109, 0, none⟩ = some (.int .u32 a0_0) ∧ w'.cell? ⟨gb109, 1, none⟩ = some (.int .i64 a0_1)) (ds := []) #[F,F,F,F,F,F,F,F,F,F,F,F,F,F,F,F,F,F] (by kernel_rfl) rfl rfl ⟨(blk_cell BK109.out 0).trans rfl, (blk_cell BK109.out 1).trans rfl⟩ (fun hHeld => ?_); refine with_tabW cidr_Right.tab1 cidr_Right.bits1 (fun HT_ HW_ => ?_)
   generalize w5.drew = w6 at BK109 HB hHeld ⊢
   refine pu 0 (some 3) #[T,F,F,F,F,F,F,F,F,F,F,F,F,F,F,F,F,F] (any_of HT_.out (by kernel_rfl)) ?_
   refine take_ (i := 1) (N := some 4) (v := ?_) (a' := ?_) #[T,T,F,F,F,F,F,F,F,F,F,F,F,F,F,F,F,F] rfl rfl (take_ofW HT_.out HW_.out (by kernel_rfl)) (fun _ _ _ h => h) (Or.inl ⟨by rfl, ?_⟩) hHeld ?_ ?_
   rotate_left
   ·rintro w' ⟨s0, s1⟩
    go_simp;with_reducible rfl
   rotate_left;·simp only [Act.put, setIfInBounds_toArray, set_cons_zero, set_cons_succ, i64_w, i32_w];rfl
   refine pu 2 (some 5) #[T,T,T,F,F,F,F,F,F,F,F,F,F,F,F,F,F,F] (any_of HT_.out (by kernel_rfl)) ?_
   refine pu 3 (some 6) #[T,T,T,T,F,F,F,F,F,F,F,F,F,F,F,F,F,F] (any_of HT_.out (by kernel_rfl)) ?_
   refine pu 4 (some 7) #[T,T,T,T,T,F,F,F,F,F,F,F,F,F,F,F,F,F] (any_of HT_.out (by kernel_rfl)) ?_
   refine take_ (i := 5) (N := some 8) (v := ?_) (a' := ?_) #[T,T,T,T,T,T,F,F,F,F,F,F,F,F,F,F,F,F] rfl rfl (take_ofW HT_.out HW_.out (by kernel_rfl)) (fun _ _ _ h => h) (Or.inl ⟨by rfl, ?_⟩) hHeld ?_ ?_
   rotate_left
   ·rintro w' ⟨s0, s1⟩
    go_simp;with_reducible rfl
   rotate_left;·simp only [Act.put, setIfInBounds_toArray, set_cons_zero, set_cons_succ, i64_w, i32_w];rfl
   refine pu 6 (some 9) #[T,T,T,T,T,T,T,F,F,F,F,F,F,F,F,F,F,F] (any_of HT_.out (by kernel_rfl)) ?_
   refine pu 7 (some 10) #[T,T,T,T,T,T,T,T,F,F,F,F,F,F,F,F,F,F] (any_of HT_.out (by kernel_rfl)) ?_
   refine pu 8 (some 11) #[T,T,T,T,T,T,T,T,T,F,F,F,F,F,F,F,F,F] (any_of HT_.out (by kernel_rfl)) ?_
   refine pu 9 (some 12) #[T,T,T,T,T,T,T,T,T,T,F,F,F,F,F,F,F,F] (any_of HT_.out (by kernel_rfl)) ?_
   refine pu 11 (some 14) #[T,T,T,T,T,T,T,T,T,T,F,T,F,F,F,F,F,F] (any_of HT_.out (by kernel_rfl)) ?_
   refine take_ (i := 10) (N := some 13) (v := ?_) (a' := ?_) #[T,T,T,T,T,T,T,T,T,T,T,T,F,F,F,F,F,F] rfl rfl (take_ofW HT_.out HW_.out (by kernel_rfl)) (fun _ _ _ h => h) (Or.inl ⟨by rfl, ?_⟩) hHeld ?_ ?_
   rotate_left
   ·rintro w' ⟨s0, s1⟩
    go_simp;with_reducible rfl
   rotate_left;·simp only [Act.put, setIfInBounds_toArray, set_cons_zero, set_cons_succ, i64_w, i32_w];rfl
   refine take_ (i := 12) (N := some 15) (v := ?_) (a' := ?_) #[T,T,T,T,T,T,T,T,T,T,T,T,T,F,F,F,F,F] rfl rfl (take_ofW HT_.out HW_.out (by kernel_rfl)) (fun _ _ _ h => h) (Or.inl ⟨by rfl, ?_⟩) hHeld ?_ ?_
   rotate_left
   ·rintro w' ⟨s0, s1⟩
    go_simp;with_reducible rfl
   rotate_left;·simp only [Act.put, setIfInBounds_toArray, set_cons_zero, set_cons_succ, i64_w, i32_w];rfl
   refine one_ (i := 13) (N := some 16) #[T,T,T,T,T,T,T,T,T,T,T,T,T,T,F,F,F,F] rfl rfl (one_of HT_.out (by kernel_rfl)) (by decide) (fun K hK => ?_)
   refine goes_ Tryd.func112 (by kernel_rfl) rfl #[.int .i64 a0_1] (by rfl) rfl rfl aok ?_
   with_reducible refine (cidr_mask.calls a0_1 t110 _ A4.out).mono ?_;rintro e w7 ⟨rfl, hb⟩;refine ⟨_, rfl, ?_⟩;replace BK109 := Aside0.mk (bb BK109.out hb)
   replace HB := Aside0.mk (below_step (bel HB) hb)
   (try clear hb);(try clear hb2);(try clear hk);(try clear hi)
   refine hK.out _ _ ⟨(blk_cell BK109.out 0).trans rfl, (blk_cell BK109.out 1).trans rfl⟩ (fun hHeld => ?_)
   clear hK K
   refine nput ?_
   refine pu 14 (some 17) #[T,T,T,T,T,T,T,T,T,T,T,T,T,T,T,F,F,F] (any_of HT_.out (by kernel_rfl)) ?_
   refine pu 15 (some 18) #[T,T,T,T,T,T,T,T,T,T,T,T,T,T,T,T,F,F] (any_of HT_.out (by kernel_rfl)) ?_
   refine pu 16 (some 19) #[T,T,T,T,T,T,T,T,T,T,T,T,T,T,T,T,T,F] (any_of HT_.out (by kernel_rfl)) ?_
   refine pu 17 (some 2) #[T,T,T,T,T,T,T,T,T,T,T,T,T,T,T,T,T,T] (any_of HT_.out (by kernel_rfl)) ?_
   refine done_ (done_of HT_.out (by kernel_rfl)) ?_
   try go_wp2
   go_ret
   exact ⟨fin, bel HB⟩
  ·rw [if_neg c3] at H
   have c3b0 : decide (a0_1 ≤ 32) = false := decide_eq_false c3;clear c3;obtain rfl := Option.some.inj H;go_enter Tryd.func86, Tryd.ntmps86
   try go_wp2_with (first | ((with_reducible refine gate_dst (N := 1) rfl ?_); refine box_event rfl (N := 1) rfl (cs := #[.int .u32 a0_0, .int .i64 a0_1]) (t := 42) gs ?_; intro gb109 hg w8 hbox hb; have n0_ := Aside0.mk (below_step (bel HB) hb); have n1_ := Aside0.mk (hbox); have n2_ := gew HB hg; have n3_ := gew HB hg; clear HB; have HB := n0_; have BK109 := n1_; have GW109 := n2_; have GE109 := n3_; clear n0_ n1_ n2_ n3_; clear hb hbox hg))
   replace BK109 := Aside0.mk (blk_drew BK109.out);replace HB := Aside0.mk (below_drew1 HB.out)
   refine start_ (n := 18) (S := fun w' => w'.cell? ⟨gb109, 0, none⟩ = some (.int .u32 a0_0) ∧ w'.cell? ⟨gb109, 1, none⟩ = some (.int .i64 a0_1)) (ds := []) #[F,F,F,F,F,F,F,F,F,F,F,F,F,F,F,F,F,F] (by kernel_rfl) rfl rfl ⟨(blk_cell BK109.out 0).trans rfl, (blk_cell BK109.out 1).trans rfl⟩ (fun hHeld => ?_); refine with_tabW cidr_Right.tab1 cidr_Right.bits1 (fun HT_ HW_ => ?_)
   generalize w8.drew = w9 at BK109 HB hHeld ⊢
   refine pu 0 (some 3) #[T,F,F,F,F,F,F,F,F,F,F,F,F,F,F,F,F,F] (any_of HT_.out (by kernel_rfl)) ?_
   refine take_ (i := 1) (N := some 4) (v := ?_) (a' := ?_) #[T,T,F,F,F,F,F,F,F,F,F,F,F,F,F,F,F,F] rfl rfl (take_ofW HT_.out HW_.out (by kernel_rfl)) (fun _ _ _ h => h) (Or.inl ⟨by rfl, ?_⟩) hHeld ?_ ?_
   rotate_left
   ·rintro w' ⟨s0, s1⟩
    go_simp;with_reducible rfl
   rotate_left;·simp only [Act.put, setIfInBounds_toArray, set_cons_zero, set_cons_succ, i64_w, i32_w];rfl
   refine pu 2 (some 5) #[T,T,T,F,F,F,F,F,F,F,F,F,F,F,F,F,F,F] (any_of HT_.out (by kernel_rfl)) ?_
   refine pu 3 (some 6) #[T,T,T,T,F,F,F,F,F,F,F,F,F,F,F,F,F,F] (any_of HT_.out (by kernel_rfl)) ?_
   refine pu 4 (some 7) #[T,T,T,T,T,F,F,F,F,F,F,F,F,F,F,F,F,F] (any_of HT_.out (by kernel_rfl)) ?_
   refine take_ (i := 5) (N := some 8) (v := ?_) (a' := ?_) #[T,T,T,T,T,T,F,F,F,F,F,F,F,F,F,F,F,F] rfl rfl (take_ofW HT_.out HW_.out (by kernel_rfl)) (fun _ _ _ h => h) (Or.inl ⟨by rfl, ?_⟩) hHeld ?_ ?_
   rotate_left
   ·rintro w' ⟨s0, s1⟩
    go_simp;with_reducible rfl
   rotate_left;·simp only [Act.put, setIfInBounds_toArray, set_cons_zero, set_cons_succ, i64_w, i32_w];rfl
   refine pu 6 (some 9) #[T,T,T,T,T,T,T,F,F,F,F,F,F,F,F,F,F,F] (any_of HT_.out (by kernel_rfl)) ?_
   refine pu 7 (some 10) #[T,T,T,T,T,T,T,T,F,F,F,F,F,F,F,F,F,F] (any_of HT_.out (by kernel_rfl)) ?_
   refine pu 8 (some 11) #[T,T,T,T,T,T,T,T,T,F,F,F,F,F,F,F,F,F] (any_of HT_.out (by kernel_rfl)) ?_
   refine pure_ (i := 9) (N := some 12) (v := undef) (a' := ?_) #[T,T,T,T,T,T,T,T,T,T,F,F,F,F,F,F,F,F] rfl rfl (any_of HT_.out (by kernel_rfl)) (fun _ _ _ h => h) (Or.inr ⟨by rfl, rfl⟩) ?_ ?_
   rotate_left;·simp only [Act.put, setIfInBounds_toArray, set_cons_zero, set_cons_succ, i64_w, i32_w];rfl
   refine pure_ (i := 10) (N := some 13) (v := undef) (a' := ?_) #[T,T,T,T,T,T,T,T,T,T,T,F,F,F,F,F,F,F] rfl rfl (any_of HT_.out (by kernel_rfl)) (fun _ _ _ h => h) (Or.inr ⟨by rfl, rfl⟩) ?_ ?_
   rotate_left;·simp only [Act.put, setIfInBounds_toArray, set_cons_zero, set_cons_succ, i64_w, i32_w];rfl
   refine pure_ (i := 11) (N := some 14) (v := undef) (a' := ?_) #[T,T,T,T,T,T,T,T,T,T,T,T,F,F,F,F,F,F] rfl rfl (any_of HT_.out (by kernel_rfl)) (fun _ _ _ h => h) (Or.inr ⟨by rfl, rfl⟩) ?_ ?_
   rotate_left;·simp only [Act.put, setIfInBounds_toArray, set_cons_zero, set_cons_succ, i64_w, i32_w];rfl
   refine pure_ (i := 12) (N := some 15) (v := undef) (a' := ?_) #[T,T,T,T,T,T,T,T,T,T,T,T,T,F,F,F,F,F] rfl rfl (any_of HT_.out (by kernel_rfl)) (fun _ _ _ h => h) (Or.inr ⟨by rfl, rfl⟩) ?_ ?_
   rotate_left;·simp only [Act.put, setIfInBounds_toArray, set_cons_zero, set_cons_succ, i64_w, i32_w];rfl
   refine pure_ (i := 13) (N := some 16) (v := undef) (a' := ?_) #[T,T,T,T,T,T,T,T,T,T,T,T,T,T,F,F,F,F] rfl rfl (any_of HT_.out (by kernel_rfl)) (fun _ _ _ h => h) (Or.inr ⟨by rfl, rfl⟩) ?_ ?_
   rotate_left;·simp only [Act.put, setIfInBounds_toArray, set_cons_zero, set_cons_succ, i64_w, i32_w];rfl
   refine pure_ (i := 14) (N := some 17) (v := undef) (a' := ?_) #[T,T,T,T,T,T,T,T,T,T,T,T,T,T,T,F,F,F] rfl rfl (any_of HT_.out (by kernel_rfl)) (fun _ _ _ h => h) (Or.inr ⟨by rfl, rfl⟩) ?_ ?_
   rotate_left;·simp only [Act.put, setIfInBounds_toArray, set_cons_zero, set_cons_succ, i64_w, i32_w];rfl
   refine pure_ (i := 15) (N := some 18) (v := undef) (a' := ?_) #[T,T,T,T,T,T,T,T,T,T,T,T,T,T,T,T,F,F] rfl rfl (any_of HT_.out (by kernel_rfl)) (fun _ _ _ h => h) (Or.inr ⟨by rfl, rfl⟩) ?_ ?_
   rotate_left;·simp only [Act.put, setIfInBounds_toArray, set_cons_zero, set_cons_succ, i64_w, i32_w];rfl
   refine pu 16 (some 19) #[T,T,T,T,T,T,T,T,T,T,T,T,T,T,T,T,T,F] (any_of HT_.out (by kernel_rfl)) ?_
   refine pu 17 (some 2) #[T,T,T,T,T,T,T,T,T,T,T,T,T,T,T,T,T,T] (any_of HT_.out (by kernel_rfl)) ?_
   refine done_ (done_of HT_.out (by kernel_rfl)) ?_
   try go_wp2
   go_ret
   exact ⟨fin, bel HB⟩
 ·rw [if_neg c2] at H
  have c2b0 : decide (0 ≤ a0_1) = false := decide_eq_false c2;clear c2;obtain rfl := Option.some.inj H;go_enter Tryd.func86, Tryd.ntmps86
  try go_wp2_with (first | ((with_reducible refine gate_dst (N := 1) rfl ?_); refine box_event rfl (N := 1) rfl (cs := #[.int .u32 a0_0, .int .i64 a0_1]) (t := 42) gs ?_; intro gb109 hg w10 hbox hb; have n0_ := Aside0.mk (below_step (bel HB) hb); have n1_ := Aside0.mk (hbox); have n2_ := gew HB hg; have n3_ := gew HB hg; clear HB; have HB := n0_; have BK109 := n1_; have GW109 := n2_; have GE109 := n3_; clear n0_ n1_ n2_ n3_; clear hb hbox hg))
  replace BK109 := Aside0.mk (blk_drew BK109.out);replace HB := Aside0.mk (below_drew1 HB.out)
  refine start_ (n := 18) (S := fun w' => w'.cell? ⟨gb109, 0, none⟩ = some (.int .u32 a0_0) ∧ w'.cell? ⟨gb109, 1, none⟩ = some (.int .i64 a0_1)) (ds := []) #[F,F,F,F,F,F,F,F,F,F,F,F,F,F,F,F,F,F] (by kernel_rfl) rfl rfl ⟨(blk_cell BK109.out 0).trans rfl, (blk_cell BK109.out 1).trans rfl⟩ (fun hHeld => ?_); refine with_tabW cidr_Right.tab1 cidr_Right.bits1 (fun HT_ HW_ => ?_)
  generalize w10.drew = w11 at BK109 HB hHeld ⊢
  refine pu 0 (some 3) #[T,F,F,F,F,F,F,F,F,F,F,F,F,F,F,F,F,F] (any_of HT_.out (by kernel_rfl)) ?_
  refine take_ (i := 1) (N := some 4) (v := ?_) (a' := ?_) #[T,T,F,F,F,F,F,F,F,F,F,F,F,F,F,F,F,F] rfl rfl (take_ofW HT_.out HW_.out (by kernel_rfl)) (fun _ _ _ h => h) (Or.inl ⟨by rfl, ?_⟩) hHeld ?_ ?_
  rotate_left
  ·rintro w' ⟨s0, s1⟩
   go_simp;with_reducible rfl
  rotate_left;·simp only [Act.put, setIfInBounds_toArray, set_cons_zero, set_cons_succ, i64_w, i32_w];rfl
  refine pu 2 (some 5) #[T,T,T,F,F,F,F,F,F,F,F,F,F,F,F,F,F,F] (any_of HT_.out (by kernel_rfl)) ?_
  refine pu 3 (some 6) #[T,T,T,T,F,F,F,F,F,F,F,F,F,F,F,F,F,F] (any_of HT_.out (by kernel_rfl)) ?_
  refine pure_ (i := 4) (N := some 7) (v := undef) (a' := ?_) #[T,T,T,T,T,F,F,F,F,F,F,F,F,F,F,F,F,F] rfl rfl (any_of HT_.out (by kernel_rfl)) (fun _ _ _ h => h) (Or.inr ⟨by rfl, rfl⟩) ?_ ?_
  rotate_left;·simp only [Act.put, setIfInBounds_toArray, set_cons_zero, set_cons_succ, i64_w, i32_w];rfl
  refine pure_ (i := 5) (N := some 8) (v := undef) (a' := ?_) #[T,T,T,T,T,T,F,F,F,F,F,F,F,F,F,F,F,F] rfl rfl (any_of HT_.out (by kernel_rfl)) (fun _ _ _ h => h) (Or.inr ⟨by rfl, rfl⟩) ?_ ?_
  rotate_left;·simp only [Act.put, setIfInBounds_toArray, set_cons_zero, set_cons_succ, i64_w, i32_w];rfl
  refine pure_ (i := 6) (N := some 9) (v := undef) (a' := ?_) #[T,T,T,T,T,T,T,F,F,F,F,F,F,F,F,F,F,F] rfl rfl (any_of HT_.out (by kernel_rfl)) (fun _ _ _ h => h) (Or.inr ⟨by rfl, rfl⟩) ?_ ?_
  rotate_left;·simp only [Act.put, setIfInBounds_toArray, set_cons_zero, set_cons_succ, i64_w, i32_w];rfl
  refine pu 7 (some 10) #[T,T,T,T,T,T,T,T,F,F,F,F,F,F,F,F,F,F] (any_of HT_.out (by kernel_rfl)) ?_
  refine pu 8 (some 11) #[T,T,T,T,T,T,T,T,T,F,F,F,F,F,F,F,F,F] (any_of HT_.out (by kernel_rfl)) ?_
  refine pure_ (i := 9) (N := some 12) (v := undef) (a' := ?_) #[T,T,T,T,T,T,T,T,T,T,F,F,F,F,F,F,F,F] rfl rfl (any_of HT_.out (by kernel_rfl)) (fun _ _ _ h => h) (Or.inr ⟨by rfl, rfl⟩) ?_ ?_
  rotate_left;·simp only [Act.put, setIfInBounds_toArray, set_cons_zero, set_cons_succ, i64_w, i32_w];rfl
  refine pure_ (i := 10) (N := some 13) (v := undef) (a' := ?_) #[T,T,T,T,T,T,T,T,T,T,T,F,F,F,F,F,F,F] rfl rfl (any_of HT_.out (by kernel_rfl)) (fun _ _ _ h => h) (Or.inr ⟨by rfl, rfl⟩) ?_ ?_
  rotate_left;·simp only [Act.put, setIfInBounds_toArray, set_cons_zero, set_cons_succ, i64_w, i32_w];rfl
  refine pure_ (i := 11) (N := some 14) (v := undef) (a' := ?_) #[T,T,T,T,T,T,T,T,T,T,T,T,F,F,F,F,F,F] rfl rfl (any_of HT_.out (by kernel_rfl)) (fun _ _ _ h => h) (Or.inr ⟨by rfl, rfl⟩) ?_ ?_
  rotate_left;·simp only [Act.put, setIfInBounds_toArray, set_cons_zero, set_cons_succ, i64_w, i32_w];rfl
  refine pure_ (i := 12) (N := some 15) (v := undef) (a' := ?_) #[T,T,T,T,T,T,T,T,T,T,T,T,T,F,F,F,F,F] rfl rfl (any_of HT_.out (by kernel_rfl)) (fun _ _ _ h => h) (Or.inr ⟨by rfl, rfl⟩) ?_ ?_
  rotate_left;·simp only [Act.put, setIfInBounds_toArray, set_cons_zero, set_cons_succ, i64_w, i32_w];rfl
  refine pure_ (i := 13) (N := some 16) (v := undef) (a' := ?_) #[T,T,T,T,T,T,T,T,T,T,T,T,T,T,F,F,F,F] rfl rfl (any_of HT_.out (by kernel_rfl)) (fun _ _ _ h => h) (Or.inr ⟨by rfl, rfl⟩) ?_ ?_
  rotate_left;·simp only [Act.put, setIfInBounds_toArray, set_cons_zero, set_cons_succ, i64_w, i32_w];rfl
  refine pure_ (i := 14) (N := some 17) (v := undef) (a' := ?_) #[T,T,T,T,T,T,T,T,T,T,T,T,T,T,T,F,F,F] rfl rfl (any_of HT_.out (by kernel_rfl)) (fun _ _ _ h => h) (Or.inr ⟨by rfl, rfl⟩) ?_ ?_
  rotate_left;·simp only [Act.put, setIfInBounds_toArray, set_cons_zero, set_cons_succ, i64_w, i32_w];rfl
  refine pure_ (i := 15) (N := some 18) (v := undef) (a' := ?_) #[T,T,T,T,T,T,T,T,T,T,T,T,T,T,T,T,F,F] rfl rfl (any_of HT_.out (by kernel_rfl)) (fun _ _ _ h => h) (Or.inr ⟨by rfl, rfl⟩) ?_ ?_
  rotate_left;·simp only [Act.put, setIfInBounds_toArray, set_cons_zero, set_cons_succ, i64_w, i32_w];rfl
  refine pu 16 (some 19) #[T,T,T,T,T,T,T,T,T,T,T,T,T,T,T,T,T,F] (any_of HT_.out (by kernel_rfl)) ?_
  refine pu 17 (some 2) #[T,T,T,T,T,T,T,T,T,T,T,T,T,T,T,T,T,T] (any_of HT_.out (by kernel_rfl)) ?_
  refine done_ (done_of HT_.out (by kernel_rfl)) ?_
  try go_wp2
  go_ret
  exact ⟨fin, bel HB⟩

end Go.Proofs.YtloclimoffhbhaaDoor.PSto

namespace Go.Proofs.YtloclimoffhbhaaDoor.PSto
open Go.RowKit Go.Proofs.YtloclimoffhbhaaDoorW.PrintWords Go.Proofs.YtloclimoffhbhaaDoorW.PrintLast Go.Proofs.YtloclimoffhbhaaDoorW.PrintMore Go.Proofs.YtloclimoffhbhaaDoorW.PrintSq List
attribute [local go_sem] max2_int min2_int max_two min_two max_three min_three max_four min_four   -- for this text's walks alone
set_option linter.unusedVariables false
set_option linter.unusedSimpArgs false

/-! ### cidr_Parse: function 33 -/
def cidr_Parse.f (k : Nat) (a0 : ByteArray) : Option (Int × Int × Int) := (strings_Cut.f a0 (⟨#[47]⟩ : ByteArray)).bind fun bt112 => (if bt112.2.2 = true then ((hdr_ParseAddr.f k bt112.1).bind fun bt115 => (if bt115.2 = 0 then ((hdr_Number.f bt112.2.1 32).bind fun bt117 => (if bt117.2 = 0 then ((cidr_Right.f bt115.1 bt117.1).bind fun t120 => (if t120 = true then (some (bt115.1, bt117.1, 0)) else (some (0, 0, 13)))) else (some (0, 0, bt117.2)))) else (some (0, 0, bt115.2)))) else (some (0, 0, 6)))
set_option maxHeartbeats 8000000 in
set_option maxRecDepth 100000 in
theorem cidr_Parse.calls (k : Nat) (a0 : ByteArray) (r1 : Int) (r2 : Int) (r3 : Int) (w : World) (hG : Hand.Good true false w) (h : cidr_Parse.f k a0 = some (r1, r2, r3)) :
  Calls Tryd.prog 33 #[.string a0] w fun e w' => e = .returned (.tuple #[.agg #[.int .u32 r1, .int .i64 r2], .int .i64 r3]) ∧ Below w.heap.size w w' := by
 have hu42 := Tryd.underlying42;have HB := Aside0.mk (Below.refl w.heap.size w);have hGG := Aside0.mk hG;clear hG
 have H : ((strings_Cut.f a0 (⟨#[47]⟩ : ByteArray)).bind fun bt112 => (if bt112.2.2 = true then ((hdr_ParseAddr.f k bt112.1).bind fun bt115 => (if bt115.2 = 0 then ((hdr_Number.f bt112.2.1 32).bind fun bt117 => (if bt117.2 = 0 then ((cidr_Right.f bt115.1 bt117.1).bind fun t120 => (if t120 = true then (some (bt115.1, bt117.1, 0)) else (some (0, 0, 13)))) else (some (0, 0, bt117.2)))) else (some (0, 0, bt115.2)))) else (some (0, 0, 6)))) = some (r1, r2, r3) := h
 clear h;replace H := Option.bind_eq_some_iff.mp H;obtain ⟨⟨t112, t113, t114⟩, A20, H⟩ := H
 replace H : (if t114 = true then ((hdr_ParseAddr.f k t112).bind fun bt115 => (if bt115.2 = 0 then ((hdr_Number.f t113 32).bind fun bt117 => (if bt117.2 = 0 then ((cidr_Right.f bt115.1 bt117.1).bind fun t120 => (if t120 = true then (some (bt115.1, bt117.1, 0)) else (some (0, 0, 13)))) else (some (0, 0, bt117.2)))) else (some (0, 0, bt115.2)))) else (some (0, 0, 6))) = some (r1, r2, r3) := H
 have A2 := Aside0.mk A20;clear A20
 by_cases c3 : t114 = true
 ·subst c3
  have H1 : ((hdr_ParseAddr.f k t112).bind fun bt115 => (if bt115.2 = 0 then ((hdr_Number.f t113 32).bind fun bt117 => (if bt117.2 = 0 then ((cidr_Right.f bt115.1 bt117.1).bind fun t120 => (if t120 = true then (some (bt115.1, bt117.1, 0)) else (some (0, 0, 13)))) else (some (0, 0, bt117.2)))) else (some (0, 0, bt115.2)))) = some (r1, r2, r3) := by rw [if_pos rfl] at H; exact H
  clear H;have H := H1;clear H1;replace H := Option.bind_eq_some_iff.mp H;obtain ⟨⟨t115, t116⟩, A40, H⟩ := H
  replace H : (if t116 = 0 then ((hdr_Number.f t113 32).bind fun bt117 => (if bt117.2 = 0 then ((cidr_Right.f t115 bt117.1).bind fun t120 => (if t120 = true then (some (t115, bt117.1, 0)) else (some (0, 0, 13)))) else (some (0, 0, bt117.2)))) else (some (0, 0, t116))) = some (r1, r2, r3) := H
  have A4 := Aside0.mk A40;clear A40
  by_cases c5 : t116 = 0
  ·rw [if_pos c5] at H
   have c5b0 : (t116 == 0) = true := beq_iff_eq.mpr c5;have c5b1 : (t116 != 0) = false := bne_eq_false_iff_eq.mpr c5;clear c5;replace H := Option.bind_eq_some_iff.mp H;obtain ⟨⟨t117, t118⟩, A60, H⟩ := H
   replace H : (if t118 = 0 then ((cidr_Right.f t115 t117).bind fun t120 => (if t120 = true then (some (t115, t117, 0)) else (some (0, 0, 13)))) else (some (0, 0, t118))) = some (r1, r2, r3) := H
   have A6 := Aside0.mk A60;clear A60
   by_cases c7 : t118 = 0
   ·rw [if_pos c7] at H
    have c7b0 : (t118 == 0) = true := beq_iff_eq.mpr c7;have c7b1 : (t118 != 0) = false := bne_eq_false_iff_eq.mpr c7;clear c7;replace H := Option.bind_eq_some_iff.mp H;obtain ⟨t120, A80, H⟩ := H;replace H : (if t120 = true then (some (t115, t117, 0)) else (some (0, 0, 13))) = some (r1, r2, r3) := H;have A8 := Aside0.mk A80;clear A80
    by_cases c9 : t120 = true
    ·subst c9
     have H1 : (some (t115, t117, 0)) = some (r1, r2, r3) := by rw [if_pos rfl] at H; exact H
     clear H;have H := H1;clear H1;simp only [Option.some.injEq, Prod.mk.injEq] at H;obtain ⟨rfl, rfl, rfl⟩ := H;go_enter Tryd.func33, Tryd.ntmps33
     go_wp2_with (first | ((with_reducible refine gate_dst (N := 2) rfl ?_); refine box_event rfl (N := 2) rfl (cs := #[.int .u32 0, .int .i64 0]) (t := 42) gs ?_; intro gb111 hg w10 hbox hb; have n0_ := Aside0.mk (below_step (bel HB) hb); have n1_ := Aside0.mk (hbox); have n2_ := gew HB hg; have n3_ := gew HB hg; clear HB; have HB := n0_; have BK111 := n1_; have GW111 := n2_; have GE111 := n3_; clear n0_ n1_ n2_ n3_; clear hb hbox hg) | ((with_reducible refine gate_callee (f := 80) rfl ?_); refine goesL_ (some 13) rfl rfl Tryd.func80 (by kernel_rfl) rfl #[.string a0, .string (⟨#[47]⟩ : ByteArray)] rfl aok ?_; (with_reducible refine (strings_Cut.calls a0 (⟨#[47]⟩ : ByteArray) t112 t113 true _ (Hand.Good.below true false hGG.out (bel HB) rfl rfl) A2.out).mono ?_); rintro e w11 ⟨rfl, hb⟩; refine ⟨_, rfl, ?_⟩; have n0_ := Aside0.mk (bb BK111.out hb); have n1_ := Aside0.mk (below_step (bel HB) hb); clear BK111; clear HB; have BK111 := n0_; have HB := n1_; clear n0_ n1_; (try clear hb); (try clear hb2); (try clear hk); (try clear hi)) | ((with_reducible refine gate_callee (f := 52) rfl ?_); refine goesL_ (some 22) rfl rfl Tryd.func52 (by kernel_rfl) rfl #[.string t112] rfl aok ?_; (with_reducible refine (hdr_ParseAddr.calls k t112 t115 t116 _ (Hand.Good.below true false hGG.out (bel HB) rfl rfl) A4.out).mono ?_); rintro e w12 ⟨rfl, hb⟩; refine ⟨_, rfl, ?_⟩; have n0_ := Aside0.mk (bb BK111.out hb); have n1_ := Aside0.mk (below_step (bel HB) hb); clear BK111; clear HB; have BK111 := n0_; have HB := n1_; clear n0_ n1_; (try clear hb); (try clear hb2); (try clear hk); (try clear hi)) | ((with_reducible refine gate_callee (f := 30) rfl ?_); refine goesL_ (some 31) rfl rfl Tryd.func30 (by kernel_rfl) rfl #[.string t113, .int .i64 32] rfl aok ?_; (with_reducible refine (hdr_Number.calls t113 32 t117 t118 _ A6.out).mono ?_); rintro e w13 ⟨rfl, hb⟩; refine ⟨_, rfl, ?_⟩; have n0_ := Aside0.mk (bb BK111.out hb); have n1_ := Aside0.mk (below_step (bel HB) hb); clear BK111; clear HB; have BK111 := n0_; have HB := n1_; clear n0_ n1_; (try clear hb); (try clear hb2); (try clear hk); (try clear hi)) | ((with_reducible refine gate_dst (N := 10) rfl ?_); refine box_event rfl (N := 10) rfl (cs := #[.int .u32 0, .int .i64 0]) (t := 42) gs ?_; intro gb119 hg w14 hbox hb; have n0_ := Aside0.mk (bb BK111.out hb); have n1_ := Aside0.mk (below_step (bel HB) hb); have n2_ := Aside0.mk (hbox); have n3_ := gew HB hg; have n4_ := gew HB hg; have n5_ := Aside0.mk ((ne1 BK111.out hg : gb111 ≠ gb119)); have n6_ := Aside0.mk ((ne2 BK111.out hg : gb119 ≠ gb111)); clear BK111; clear HB; have BK111 := n0_; have HB := n1_; have BK119 := n2_; have GW119 := n3_; have GE119 := n4_; have NB111_119 := n5_; have NB119_111 := n6_; clear n0_ n1_ n2_ n3_ n4_ n5_ n6_; clear hb hbox hg; have hnb15 := NB119_111.out; have hnc15 := NB111_119.out; have hcz16 := cz2 BK119.out) | ((with_reducible refine gate_callee (f := 86) rfl ?_); refine goesL_ (some 42) rfl rfl Tryd.func86 (by kernel_rfl) rfl #[.agg #[.int .u32 t115, .int .i64 t117]] rfl aok ?_; (with_reducible refine (cidr_Right.calls t115 t117 true _ A8.out).mono ?_); rintro e w17 ⟨rfl, hb⟩; refine ⟨_, rfl, ?_⟩; have n0_ := Aside0.mk (blk_below (g := gb111) (o := .cells #[.int .u32 0, .int .i64 0] 42 (0, 0)) bkp hb); have n1_ := Aside0.mk (blk_below (g := gb119) (o := .cells #[.int .u32 t115, .int .i64 t117] 42 (0, 0)) bkp hb); have n2_ := Aside0.mk (below_step (bel HB) hb); clear BK111; clear BK119; clear HB; have BK111 := n0_; have BK119 := n1_; have HB := n2_; clear n0_ n1_ n2_; (try clear hb); (try clear hb2); (try clear hk); (try clear hi); have hcz18 := cz2 BK119.out; have hcz19 := cz2 BK111.out))
     refine bodyPost_ret (results_ct rfl _ _ gb111 42 #[.int .u32 t115, .int .i64 t117] (0, 0) _ rfl bkp Tryd.underlying42 rfl (by kernel_rfl)) rfl ?_
     exact ⟨fin, bel HB⟩
    ·replace c9 := Bool.eq_false_iff.mpr c9
     subst c9
     have H1 : (some (0, 0, 13)) = some (r1, r2, r3) := by rw [if_neg (show ¬ (false = true) by decide)] at H; exact H
     clear H;have H := H1;clear H1;simp only [Option.some.injEq, Prod.mk.injEq] at H;obtain ⟨rfl, rfl, rfl⟩ := H;go_enter Tryd.func33, Tryd.ntmps33
     go_wp2_with (first | ((with_reducible refine gate_dst (N := 2) rfl ?_); refine box_event rfl (N := 2) rfl (cs := #[.int .u32 0, .int .i64 0]) (t := 42) gs ?_; intro gb111 hg w20 hbox hb; have n0_ := Aside0.mk (below_step (bel HB) hb); have n1_ := Aside0.mk (hbox); have n2_ := gew HB hg; have n3_ := gew HB hg; clear HB; have HB := n0_; have BK111 := n1_; have GW111 := n2_; have GE111 := n3_; clear n0_ n1_ n2_ n3_; clear hb hbox hg) | ((with_reducible refine gate_callee (f := 80) rfl ?_); refine goesL_ (some 13) rfl rfl Tryd.func80 (by kernel_rfl) rfl #[.string a0, .string (⟨#[47]⟩ : ByteArray)] rfl aok ?_; (with_reducible refine (strings_Cut.calls a0 (⟨#[47]⟩ : ByteArray) t112 t113 true _ (Hand.Good.below true false hGG.out (bel HB) rfl rfl) A2.out).mono ?_); rintro e w21 ⟨rfl, hb⟩; refine ⟨_, rfl, ?_⟩; have n0_ := Aside0.mk (bb BK111.out hb); have n1_ := Aside0.mk (below_step (bel HB) hb); clear BK111; clear HB; have BK111 := n0_; have HB := n1_; clear n0_ n1_; (try clear hb); (try clear hb2); (try clear hk); (try clear hi)) | ((with_reducible refine gate_callee (f := 52) rfl ?_); refine goesL_ (some 22) rfl rfl Tryd.func52 (by kernel_rfl) rfl #[.string t112] rfl aok ?_; (with_reducible refine (hdr_ParseAddr.calls k t112 t115 t116 _ (Hand.Good.below true false hGG.out (bel HB) rfl rfl) A4.out).mono ?_); rintro e w22 ⟨rfl, hb⟩; refine ⟨_, rfl, ?_⟩; have n0_ := Aside0.mk (bb BK111.out hb); have n1_ := Aside0.mk (below_step (bel HB) hb); clear BK111; clear HB; have BK111 := n0_; have HB := n1_; clear n0_ n1_; (try clear hb); (try clear hb2); (try clear hk); (try clear hi)) | ((with_reducible refine gate_callee (f := 30) rfl ?_); refine goesL_ (some 31) rfl rfl Tryd.func30 (by kernel_rfl) rfl #[.string t113, .int .i64 32] rfl aok ?_; (with_reducible refine (hdr_Number.calls t113 32 t117 t118 _ A6.out).mono ?_); rintro e w23 ⟨rfl, hb⟩; refine ⟨_, rfl, ?_⟩; have n0_ := Aside0.mk (bb BK111.out hb); have n1_ := Aside0.mk (below_step (bel HB) hb); clear BK111; clear HB; have BK111 := n0_; have HB := n1_; clear n0_ n1_; (try clear hb); (try clear hb2); (try clear hk); (try clear hi)) | ((with_reducible refine gate_dst (N := 10) rfl ?_); refine box_event rfl (N := 10) rfl (cs := #[.int .u32 0, .int .i64 0]) (t := 42) gs ?_; intro gb119 hg w24 hbox hb; have n0_ := Aside0.mk (bb BK111.out hb); have n1_ := Aside0.mk (below_step (bel HB) hb); have n2_ := Aside0.mk (hbox); have n3_ := gew HB hg; have n4_ := gew HB hg; have n5_ := Aside0.mk ((ne1 BK111.out hg : gb111 ≠ gb119)); have n6_ := Aside0.mk ((ne2 BK111.out hg : gb119 ≠ gb111)); clear BK111; clear HB; have BK111 := n0_; have HB := n1_; have BK119 := n2_; have GW119 := n3_; have GE119 := n4_; have NB111_119 := n5_; have NB119_111 := n6_; clear n0_ n1_ n2_ n3_ n4_ n5_ n6_; clear hb hbox hg; have hnb25 := NB119_111.out; have hnc25 := NB111_119.out; have hcz26 := cz2 BK119.out) | ((with_reducible refine gate_callee (f := 86) rfl ?_); refine goesL_ (some 42) rfl rfl Tryd.func86 (by kernel_rfl) rfl #[.agg #[.int .u32 t115, .int .i64 t117]] rfl aok ?_; (with_reducible refine (cidr_Right.calls t115 t117 false _ A8.out).mono ?_); rintro e w27 ⟨rfl, hb⟩; refine ⟨_, rfl, ?_⟩; have n0_ := Aside0.mk (blk_below (g := gb111) (o := .cells #[.int .u32 0, .int .i64 0] 42 (0, 0)) bkp hb); have n1_ := Aside0.mk (blk_below (g := gb119) (o := .cells #[.int .u32 t115, .int .i64 t117] 42 (0, 0)) bkp hb); have n2_ := Aside0.mk (below_step (bel HB) hb); clear BK111; clear BK119; clear HB; have BK111 := n0_; have BK119 := n1_; have HB := n2_; clear n0_ n1_ n2_; (try clear hb); (try clear hb2); (try clear hk); (try clear hi); have hcz28 := cz2 BK111.out))
     refine bodyPost_ret (results_ct rfl _ _ gb111 42 #[.int .u32 0, .int .i64 0] (0, 0) _ rfl bkp Tryd.underlying42 rfl (by kernel_rfl)) rfl ?_
     exact ⟨fin, bel HB⟩
   ·rw [if_neg c7] at H
    have c7b0 : (t118 == 0) = false := beq_eq_false_iff_ne.mpr c7;have c7b1 : (t118 != 0) = true := bne_iff_ne.mpr c7;simp only [Option.some.injEq, Prod.mk.injEq] at H;obtain ⟨rfl, rfl, rfl⟩ := H;go_enter Tryd.func33, Tryd.ntmps33
    go_wp2_with (first | ((with_reducible refine gate_dst (N := 2) rfl ?_); refine box_event rfl (N := 2) rfl (cs := #[.int .u32 0, .int .i64 0]) (t := 42) gs ?_; intro gb111 hg w29 hbox hb; have n0_ := Aside0.mk (below_step (bel HB) hb); have n1_ := Aside0.mk (hbox); have n2_ := gew HB hg; have n3_ := gew HB hg; clear HB; have HB := n0_; have BK111 := n1_; have GW111 := n2_; have GE111 := n3_; clear n0_ n1_ n2_ n3_; clear hb hbox hg) | ((with_reducible refine gate_callee (f := 80) rfl ?_); refine goesL_ (some 13) rfl rfl Tryd.func80 (by kernel_rfl) rfl #[.string a0, .string (⟨#[47]⟩ : ByteArray)] rfl aok ?_; (with_reducible refine (strings_Cut.calls a0 (⟨#[47]⟩ : ByteArray) t112 t113 true _ (Hand.Good.below true false hGG.out (bel HB) rfl rfl) A2.out).mono ?_); rintro e w30 ⟨rfl, hb⟩; refine ⟨_, rfl, ?_⟩; have n0_ := Aside0.mk (bb BK111.out hb); have n1_ := Aside0.mk (below_step (bel HB) hb); clear BK111; clear HB; have BK111 := n0_; have HB := n1_; clear n0_ n1_; (try clear hb); (try clear hb2); (try clear hk); (try clear hi)) | ((with_reducible refine gate_callee (f := 52) rfl ?_); refine goesL_ (some 22) rfl rfl Tryd.func52 (by kernel_rfl) rfl #[.string t112] rfl aok ?_; (with_reducible refine (hdr_ParseAddr.calls k t112 t115 t116 _ (Hand.Good.below true false hGG.out (bel HB) rfl rfl) A4.out).mono ?_); rintro e w31 ⟨rfl, hb⟩; refine ⟨_, rfl, ?_⟩; have n0_ := Aside0.mk (bb BK111.out hb); have n1_ := Aside0.mk (below_step (bel HB) hb); clear BK111; clear HB; have BK111 := n0_; have HB := n1_; clear n0_ n1_; (try clear hb); (try clear hb2); (try clear hk); (try clear hi)) | ((with_reducible refine gate_callee (f := 30) rfl ?_); refine goesL_ (some 31) rfl rfl Tryd.func30 (by kernel_rfl) rfl #[.string t113, .int .i64 32] rfl aok ?_; (with_reducible refine (hdr_Number.calls t113 32 t117 t118 _ A6.out).mono ?_); rintro e w32 ⟨rfl, hb⟩; refine ⟨_, rfl, ?_⟩; have n0_ := Aside0.mk (bb BK111.out hb); have n1_ := Aside0.mk (below_step (bel HB) hb); clear BK111; clear HB; have BK111 := n0_; have HB := n1_; clear n0_ n1_; (try clear hb); (try clear hb2); (try clear hk); (try clear hi); have hcz33 := cz2 BK111.out))
    refine bodyPost_ret (results_ct rfl _ _ gb111 42 #[.int .u32 0, .int .i64 0] (0, 0) _ rfl bkp Tryd.underlying42 rfl (by kernel_rfl)) rfl ?_
    exact ⟨fin, bel HB⟩
  ·rw [if_neg c5] at H
   have c5b0 : (t116 == 0) = false := beq_eq_false_iff_ne.mpr c5;have c5b1 : (t116 != 0) = true := bne_iff_ne.mpr c5;simp only [Option.some.injEq, Prod.mk.injEq] at H;obtain ⟨rfl, rfl, rfl⟩ := H;go_enter Tryd.func33, Tryd.ntmps33
   go_wp2_with (first | ((with_reducible refine gate_dst (N := 2) rfl ?_); refine box_event rfl (N := 2) rfl (cs := #[.int .u32 0, .int .i64 0]) (t := 42) gs ?_; intro gb111 hg w34 hbox hb; have n0_ := Aside0.mk (below_step (bel HB) hb); have n1_ := Aside0.mk (hbox); have n2_ := gew HB hg; have n3_ := gew HB hg; clear HB; have HB := n0_; have BK111 := n1_; have GW111 := n2_; have GE111 := n3_; clear n0_ n1_ n2_ n3_; clear hb hbox hg) | ((with_reducible refine gate_callee (f := 80) rfl ?_); refine goesL_ (some 13) rfl rfl Tryd.func80 (by kernel_rfl) rfl #[.string a0, .string (⟨#[47]⟩ : ByteArray)] rfl aok ?_; (with_reducible refine (strings_Cut.calls a0 (⟨#[47]⟩ : ByteArray) t112 t113 true _ (Hand.Good.below true false hGG.out (bel HB) rfl rfl) A2.out).mono ?_); rintro e w35 ⟨rfl, hb⟩; refine ⟨_, rfl, ?_⟩; have n0_ := Aside0.mk (bb BK111.out hb); have n1_ := Aside0.mk (below_step (bel HB) hb); clear BK111; clear HB; have BK111 := n0_; have HB := n1_; clear n0_ n1_; (try clear hb); (try clear hb2); (try clear hk); (try clear hi)) | ((with_reducible refine gate_callee (f := 52) rfl ?_); refine goesL_ (some 22) rfl rfl Tryd.func52 (by kernel_rfl) rfl #[.string t112] rfl aok ?_; (with_reducible refine (hdr_ParseAddr.calls k t112 t115 t116 _ (Hand.Good.below true false hGG.out (bel HB) rfl rfl) A4.out).mono ?_); rintro e w36 ⟨rfl, hb⟩; refine ⟨_, rfl, ?_⟩; have n0_ := Aside0.mk (bb BK111.out hb); have n1_ := Aside0.mk (below_step (bel HB) hb); clear BK111; clear HB; have BK111 := n0_; have HB := n1_; clear n0_ n1_; (try clear hb); (try clear hb2); (try clear hk); (try clear hi); have hcz37 := cz2 BK111.out))
   refine bodyPost_ret (results_ct rfl _ _ gb111 42 #[.int .u32 0, .int .i64 0] (0, 0) _ rfl bkp Tryd.underlying42 rfl (by kernel_rfl)) rfl ?_
   exact ⟨fin, bel HB⟩
 ·replace c3 := Bool.eq_false_iff.mpr c3
  subst c3
  have H1 : (some (0, 0, 6)) = some (r1, r2, r3) := by rw [if_neg (show ¬ (false = true) by decide)] at H; exact H
  clear H;have H := H1;clear H1;simp only [Option.some.injEq, Prod.mk.injEq] at H;obtain ⟨rfl, rfl, rfl⟩ := H;go_enter Tryd.func33, Tryd.ntmps33
  go_wp2_with (first | ((with_reducible refine gate_dst (N := 2) rfl ?_); refine box_event rfl (N := 2) rfl (cs := #[.int .u32 0, .int .i64 0]) (t := 42) gs ?_; intro gb111 hg w38 hbox hb; have n0_ := Aside0.mk (below_step (bel HB) hb); have n1_ := Aside0.mk (hbox); have n2_ := gew HB hg; have n3_ := gew HB hg; clear HB; have HB := n0_; have BK111 := n1_; have GW111 := n2_; have GE111 := n3_; clear n0_ n1_ n2_ n3_; clear hb hbox hg) | ((with_reducible refine gate_callee (f := 80) rfl ?_); refine goesL_ (some 13) rfl rfl Tryd.func80 (by kernel_rfl) rfl #[.string a0, .string (⟨#[47]⟩ : ByteArray)] rfl aok ?_; (with_reducible refine (strings_Cut.calls a0 (⟨#[47]⟩ : ByteArray) t112 t113 false _ (Hand.Good.below true false hGG.out (bel HB) rfl rfl) A2.out).mono ?_); rintro e w39 ⟨rfl, hb⟩; refine ⟨_, rfl, ?_⟩; have n0_ := Aside0.mk (bb BK111.out hb); have n1_ := Aside0.mk (below_step (bel HB) hb); clear BK111; clear HB; have BK111 := n0_; have HB := n1_; clear n0_ n1_; (try clear hb); (try clear hb2); (try clear hk); (try clear hi); have hcz40 := cz2 BK111.out))
  refine bodyPost_ret (results_ct rfl _ _ gb111 42 #[.int .u32 0, .int .i64 0] (0, 0) _ rfl bkp Tryd.underlying42 rfl (by kernel_rfl)) rfl ?_
  exact ⟨fin, bel HB⟩

end Go.Proofs.YtloclimoffhbhaaDoor.PSto
