-- Written by wip/myprint.py (this session's own driver); Lean checks it.
import Derived.Test.YtloclimoffhbhaaDoorPAllx0
import Derived.Test.YtloclimoffhbhaaDoorPAllx103
import Derived.Test.YtloclimoffhbhaaDoorPAllx105
import Derived.Test.YtloclimoffhbhaaDoorPAllx107
import Derived.Test.YtloclimoffhbhaaDoorPAllx109
namespace Go.Proofs.YtloclimoffhbhaaDoor.PAll
open Go.RowKit Go.Proofs.YtloclimoffhbhaaDoorW.PrintWords Go.Proofs.YtloclimoffhbhaaDoorW.PrintLast Go.Proofs.YtloclimoffhbhaaDoorW.PrintMore
attribute [local go_sem] max2_int min2_int max_two min_two max_three min_three max_four min_four   -- for this text's walks alone
set_option linter.unusedVariables false
set_option linter.unusedSimpArgs false

/-! ### hdr_Compare: function 39 -/
def hdr_Compare.f (k : Nat) (a0_0 : Int) (a0_1 : Int) (a0_2 : Int) (a0_3 : Int) (a0_4 : Int) (a1_0 : Int) (a1_1 : Int) (a1_2 : Int) (a1_3 : Int) (a1_4 : Int) : Option (Int) := (cmp_Compare_uint32.f a0_0 a1_0).bind fun t492 => ((cmp_Compare_uint32.f a0_1 a1_1).bind fun t493 => ((cmp_Compare_uint8.f a0_2 a1_2).bind fun t494 => ((cmp_Compare_uint16.f a0_3 a1_3).bind fun t495 => ((cmp_Compare_uint16.f a0_4 a1_4).bind fun t496 => ((cmp_Or_int.f k (([t492, t493, t494, t495, t496] : List Int))).bind fun t500 => (some t500))))))
theorem hdr_Compare.mono : ∀ a0 a1 a2 a3 a4 a5 a6 a7 a8 a9 k, LeO (hdr_Compare.f k a0 a1 a2 a3 a4 a5 a6 a7 a8 a9) (hdr_Compare.f (k + 1) a0 a1 a2 a3 a4 a5 a6 a7 a8 a9) := by
  intro a0 a1 a2 a3 a4 a5 a6 a7 a8 a9 k
  unfold hdr_Compare.f
  repeat' first
      | (with_reducible exact cmp_Or_int.mono _ _)
      | (with_reducible exact LeO.refl _)
      | (with_reducible exact LeO.none _)
      | (with_reducible refine LeO.ite ?_ ?_)
      | (with_reducible refine LeO.bind ?_ (fun _ => ?_))
      | exact cmp_Or_int.mono _ _
      | exact LeO.none _
      | refine LeO.ite ?_ ?_
      | refine LeO.bind ?_ (fun _ => ?_)
def hdr_Compare.T1 : Bool × List (List Nat × List Nat) := (true, [([], []), ([0], [0]), ([], []), ([2], [2]), ([1, 3], [1, 3]), ([], []), ([5], [5]), ([], []), ([7], [7]), ([6, 8, 4], [6, 8]), ([], []), ([10], [10]), ([], []), ([12], [12]), ([11, 13, 9], [11, 13]), ([], []), ([15], [15]), ([], []), ([17], [17]), ([16, 18, 14], [16, 18]), ([], []), ([20], [20]), ([], []), ([22], [22]), ([21, 23, 19], [21, 23]), ([4, 9, 14, 19, 24], [4, 9, 14, 19, 24]), ([25, 24], [25]), ([26, 26, 0, 1, 2, 3, 4, 5, 6, 7, 8, 9, 10, 11, 12, 13, 14, 15, 16, 17, 18, 19, 20, 21, 22, 23, 24, 25, 26], [26])])
def hdr_Compare.B1 : List Nat := [0, 1, 0, 4, 15, 0, 32, 0, 128, 511, 0, 1024, 0, 4096, 16383, 0, 32768, 0, 131072, 524287, 0, 1048576, 0, 4194304, 16777215, 33554431, 67108863, 134217727]
theorem hdr_Compare.tab1 : rtab .any (opsOf Tryd.f39 1) = hdr_Compare.T1 := by kernel_rfl
theorem hdr_Compare.bits1 : waitsOk hdr_Compare.T1.2 hdr_Compare.B1 = true := by kernel_rfl
set_option maxHeartbeats 8000000 in
set_option maxRecDepth 100000 in
theorem hdr_Compare.calls (k : Nat) (a0_0 : Int) (a0_1 : Int) (a0_2 : Int) (a0_3 : Int) (a0_4 : Int) (a1_0 : Int) (a1_1 : Int) (a1_2 : Int) (a1_3 : Int) (a1_4 : Int) (r : Int) (w : World) (h : hdr_Compare.f k a0_0 a0_1 a0_2 a0_3 a0_4 a1_0 a1_1 a1_2 a1_3 a1_4 = some r) :
    Calls Tryd.prog 39 #[.agg #[.int .u32 a0_0, .int .u32 a0_1, .int .u8 a0_2, .int .u16 a0_3, .int .u16 a0_4], .agg #[.int .u32 a1_0, .int .u32 a1_1, .int .u8 a1_2, .int .u16 a1_3, .int .u16 a1_4]] w fun e w' => e = .returned (.int .i64 r) ∧ Below w.heap.size w w' := by
  have hu67 := Tryd.underlying67
  have HB := Aside0.mk (Below.refl w.heap.size w)
  have H : ((cmp_Compare_uint32.f a0_0 a1_0).bind fun t492 => ((cmp_Compare_uint32.f a0_1 a1_1).bind fun t493 => ((cmp_Compare_uint8.f a0_2 a1_2).bind fun t494 => ((cmp_Compare_uint16.f a0_3 a1_3).bind fun t495 => ((cmp_Compare_uint16.f a0_4 a1_4).bind fun t496 => ((cmp_Or_int.f k (([t492, t493, t494, t495, t496] : List Int))).bind fun t500 => (some t500))))))) = some r := h
  clear h
  replace H := Option.bind_eq_some_iff.mp H
  obtain ⟨t492, A30, H⟩ := H
  replace H : ((cmp_Compare_uint32.f a0_1 a1_1).bind fun t493 => ((cmp_Compare_uint8.f a0_2 a1_2).bind fun t494 => ((cmp_Compare_uint16.f a0_3 a1_3).bind fun t495 => ((cmp_Compare_uint16.f a0_4 a1_4).bind fun t496 => ((cmp_Or_int.f k (([t492, t493, t494, t495, t496] : List Int))).bind fun t500 => (some t500)))))) = some r := H
  have A3 := Aside0.mk A30
  clear A30
  replace H := Option.bind_eq_some_iff.mp H
  obtain ⟨t493, A40, H⟩ := H
  replace H : ((cmp_Compare_uint8.f a0_2 a1_2).bind fun t494 => ((cmp_Compare_uint16.f a0_3 a1_3).bind fun t495 => ((cmp_Compare_uint16.f a0_4 a1_4).bind fun t496 => ((cmp_Or_int.f k (([t492, t493, t494, t495, t496] : List Int))).bind fun t500 => (some t500))))) = some r := H
  have A4 := Aside0.mk A40
  clear A40
  replace H := Option.bind_eq_some_iff.mp H
  obtain ⟨t494, A50, H⟩ := H
  replace H : ((cmp_Compare_uint16.f a0_3 a1_3).bind fun t495 => ((cmp_Compare_uint16.f a0_4 a1_4).bind fun t496 => ((cmp_Or_int.f k (([t492, t493, t494, t495, t496] : List Int))).bind fun t500 => (some t500)))) = some r := H
  have A5 := Aside0.mk A50
  clear A50
  replace H := Option.bind_eq_some_iff.mp H
  obtain ⟨t495, A60, H⟩ := H
  replace H : ((cmp_Compare_uint16.f a0_4 a1_4).bind fun t496 => ((cmp_Or_int.f k (([t492, t493, t494, t495, t496] : List Int))).bind fun t500 => (some t500))) = some r := H
  have A6 := Aside0.mk A60
  clear A60
  replace H := Option.bind_eq_some_iff.mp H
  obtain ⟨t496, A70, H⟩ := H
  replace H : ((cmp_Or_int.f k (([t492, t493, t494, t495, t496] : List Int))).bind fun t500 => (some t500)) = some r := H
  have A7 := Aside0.mk A70
  clear A70
  obtain ⟨y497, hy497⟩ : ∃ y_ : List Int, y_ = (([t492, t493, t494, t495, t496] : List Int)) := ⟨_, rfl⟩
  replace H : ((cmp_Or_int.f k y497).bind fun t500 => (some t500)) = some r := by first | (rw [hy497]; with_reducible exact H) | (have H2_ := (Option.bind_some _ _).symm.trans H; rw [hy497]; with_reducible exact H2_) | (have H2_ := (Option.bind_some _ _).symm.trans H; with_reducible exact H2_) | with_reducible exact H | (rw [hy497]; exact H) | exact H
  have Ny497 := Aside0.mk hy497
  clear hy497
  replace H := Option.bind_eq_some_iff.mp H
  obtain ⟨t500, A80, H⟩ := H
  replace H : (some t500) = some r := H
  have A8 := Aside0.mk A80
  clear A80
  obtain rfl := Option.some.inj H
  go_enter Tryd.func39, Tryd.ntmps39
  try go_wp2_with (first | ((with_reducible refine gate_dst (N := 2) rfl ?_); refine box_event ?hg (N := 2) ?hd (cs := #[.int .u32 a0_0, .int .u32 a0_1, .int .u8 a0_2, .int .u16 a0_3, .int .u16 a0_4]) (t := 67) ?hr ?_; (case hd => rfl); (case hg => rfl); (case hr => first | (go_simp; done) | (go_simp; rfl)); intro gb490 hg w9 hbox hb; have n0_ := Aside0.mk (below_step (by repeat (first | (with_reducible first | exact HB.out | apply below_alloc | apply pw_below_drewN | apply below_drew1) | exact HB.out)) hb); have n1_ := Aside0.mk (hbox); have n2_ := Aside0.mk ((by rw [hg]; exact (below_size (by repeat (first | (with_reducible first | exact HB.out | apply below_alloc | apply pw_below_drewN | apply below_drew1) | exact HB.out))) : w.heap.size ≤ gb490)); have n3_ := Aside0.mk ((by rw [hg]; exact (below_size (by repeat (first | (with_reducible first | exact HB.out | apply below_alloc | apply pw_below_drewN | apply below_drew1) | exact HB.out))) : w.heap.size ≤ gb490)); clear HB; have HB := n0_; have BK490 := n1_; have GW490 := n2_; have GE490 := n3_; clear n0_ n1_ n2_ n3_; clear hb hbox hg) | ((with_reducible refine gate_dst (N := 3) rfl ?_); refine box_event ?hg (N := 3) ?hd (cs := #[.int .u32 a1_0, .int .u32 a1_1, .int .u8 a1_2, .int .u16 a1_3, .int .u16 a1_4]) (t := 67) ?hr ?_; (case hd => rfl); (case hg => rfl); (case hr => first | (go_simp; done) | (go_simp; rfl)); intro gb491 hg w10 hbox hb; have n0_ := Aside0.mk (blk_below (g := gb490) (o := .cells #[.int .u32 a0_0, .int .u32 a0_1, .int .u8 a0_2, .int .u16 a0_3, .int .u16 a0_4] 67 (0, 0)) (by (with_reducible repeat (first | refine blk_drewN ?_ _ | refine blk_drew ?_ | refine blk_alloc ?_ _)); exact BK490.out) hb); have n1_ := Aside0.mk (below_step (by repeat (first | (with_reducible first | exact HB.out | apply below_alloc | apply pw_below_drewN | apply below_drew1 | refine below_set ?_ GE490.out) | exact HB.out)) hb); have n2_ := Aside0.mk (hbox); have n3_ := Aside0.mk ((by rw [hg]; exact (below_size (by repeat (first | (with_reducible first | exact HB.out | apply below_alloc | apply pw_below_drewN | apply below_drew1 | refine below_set ?_ GE490.out) | exact HB.out))) : w.heap.size ≤ gb491)); have n4_ := Aside0.mk ((by rw [hg]; exact (below_size (by repeat (first | (with_reducible first | exact HB.out | apply below_alloc | apply pw_below_drewN | apply below_drew1 | refine below_set ?_ GE490.out) | exact HB.out))) : w.heap.size ≤ gb491)); have n5_ := Aside0.mk ((by rw [hg]; exact Nat.ne_of_lt (blk_lt (g := gb490) (o := .cells #[.int .u32 a0_0, .int .u32 a0_1, .int .u8 a0_2, .int .u16 a0_3, .int .u16 a0_4] 67 (0, 0)) (by (with_reducible repeat (first | refine blk_drewN ?_ _ | refine blk_drew ?_ | refine blk_alloc ?_ _)); exact BK490.out)) : gb490 ≠ gb491)); have n6_ := Aside0.mk ((by rw [hg]; exact Nat.ne_of_gt (blk_lt (g := gb490) (o := .cells #[.int .u32 a0_0, .int .u32 a0_1, .int .u8 a0_2, .int .u16 a0_3, .int .u16 a0_4] 67 (0, 0)) (by (with_reducible repeat (first | refine blk_drewN ?_ _ | refine blk_drew ?_ | refine blk_alloc ?_ _)); exact BK490.out)) : gb491 ≠ gb490)); clear BK490; clear HB; have BK490 := n0_; have HB := n1_; have BK491 := n2_; have GW491 := n3_; have GE491 := n4_; have NB490_491 := n5_; have NB491_490 := n6_; clear n0_ n1_ n2_ n3_ n4_ n5_ n6_; clear hb hbox hg))
  have n0_ := Aside0.mk (blk_drew BK490.out)
  have n1_ := Aside0.mk (blk_drew BK491.out)
  have n2_ := Aside0.mk (below_drew1 HB.out)
  clear BK490
  clear BK491
  clear HB
  have BK490 := n0_
  have BK491 := n1_
  have HB := n2_
  clear n0_ n1_ n2_
  refine start_ (n := 28) (S := fun w' => w'.cell? ⟨gb490, 0, none⟩ = some (.int .u32 a0_0) ∧ w'.cell? ⟨gb490, 1, none⟩ = some (.int .u32 a0_1) ∧ w'.cell? ⟨gb490, 2, none⟩ = some (.int .u8 a0_2) ∧ w'.cell? ⟨gb490, 3, none⟩ = some (.int .u16 a0_3) ∧ w'.cell? ⟨gb490, 4, none⟩ = some (.int .u16 a0_4) ∧ w'.cell? ⟨gb491, 0, none⟩ = some (.int .u32 a1_0) ∧ w'.cell? ⟨gb491, 1, none⟩ = some (.int .u32 a1_1) ∧ w'.cell? ⟨gb491, 2, none⟩ = some (.int .u8 a1_2) ∧ w'.cell? ⟨gb491, 3, none⟩ = some (.int .u16 a1_3) ∧ w'.cell? ⟨gb491, 4, none⟩ = some (.int .u16 a1_4)) (ds := []) #[false, false, false, false, false, false, false, false, false, false, false, false, false, false, false, false, false, false, false, false, false, false, false, false, false, false, false, false] (by kernel_rfl) rfl rfl ⟨(blk_cell BK490.out 0).trans rfl, (blk_cell BK490.out 1).trans rfl, (blk_cell BK490.out 2).trans rfl, (blk_cell BK490.out 3).trans rfl, (blk_cell BK490.out 4).trans rfl, (blk_cell BK491.out 0).trans rfl, (blk_cell BK491.out 1).trans rfl, (blk_cell BK491.out 2).trans rfl, (blk_cell BK491.out 3).trans rfl, (blk_cell BK491.out 4).trans rfl⟩ (fun hHeld => ?_); refine with_tabW hdr_Compare.tab1 hdr_Compare.bits1 (fun HT_ HW_ => ?_)
  generalize w10.drew = w11 at BK490 BK491 HB hHeld ⊢
  refine pure_ (i := 0) (N := some 5) (v := ?_) (a' := ?_) #[true, false, false, false, false, false, false, false, false, false, false, false, false, false, false, false, false, false, false, false, false, false, false, false, false, false, false, false] rfl rfl (any_of HT_.out (by kernel_rfl)) (fun _ _ _ h => h) (Or.inl ⟨by rfl, ?_⟩) ?_ ?_
  rotate_left
  · intro w'
    go_simp
    with_reducible rfl
  rotate_left
  · simp only [Act.put, List.setIfInBounds_toArray, List.set_cons_zero, List.set_cons_succ, i64_w, i32_w]
    rfl
  refine pure_ (i := 2) (N := some 7) (v := ?_) (a' := ?_) #[true, false, true, false, false, false, false, false, false, false, false, false, false, false, false, false, false, false, false, false, false, false, false, false, false, false, false, false] rfl rfl (any_of HT_.out (by kernel_rfl)) (fun _ _ _ h => h) (Or.inl ⟨by rfl, ?_⟩) ?_ ?_
  rotate_left
  · intro w'
    go_simp
    with_reducible rfl
  rotate_left
  · simp only [Act.put, List.setIfInBounds_toArray, List.set_cons_zero, List.set_cons_succ, i64_w, i32_w]
    rfl
  refine pure_ (i := 5) (N := some 10) (v := ?_) (a' := ?_) #[true, false, true, false, false, true, false, false, false, false, false, false, false, false, false, false, false, false, false, false, false, false, false, false, false, false, false, false] rfl rfl (any_of HT_.out (by kernel_rfl)) (fun _ _ _ h => h) (Or.inl ⟨by rfl, ?_⟩) ?_ ?_
  rotate_left
  · intro w'
    go_simp
    with_reducible rfl
  rotate_left
  · simp only [Act.put, List.setIfInBounds_toArray, List.set_cons_zero, List.set_cons_succ, i64_w, i32_w]
    rfl
  refine pure_ (i := 7) (N := some 12) (v := ?_) (a' := ?_) #[true, false, true, false, false, true, false, true, false, false, false, false, false, false, false, false, false, false, false, false, false, false, false, false, false, false, false, false] rfl rfl (any_of HT_.out (by kernel_rfl)) (fun _ _ _ h => h) (Or.inl ⟨by rfl, ?_⟩) ?_ ?_
  rotate_left
  · intro w'
    go_simp
    with_reducible rfl
  rotate_left
  · simp only [Act.put, List.setIfInBounds_toArray, List.set_cons_zero, List.set_cons_succ, i64_w, i32_w]
    rfl
  refine pure_ (i := 10) (N := some 15) (v := ?_) (a' := ?_) #[true, false, true, false, false, true, false, true, false, false, true, false, false, false, false, false, false, false, false, false, false, false, false, false, false, false, false, false] rfl rfl (any_of HT_.out (by kernel_rfl)) (fun _ _ _ h => h) (Or.inl ⟨by rfl, ?_⟩) ?_ ?_
  rotate_left
  · intro w'
    go_simp
    with_reducible rfl
  rotate_left
  · simp only [Act.put, List.setIfInBounds_toArray, List.set_cons_zero, List.set_cons_succ, i64_w, i32_w]
    rfl
  refine pure_ (i := 12) (N := some 17) (v := ?_) (a' := ?_) #[true, false, true, false, false, true, false, true, false, false, true, false, true, false, false, false, false, false, false, false, false, false, false, false, false, false, false, false] rfl rfl (any_of HT_.out (by kernel_rfl)) (fun _ _ _ h => h) (Or.inl ⟨by rfl, ?_⟩) ?_ ?_
  rotate_left
  · intro w'
    go_simp
    with_reducible rfl
  rotate_left
  · simp only [Act.put, List.setIfInBounds_toArray, List.set_cons_zero, List.set_cons_succ, i64_w, i32_w]
    rfl
  refine pure_ (i := 15) (N := some 20) (v := ?_) (a' := ?_) #[true, false, true, false, false, true, false, true, false, false, true, false, true, false, false, true, false, false, false, false, false, false, false, false, false, false, false, false] rfl rfl (any_of HT_.out (by kernel_rfl)) (fun _ _ _ h => h) (Or.inl ⟨by rfl, ?_⟩) ?_ ?_
  rotate_left
  · intro w'
    go_simp
    with_reducible rfl
  rotate_left
  · simp only [Act.put, List.setIfInBounds_toArray, List.set_cons_zero, List.set_cons_succ, i64_w, i32_w]
    rfl
  refine pure_ (i := 17) (N := some 22) (v := ?_) (a' := ?_) #[true, false, true, false, false, true, false, true, false, false, true, false, true, false, false, true, false, true, false, false, false, false, false, false, false, false, false, false] rfl rfl (any_of HT_.out (by kernel_rfl)) (fun _ _ _ h => h) (Or.inl ⟨by rfl, ?_⟩) ?_ ?_
  rotate_left
  · intro w'
    go_simp
    with_reducible rfl
  rotate_left
  · simp only [Act.put, List.setIfInBounds_toArray, List.set_cons_zero, List.set_cons_succ, i64_w, i32_w]
    rfl
  refine pure_ (i := 20) (N := some 25) (v := ?_) (a' := ?_) #[true, false, true, false, false, true, false, true, false, false, true, false, true, false, false, true, false, true, false, false, true, false, false, false, false, false, false, false] rfl rfl (any_of HT_.out (by kernel_rfl)) (fun _ _ _ h => h) (Or.inl ⟨by rfl, ?_⟩) ?_ ?_
  rotate_left
  · intro w'
    go_simp
    with_reducible rfl
  rotate_left
  · simp only [Act.put, List.setIfInBounds_toArray, List.set_cons_zero, List.set_cons_succ, i64_w, i32_w]
    rfl
  refine pure_ (i := 22) (N := some 27) (v := ?_) (a' := ?_) #[true, false, true, false, false, true, false, true, false, false, true, false, true, false, false, true, false, true, false, false, true, false, true, false, false, false, false, false] rfl rfl (any_of HT_.out (by kernel_rfl)) (fun _ _ _ h => h) (Or.inl ⟨by rfl, ?_⟩) ?_ ?_
  rotate_left
  · intro w'
    go_simp
    with_reducible rfl
  rotate_left
  · simp only [Act.put, List.setIfInBounds_toArray, List.set_cons_zero, List.set_cons_succ, i64_w, i32_w]
    rfl
  refine take_ (i := 1) (N := some 6) (v := ?_) (a' := ?_) #[true, true, true, false, false, true, false, true, false, false, true, false, true, false, false, true, false, true, false, false, true, false, true, false, false, false, false, false] rfl rfl (take_ofW HT_.out HW_.out (by kernel_rfl)) (fun _ _ _ h => h) (Or.inl ⟨by rfl, ?_⟩) hHeld ?_ ?_
  rotate_left
  · rintro w' ⟨s0, s1, s2, s3, s4, s5, s6, s7, s8, s9⟩
    go_simp
    with_reducible rfl
  rotate_left
  · simp only [Act.put, List.setIfInBounds_toArray, List.set_cons_zero, List.set_cons_succ, i64_w, i32_w]
    rfl
  refine take_ (i := 3) (N := some 8) (v := ?_) (a' := ?_) #[true, true, true, true, false, true, false, true, false, false, true, false, true, false, false, true, false, true, false, false, true, false, true, false, false, false, false, false] rfl rfl (take_ofW HT_.out HW_.out (by kernel_rfl)) (fun _ _ _ h => h) (Or.inl ⟨by rfl, ?_⟩) hHeld ?_ ?_
  rotate_left
  · rintro w' ⟨s0, s1, s2, s3, s4, s5, s6, s7, s8, s9⟩
    go_simp
    with_reducible rfl
  rotate_left
  · simp only [Act.put, List.setIfInBounds_toArray, List.set_cons_zero, List.set_cons_succ, i64_w, i32_w]
    rfl
  refine take_ (i := 6) (N := some 11) (v := ?_) (a' := ?_) #[true, true, true, true, false, true, true, true, false, false, true, false, true, false, false, true, false, true, false, false, true, false, true, false, false, false, false, false] rfl rfl (take_ofW HT_.out HW_.out (by kernel_rfl)) (fun _ _ _ h => h) (Or.inl ⟨by rfl, ?_⟩) hHeld ?_ ?_
  rotate_left
  · rintro w' ⟨s0, s1, s2, s3, s4, s5, s6, s7, s8, s9⟩
    go_simp
    with_reducible rfl
  rotate_left
  · simp only [Act.put, List.setIfInBounds_toArray, List.set_cons_zero, List.set_cons_succ, i64_w, i32_w]
    rfl
  refine take_ (i := 8) (N := some 13) (v := ?_) (a' := ?_) #[true, true, true, true, false, true, true, true, true, false, true, false, true, false, false, true, false, true, false, false, true, false, true, false, false, false, false, false] rfl rfl (take_ofW HT_.out HW_.out (by kernel_rfl)) (fun _ _ _ h => h) (Or.inl ⟨by rfl, ?_⟩) hHeld ?_ ?_
  rotate_left
  · rintro w' ⟨s0, s1, s2, s3, s4, s5, s6, s7, s8, s9⟩
    go_simp
    with_reducible rfl
  rotate_left
  · simp only [Act.put, List.setIfInBounds_toArray, List.set_cons_zero, List.set_cons_succ, i64_w, i32_w]
    rfl
  refine take_ (i := 11) (N := some 16) (v := ?_) (a' := ?_) #[true, true, true, true, false, true, true, true, true, false, true, true, true, false, false, true, false, true, false, false, true, false, true, false, false, false, false, false] rfl rfl (take_ofW HT_.out HW_.out (by kernel_rfl)) (fun _ _ _ h => h) (Or.inl ⟨by rfl, ?_⟩) hHeld ?_ ?_
  rotate_left
  · rintro w' ⟨s0, s1, s2, s3, s4, s5, s6, s7, s8, s9⟩
    go_simp
    with_reducible rfl
  rotate_left
  · simp only [Act.put, List.setIfInBounds_toArray, List.set_cons_zero, List.set_cons_succ, i64_w, i32_w]
    rfl
  refine take_ (i := 13) (N := some 18) (v := ?_) (a' := ?_) #[true, true, true, true, false, true, true, true, true, false, true, true, true, true, false, true, false, true, false, false, true, false, true, false, false, false, false, false] rfl rfl (take_ofW HT_.out HW_.out (by kernel_rfl)) (fun _ _ _ h => h) (Or.inl ⟨by rfl, ?_⟩) hHeld ?_ ?_
  rotate_left
  · rintro w' ⟨s0, s1, s2, s3, s4, s5, s6, s7, s8, s9⟩
    go_simp
    with_reducible rfl
  rotate_left
  · simp only [Act.put, List.setIfInBounds_toArray, List.set_cons_zero, List.set_cons_succ, i64_w, i32_w]
    rfl
  refine take_ (i := 16) (N := some 21) (v := ?_) (a' := ?_) #[true, true, true, true, false, true, true, true, true, false, true, true, true, true, false, true, true, true, false, false, true, false, true, false, false, false, false, false] rfl rfl (take_ofW HT_.out HW_.out (by kernel_rfl)) (fun _ _ _ h => h) (Or.inl ⟨by rfl, ?_⟩) hHeld ?_ ?_
  rotate_left
  · rintro w' ⟨s0, s1, s2, s3, s4, s5, s6, s7, s8, s9⟩
    go_simp
    with_reducible rfl
  rotate_left
  · simp only [Act.put, List.setIfInBounds_toArray, List.set_cons_zero, List.set_cons_succ, i64_w, i32_w]
    rfl
  refine take_ (i := 18) (N := some 23) (v := ?_) (a' := ?_) #[true, true, true, true, false, true, true, true, true, false, true, true, true, true, false, true, true, true, true, false, true, false, true, false, false, false, false, false] rfl rfl (take_ofW HT_.out HW_.out (by kernel_rfl)) (fun _ _ _ h => h) (Or.inl ⟨by rfl, ?_⟩) hHeld ?_ ?_
  rotate_left
  · rintro w' ⟨s0, s1, s2, s3, s4, s5, s6, s7, s8, s9⟩
    go_simp
    with_reducible rfl
  rotate_left
  · simp only [Act.put, List.setIfInBounds_toArray, List.set_cons_zero, List.set_cons_succ, i64_w, i32_w]
    rfl
  refine take_ (i := 21) (N := some 26) (v := ?_) (a' := ?_) #[true, true, true, true, false, true, true, true, true, false, true, true, true, true, false, true, true, true, true, false, true, true, true, false, false, false, false, false] rfl rfl (take_ofW HT_.out HW_.out (by kernel_rfl)) (fun _ _ _ h => h) (Or.inl ⟨by rfl, ?_⟩) hHeld ?_ ?_
  rotate_left
  · rintro w' ⟨s0, s1, s2, s3, s4, s5, s6, s7, s8, s9⟩
    go_simp
    with_reducible rfl
  rotate_left
  · simp only [Act.put, List.setIfInBounds_toArray, List.set_cons_zero, List.set_cons_succ, i64_w, i32_w]
    rfl
  refine take_ (i := 23) (N := some 28) (v := ?_) (a' := ?_) #[true, true, true, true, false, true, true, true, true, false, true, true, true, true, false, true, true, true, true, false, true, true, true, true, false, false, false, false] rfl rfl (take_ofW HT_.out HW_.out (by kernel_rfl)) (fun _ _ _ h => h) (Or.inl ⟨by rfl, ?_⟩) hHeld ?_ ?_
  rotate_left
  · rintro w' ⟨s0, s1, s2, s3, s4, s5, s6, s7, s8, s9⟩
    go_simp
    with_reducible rfl
  rotate_left
  · simp only [Act.put, List.setIfInBounds_toArray, List.set_cons_zero, List.set_cons_succ, i64_w, i32_w]
    rfl
  refine one_ (i := 4) (N := some 9) #[true, true, true, true, true, true, true, true, true, false, true, true, true, true, false, true, true, true, true, false, true, true, true, true, false, false, false, false] rfl rfl (one_of HT_.out (by kernel_rfl)) (by decide) (fun K hK => ?_)
  refine goes_ Tryd.func90 (by kernel_rfl) rfl #[.int .u32 a0_0, .int .u32 a1_0] (by rfl) rfl rfl (by (try simp only [List.map_toArray, List.map_cons, List.map_nil]); first | done | rfl | (simp only [List.length_drop, List.length_take]; rfl)) ?_
  with_reducible refine (cmp_Compare_uint32.calls a0_0 a1_0 t492 _ A3.out).mono ?_
  rintro e w' ⟨rfl, ⟨nd, rfl⟩⟩
  refine ⟨_, rfl, ?_⟩
  refine hK.out _ _ ⟨(blk_cell BK490.out 0).trans rfl, (blk_cell BK490.out 1).trans rfl, (blk_cell BK490.out 2).trans rfl, (blk_cell BK490.out 3).trans rfl, (blk_cell BK490.out 4).trans rfl, (blk_cell BK491.out 0).trans rfl, (blk_cell BK491.out 1).trans rfl, (blk_cell BK491.out 2).trans rfl, (blk_cell BK491.out 3).trans rfl, (blk_cell BK491.out 4).trans rfl⟩ (fun hHeld => ?_)
  clear hK K
  refine norm_ (a' := ?_) ?_ ?_
  rotate_left
  · show Act.put _ (some 9) _ = _
    simp only [Act.put, List.setIfInBounds_toArray, List.set_cons_zero, List.set_cons_succ, i64_w, i32_w]
    rfl
  refine one_ (i := 9) (N := some 14) #[true, true, true, true, true, true, true, true, true, true, true, true, true, true, false, true, true, true, true, false, true, true, true, true, false, false, false, false] rfl rfl (one_of HT_.out (by kernel_rfl)) (by decide) (fun K hK => ?_)
  refine goes_ Tryd.func90 (by kernel_rfl) rfl #[.int .u32 a0_1, .int .u32 a1_1] (by rfl) rfl rfl (by (try simp only [List.map_toArray, List.map_cons, List.map_nil]); first | done | rfl | (simp only [List.length_drop, List.length_take]; rfl)) ?_
  with_reducible refine (cmp_Compare_uint32.calls a0_1 a1_1 t493 _ A4.out).mono ?_
  rintro e w' ⟨rfl, ⟨nd, rfl⟩⟩
  refine ⟨_, rfl, ?_⟩
  refine hK.out _ _ ⟨(blk_cell BK490.out 0).trans rfl, (blk_cell BK490.out 1).trans rfl, (blk_cell BK490.out 2).trans rfl, (blk_cell BK490.out 3).trans rfl, (blk_cell BK490.out 4).trans rfl, (blk_cell BK491.out 0).trans rfl, (blk_cell BK491.out 1).trans rfl, (blk_cell BK491.out 2).trans rfl, (blk_cell BK491.out 3).trans rfl, (blk_cell BK491.out 4).trans rfl⟩ (fun hHeld => ?_)
  clear hK K
  refine norm_ (a' := ?_) ?_ ?_
  rotate_left
  · show Act.put _ (some 14) _ = _
    simp only [Act.put, List.setIfInBounds_toArray, List.set_cons_zero, List.set_cons_succ, i64_w, i32_w]
    rfl
  refine one_ (i := 14) (N := some 19) #[true, true, true, true, true, true, true, true, true, true, true, true, true, true, true, true, true, true, true, false, true, true, true, true, false, false, false, false] rfl rfl (one_of HT_.out (by kernel_rfl)) (by decide) (fun K hK => ?_)
  refine goes_ Tryd.func91 (by kernel_rfl) rfl #[.int .u8 a0_2, .int .u8 a1_2] (by rfl) rfl rfl (by (try simp only [List.map_toArray, List.map_cons, List.map_nil]); first | done | rfl | (simp only [List.length_drop, List.length_take]; rfl)) ?_
  with_reducible refine (cmp_Compare_uint8.calls a0_2 a1_2 t494 _ A5.out).mono ?_
  rintro e w' ⟨rfl, ⟨nd, rfl⟩⟩
  refine ⟨_, rfl, ?_⟩
  refine hK.out _ _ ⟨(blk_cell BK490.out 0).trans rfl, (blk_cell BK490.out 1).trans rfl, (blk_cell BK490.out 2).trans rfl, (blk_cell BK490.out 3).trans rfl, (blk_cell BK490.out 4).trans rfl, (blk_cell BK491.out 0).trans rfl, (blk_cell BK491.out 1).trans rfl, (blk_cell BK491.out 2).trans rfl, (blk_cell BK491.out 3).trans rfl, (blk_cell BK491.out 4).trans rfl⟩ (fun hHeld => ?_)
  clear hK K
  refine norm_ (a' := ?_) ?_ ?_
  rotate_left
  · show Act.put _ (some 19) _ = _
    simp only [Act.put, List.setIfInBounds_toArray, List.set_cons_zero, List.set_cons_succ, i64_w, i32_w]
    rfl
  refine one_ (i := 19) (N := some 24) #[true, true, true, true, true, true, true, true, true, true, true, true, true, true, true, true, true, true, true, true, true, true, true, true, false, false, false, false] rfl rfl (one_of HT_.out (by kernel_rfl)) (by decide) (fun K hK => ?_)
  refine goes_ Tryd.func92 (by kernel_rfl) rfl #[.int .u16 a0_3, .int .u16 a1_3] (by rfl) rfl rfl (by (try simp only [List.map_toArray, List.map_cons, List.map_nil]); first | done | rfl | (simp only [List.length_drop, List.length_take]; rfl)) ?_
  with_reducible refine (cmp_Compare_uint16.calls a0_3 a1_3 t495 _ A6.out).mono ?_
  rintro e w' ⟨rfl, ⟨nd, rfl⟩⟩
  refine ⟨_, rfl, ?_⟩
  refine hK.out _ _ ⟨(blk_cell BK490.out 0).trans rfl, (blk_cell BK490.out 1).trans rfl, (blk_cell BK490.out 2).trans rfl, (blk_cell BK490.out 3).trans rfl, (blk_cell BK490.out 4).trans rfl, (blk_cell BK491.out 0).trans rfl, (blk_cell BK491.out 1).trans rfl, (blk_cell BK491.out 2).trans rfl, (blk_cell BK491.out 3).trans rfl, (blk_cell BK491.out 4).trans rfl⟩ (fun hHeld => ?_)
  clear hK K
  refine norm_ (a' := ?_) ?_ ?_
  rotate_left
  · show Act.put _ (some 24) _ = _
    simp only [Act.put, List.setIfInBounds_toArray, List.set_cons_zero, List.set_cons_succ, i64_w, i32_w]
    rfl
  refine one_ (i := 24) (N := some 29) #[true, true, true, true, true, true, true, true, true, true, true, true, true, true, true, true, true, true, true, true, true, true, true, true, true, false, false, false] rfl rfl (one_of HT_.out (by kernel_rfl)) (by decide) (fun K hK => ?_)
  refine goes_ Tryd.func92 (by kernel_rfl) rfl #[.int .u16 a0_4, .int .u16 a1_4] (by rfl) rfl rfl (by (try simp only [List.map_toArray, List.map_cons, List.map_nil]); first | done | rfl | (simp only [List.length_drop, List.length_take]; rfl)) ?_
  with_reducible refine (cmp_Compare_uint16.calls a0_4 a1_4 t496 _ A7.out).mono ?_
  rintro e w' ⟨rfl, ⟨nd, rfl⟩⟩
  refine ⟨_, rfl, ?_⟩
  refine hK.out _ _ ⟨(blk_cell BK490.out 0).trans rfl, (blk_cell BK490.out 1).trans rfl, (blk_cell BK490.out 2).trans rfl, (blk_cell BK490.out 3).trans rfl, (blk_cell BK490.out 4).trans rfl, (blk_cell BK491.out 0).trans rfl, (blk_cell BK491.out 1).trans rfl, (blk_cell BK491.out 2).trans rfl, (blk_cell BK491.out 3).trans rfl, (blk_cell BK491.out 4).trans rfl⟩ (fun hHeld => ?_)
  clear hK K
  refine norm_ (a' := ?_) ?_ ?_
  rotate_left
  · show Act.put _ (some 29) _ = _
    simp only [Act.put, List.setIfInBounds_toArray, List.set_cons_zero, List.set_cons_succ, i64_w, i32_w]
    rfl
  refine one_ (i := 25) (N := some 30) #[true, true, true, true, true, true, true, true, true, true, true, true, true, true, true, true, true, true, true, true, true, true, true, true, true, true, false, false] rfl rfl (one_of HT_.out (by kernel_rfl)) (by decide) (fun K hK => ?_)
  refine Kd.R_lit_step (Kd.int .i64) _ 3 ?hg (N := 30) ?hd (xs := ([t492, t493, t494, t495, t496] : List Int)) (inner := [.int .i64 t492, .int .i64 t493, .int .i64 t494, .int .i64 t495, .int .i64 t496]) (ok := fun _ => True) (okp := fun _ => True) ?hr ?hp (fun _ hk => hk) trivial (Below.refl _ _) (Nat.le_refl _) (by simp) ?_; (case hd => rfl); (case hg => rfl); (case hr => first | (go_simp; done) | (go_simp; rfl)); (case hp => exact (Reps.one (show Kd.M (Kd.int .i64) _ _ _ t492 [.int .i64 t492] from rfl) (Reps.one (show Kd.M (Kd.int .i64) _ _ _ t493 [.int .i64 t493] from rfl) (Reps.one (show Kd.M (Kd.int .i64) _ _ _ t494 [.int .i64 t494] from rfl) (Reps.one (show Kd.M (Kd.int .i64) _ _ _ t495 [.int .i64 t495] from rfl) (Reps.one (show Kd.M (Kd.int .i64) _ _ _ t496 [.int .i64 t496] from rfl) (Reps.none _ _)))))))
  intro v498 w12 ho13 hb hg_ hnew_
  clear hg_ hnew_
  (first | rw [← Ny497.out] at ho13 | (simp only [Int.reduceToNat] at ho13; rw [← Ny497.out] at ho13))
  have n0_ := Aside0.mk (Kd.R_lower ho13 (below_size (by repeat (first | (with_reducible first | exact HB.out | apply below_alloc | apply pw_below_drewN | apply below_drew1 | refine below_set ?_ GE490.out | refine below_set ?_ GE491.out) | exact HB.out))))
  have n1_ := Aside0.mk (blk_below (g := gb490) (o := .cells #[.int .u32 a0_0, .int .u32 a0_1, .int .u8 a0_2, .int .u16 a0_3, .int .u16 a0_4] 67 (0, 0)) (by (with_reducible repeat (first | refine blk_drewN ?_ _ | refine blk_drew ?_ | refine blk_alloc ?_ _)); exact BK490.out) hb)
  have n2_ := Aside0.mk (blk_below (g := gb491) (o := .cells #[.int .u32 a1_0, .int .u32 a1_1, .int .u8 a1_2, .int .u16 a1_3, .int .u16 a1_4] 67 (0, 0)) (by (with_reducible repeat (first | refine blk_drewN ?_ _ | refine blk_drew ?_ | refine blk_alloc ?_ _)); exact BK491.out) hb)
  have n3_ := Aside0.mk (below_step (by repeat (first | (with_reducible first | exact HB.out | apply below_alloc | apply pw_below_drewN | apply below_drew1 | refine below_set ?_ GE490.out | refine below_set ?_ GE491.out) | exact HB.out)) hb)
  clear BK490
  clear BK491
  clear HB
  have HO499 := n0_
  have BK490 := n1_
  have BK491 := n2_
  have HB := n3_
  clear n0_ n1_ n2_ n3_
  clear hb ho13
  obtain ⟨Ao14, co14, eo14⟩ := Kd.R_slice HO499.out
  (first | subst eo14 | (injection eo14 with f1_ f2_ f3_; have f4_ := f1_.symm; have f5_ := f3_.symm; clear f1_ f2_ f3_; subst f4_; subst f5_))
  refine hK.out _ _ ⟨(blk_cell BK490.out 0).trans rfl, (blk_cell BK490.out 1).trans rfl, (blk_cell BK490.out 2).trans rfl, (blk_cell BK490.out 3).trans rfl, (blk_cell BK490.out 4).trans rfl, (blk_cell BK491.out 0).trans rfl, (blk_cell BK491.out 1).trans rfl, (blk_cell BK491.out 2).trans rfl, (blk_cell BK491.out 3).trans rfl, (blk_cell BK491.out 4).trans rfl⟩ (fun hHeld => ?_)
  clear hK K
  refine norm_ (a' := ?_) ?_ ?_
  rotate_left
  · show Act.put _ (some 30) _ = _
    simp only [Act.put, List.setIfInBounds_toArray, List.set_cons_zero, List.set_cons_succ, i64_w, i32_w]
    rfl
  refine one_ (i := 26) (N := some 31) #[true, true, true, true, true, true, true, true, true, true, true, true, true, true, true, true, true, true, true, true, true, true, true, true, true, true, true, false] rfl rfl (one_of HT_.out (by kernel_rfl)) (by decide) (fun K hK => ?_)
  refine goes_ Tryd.func89 (by kernel_rfl) rfl #[.slice Ao14 y497.length co14] (by rfl) rfl rfl (by (try simp only [List.map_toArray, List.map_cons, List.map_nil]); first | done | rfl | (simp only [List.length_drop, List.length_take]; rfl)) ?_
  with_reducible refine (cmp_Or_int.calls k _ _ y497 t500 _ ?side1 ?side2 A8.out).mono ?_
  (case side1 => repeat (first | exact (Kd.R_reads' HO499.out).2.2 | (with_reducible refine Kd.C_alloc ?_ _) | (with_reducible refine Kd.C_drewN ?_ _) | (with_reducible refine Kd.C_drew ?_)))
  (case side2 => exact (Kd.R_reads' HO499.out).2.1)
  rintro e w' ⟨rfl, ⟨nd, rfl⟩⟩
  refine ⟨_, rfl, ?_⟩
  refine hK.out _ _ ⟨(blk_cell BK490.out 0).trans rfl, (blk_cell BK490.out 1).trans rfl, (blk_cell BK490.out 2).trans rfl, (blk_cell BK490.out 3).trans rfl, (blk_cell BK490.out 4).trans rfl, (blk_cell BK491.out 0).trans rfl, (blk_cell BK491.out 1).trans rfl, (blk_cell BK491.out 2).trans rfl, (blk_cell BK491.out 3).trans rfl, (blk_cell BK491.out 4).trans rfl⟩ (fun hHeld => ?_)
  clear hK K
  refine norm_ (a' := ?_) ?_ ?_
  rotate_left
  · show Act.put _ (some 31) _ = _
    simp only [Act.put, List.setIfInBounds_toArray, List.set_cons_zero, List.set_cons_succ, i64_w, i32_w]
    rfl
  refine pure_ (i := 27) (N := some 4) (v := ?_) (a' := ?_) #[true, true, true, true, true, true, true, true, true, true, true, true, true, true, true, true, true, true, true, true, true, true, true, true, true, true, true, true] rfl rfl (any_of HT_.out (by kernel_rfl)) (fun _ _ _ h => h) (Or.inl ⟨by rfl, ?_⟩) ?_ ?_
  rotate_left
  · intro w'
    go_simp
    with_reducible rfl
  rotate_left
  · simp only [Act.put, List.setIfInBounds_toArray, List.set_cons_zero, List.set_cons_succ, i64_w, i32_w]
    rfl
  refine done_ (done_of HT_.out (by kernel_rfl)) ?_
  try go_wp2
  go_ret
  exact ⟨by first | rfl | (simp [errW_none, errW_some] <;> rfl) | (simp [*, errW_none, errW_some] <;> rfl), by repeat (first | (with_reducible first | exact HB.out | apply below_alloc | apply pw_below_drewN | apply below_drew1 | refine below_set ?_ GE490.out | refine below_set ?_ GE491.out) | exact HB.out)⟩

end Go.Proofs.YtloclimoffhbhaaDoor.PAll
