-- Written by wip/myprint.py and wip/merge.py (this session's own programs); Lean checks it.
-- halved
import Derived.Test.YtloclimoffhbhaaDoorSq6
import Derived.Test.YtloclimoffhbhaaDoorPStox0
import Derived.Test.YtloclimoffhbhaaDoorPStox6
import Derived.Test.YtloclimoffhbhaaDoorPStox7
namespace Go.Proofs.YtloclimoffhbhaaDoor.PSto
open Go.RowKit Go.Proofs.YtloclimoffhbhaaDoorW.PrintWords Go.Proofs.YtloclimoffhbhaaDoorW.PrintLast Go.Proofs.YtloclimoffhbhaaDoorW.PrintMore Go.Proofs.YtloclimoffhbhaaDoorW.PrintSq List
attribute [local go_sem] max2_int min2_int max_two min_two max_three min_three max_four min_four   -- for this text's walks alone
set_option linter.unusedVariables false
set_option linter.unusedSimpArgs false

/-! ### filter_Print: function 66 -/
def filter_Print.j0 : Nat → ByteArray → Int → Int → Int → Int → Int → Int → Int → Int → Int → Option (ByteArray)
 | 0, _, _, _, _, _, _, _, _, _, _ => none
 | k + 1, x3, x340000, x340001, x340002, x340003, x340004, x340005, x340006, x340007, x340008 => (cidr_Print.f k x340000 x340001).bind fun t341 => ((cidr_Print.f k x340002 x340003).bind fun t342 => ((cidr_PrintRange.f x340005 x340006).bind fun t343 => ((cidr_PrintRange.f x340007 x340008).bind fun t344 => ((strings_Join.f (([t341, t342, x3, t343, t344] : List ByteArray)) (⟨#[32]⟩ : ByteArray)).bind fun t348 => (some t348)))))
def filter_Print.f (k : Nat) (a0_0 : Int) (a0_1 : Int) (a0_2 : Int) (a0_3 : Int) (a0_4 : Int) (a0_5 : Int) (a0_6 : Int) (a0_7 : Int) (a0_8 : Int) : Option (ByteArray) := if a0_4 = (-1) then (filter_Print.j0 k (⟨#[97, 110, 121]⟩ : ByteArray) a0_0 a0_1 a0_2 a0_3 a0_4 a0_5 a0_6 a0_7 a0_8) else ((strconv_Itoa_76.f a0_4).bind fun t340 => (filter_Print.j0 k t340 a0_0 a0_1 a0_2 a0_3 a0_4 a0_5 a0_6 a0_7 a0_8))
def filter_Print.T4 : Bool × List (List Nat × List Nat) := (true, [([], []), ([0], [0]), ([1], [1]), ([], []), ([3], [3]), ([4, 2], [4]), ([], []), ([], []), ([7], [7]), ([8, 5], [8]), ([], []), ([10], [10]), ([11, 9], [11]), ([2, 5, 6, 9, 12], [2, 5, 6, 9, 12]), ([13, 12], [13]), ([14, 14, 0, 1, 2, 3, 4, 5, 6, 7, 8, 9, 10, 11, 12, 13, 14], [14])])
def filter_Print.B4 : List Nat := [0, 1, 3, 0, 8, 31, 0, 0, 128, 447, 0, 1024, 4031, 8191, 16383, 32767]
theorem filter_Print.tab4 : rtab .any (opsOf Tryd.f66 4) = filter_Print.T4 := by kernel_rfl
theorem filter_Print.bits4 : waitsOk filter_Print.T4.2 filter_Print.B4 = true := by kernel_rfl
set_option maxHeartbeats 8000000 in
set_option maxRecDepth 100000 in
theorem filter_Print.calls (k : Nat) (a0_0 : Int) (a0_1 : Int) (a0_2 : Int) (a0_3 : Int) (a0_4 : Int) (a0_5 : Int) (a0_6 : Int) (a0_7 : Int) (a0_8 : Int) (r : ByteArray) (w : World) (hG : Hand.Good false true w) (h : filter_Print.f k a0_0 a0_1 a0_2 a0_3 a0_4 a0_5 a0_6 a0_7 a0_8 = some r) :
  Calls Tryd.prog 66 #[.agg #[.int .u32 a0_0, .int .i64 a0_1, .int .u32 a0_2, .int .i64 a0_3, .int .i64 a0_4, .int .u16 a0_5, .int .u16 a0_6, .int .u16 a0_7, .int .u16 a0_8]] w fun e w' => e = .returned (.string r) ∧ Below w.heap.size w w' := by
 have hu77 := Tryd.underlying77;have hu42 := Tryd.underlying42;have hu61 := Tryd.underlying61;have HB := Aside0.mk (Below.refl w.heap.size w);have hGG := Aside0.mk hG;clear hG
 have H : (if a0_4 = (-1) then (filter_Print.j0 k (⟨#[97, 110, 121]⟩ : ByteArray) a0_0 a0_1 a0_2 a0_3 a0_4 a0_5 a0_6 a0_7 a0_8) else ((strconv_Itoa_76.f a0_4).bind fun t340 => (filter_Print.j0 k t340 a0_0 a0_1 a0_2 a0_3 a0_4 a0_5 a0_6 a0_7 a0_8))) = some r := h
 clear h;have HC2 := Aside0.mk H;clear H;go_enter Tryd.func66, Tryd.ntmps66
 go_upto_if 6 with (first | ((with_reducible refine gate_dst (N := 1) rfl ?_); refine box_event rfl (N := 1) rfl (cs := #[.int .u32 a0_0, .int .i64 a0_1, .int .u32 a0_2, .int .i64 a0_3, .int .i64 a0_4, .int .u16 a0_5, .int .u16 a0_6, .int .u16 a0_7, .int .u16 a0_8]) (t := 77) gs ?_; intro gb339 hg w3 hbox hb; have n0_ := Aside0.mk (below_step (bel HB) hb); have n1_ := Aside0.mk (hbox); have n2_ := gew HB hg; have n3_ := gew HB hg; clear HB; have HB := n0_; have BK339 := n1_; have GW339 := n2_; have GE339 := n3_; clear n0_ n1_ n2_ n3_; clear hb hbox hg; have hcz4 := cz9 BK339.out))
 (try simp only [Act.put, setIfInBounds_toArray, set_cons_zero, set_cons_succ])
 go_cut [3] (fun v3 wc => ∃ (kq : Nat) (x3_1 : ByteArray), v3 = .string x3_1 ∧ Aside0 (filter_Print.j0 kq x3_1 a0_0 a0_1 a0_2 a0_3 a0_4 a0_5 a0_6 a0_7 a0_8 = some r) ∧ Aside0 (kq ≤ k) ∧ Aside0 (wc.heap[gb339]? = some (.cells #[.int .u32 a0_0, .int .i64 a0_1, .int .u32 a0_2, .int .i64 a0_3, .int .i64 a0_4, .int .u16 a0_5, .int .u16 a0_6, .int .u16 a0_7, .int .u16 a0_8] 77 (0, 0))) ∧ Aside0 (Below w.heap.size w wc))
 case first =>
  have H := HC2.out;clear HC2
  by_cases c5 : a0_4 = (-1)
  ·rw [if_pos c5] at H
   have c5b0 : (a0_4 == (-1)) = true := beq_iff_eq.mpr c5;have c5b1 : (a0_4 != (-1)) = false := bne_eq_false_iff_eq.mpr c5;clear c5;(first | rw [c5b0] | (simp only [i64_w, i32_w]; rw [c5b0]) | skip);have H' := Aside0.mk H;clear H;go_wp2;go_meet
   case rel => exact ⟨_, ((⟨#[97, 110, 121]⟩ : ByteArray)), (by first | rfl | (simp; done) | (simp [*]; done)), H', ⟨by first | omega | exact Nat.le_refl _⟩, ⟨bkp⟩, ⟨by repeat (first | (with_reducible first | exact HB.out | apply below_alloc | apply pw_below_drewN | apply below_drew1 | refine below_set ?_ GE339.out) | exact HB.out)⟩⟩
  ·rw [if_neg c5] at H
   have c5b0 : (a0_4 == (-1)) = false := beq_eq_false_iff_ne.mpr c5;have c5b1 : (a0_4 != (-1)) = true := bne_iff_ne.mpr c5;(first | rw [c5b0] | (simp only [i64_w, i32_w]; rw [c5b0]) | skip);replace H := Option.bind_eq_some_iff.mp H;obtain ⟨t340, A60, H⟩ := H;replace H : (filter_Print.j0 k t340 a0_0 a0_1 a0_2 a0_3 a0_4 a0_5 a0_6 a0_7 a0_8) = some r := H;have A6 := Aside0.mk A60;clear A60;have H' := Aside0.mk H;clear H;have hcz7 := cz9 BK339.out
   go_wp2_with (first | ((with_reducible refine gate_callee (f := 76) rfl ?_); refine goesL_ (some 9) rfl rfl Tryd.func76 (by kernel_rfl) rfl #[.int .i64 a0_4] rfl aok ?_; (with_reducible refine (strconv_Itoa_76.calls a0_4 t340 _ (Hand.Good.below false true hGG.out (bel HB) rfl rfl) A6.out).mono ?_); rintro e w8 ⟨rfl, hb⟩; refine ⟨_, rfl, ?_⟩; have n0_ := Aside0.mk (bb BK339.out hb); have n1_ := Aside0.mk (below_step (bel HB) hb); clear BK339; clear HB; have BK339 := n0_; have HB := n1_; clear n0_ n1_; (try clear hb); (try clear hb2); (try clear hk); (try clear hi)))
   go_meet
   case rel => exact ⟨_, (t340), (by first | rfl | (simp; done) | (simp [*]; done)), H', ⟨by first | omega | exact Nat.le_refl _⟩, ⟨bkp⟩, ⟨by repeat (first | (with_reducible first | exact HB.out | apply below_alloc | apply pw_below_drewN | apply below_drew1 | refine below_set ?_ GE339.out) | exact HB.out)⟩⟩
 case rest =>
  clear HC2
  try clear p2
  try clear c5
  try clear c5b0
  try clear c5b1
  try clear c6
  try clear c7
  try clear hcz4
  try clear hcz7
  obtain ⟨kq, x3_1, rfl, HA, HJ1, BK339, HB⟩ := hcut
  cases kq with
  | zero => exact absurd HA.out (by simp [filter_Print.j0])
  | succ kj1 =>
   have H := HA.out;clear HA;simp only [filter_Print.j0] at H;replace H := Option.bind_eq_some_iff.mp H;obtain ⟨t341, A90, H⟩ := H
   replace H : ((cidr_Print.f kj1 a0_2 a0_3).bind fun t342 => ((cidr_PrintRange.f a0_5 a0_6).bind fun t343 => ((cidr_PrintRange.f a0_7 a0_8).bind fun t344 => ((strings_Join.f (([t341, t342, x3_1, t343, t344] : List ByteArray)) (⟨#[32]⟩ : ByteArray)).bind fun t348 => (some t348))))) = some r := H
   have A9 := Aside0.mk A90;clear A90;replace H := Option.bind_eq_some_iff.mp H;obtain ⟨t342, A100, H⟩ := H
   replace H : ((cidr_PrintRange.f a0_5 a0_6).bind fun t343 => ((cidr_PrintRange.f a0_7 a0_8).bind fun t344 => ((strings_Join.f (([t341, t342, x3_1, t343, t344] : List ByteArray)) (⟨#[32]⟩ : ByteArray)).bind fun t348 => (some t348)))) = some r := H
   have A10 := Aside0.mk A100;clear A100;replace H := Option.bind_eq_some_iff.mp H;obtain ⟨t343, A110, H⟩ := H
   replace H : ((cidr_PrintRange.f a0_7 a0_8).bind fun t344 => ((strings_Join.f (([t341, t342, x3_1, t343, t344] : List ByteArray)) (⟨#[32]⟩ : ByteArray)).bind fun t348 => (some t348))) = some r := H
   have A11 := Aside0.mk A110;clear A110;replace H := Option.bind_eq_some_iff.mp H;obtain ⟨t344, A120, H⟩ := H
   replace H : ((strings_Join.f (([t341, t342, x3_1, t343, t344] : List ByteArray)) (⟨#[32]⟩ : ByteArray)).bind fun t348 => (some t348)) = some r := H
   have A12 := Aside0.mk A120;clear A120;obtain ⟨y345, hy345⟩ : ∃ y_ : List ByteArray, y_ = (([t341, t342, x3_1, t343, t344] : List ByteArray)) := ⟨_, rfl⟩
   replace H : ((strings_Join.f y345 (⟨#[32]⟩ : ByteArray)).bind fun t348 => (some t348)) = some r := by first | (rw [hy345]; with_reducible exact H) | (have H2_ := (Option.bind_some _ _).symm.trans H; rw [hy345]; with_reducible exact H2_) | (have H2_ := (Option.bind_some _ _).symm.trans H; with_reducible exact H2_) | with_reducible exact H | (rw [hy345]; exact H) | exact H
   have Ny345 := Aside0.mk hy345;clear hy345;replace H := Option.bind_eq_some_iff.mp H;obtain ⟨t348, A130, H⟩ := H;replace H : (some t348) = some r := H;have A13 := Aside0.mk A130;clear A130;obtain rfl := Option.some.inj H
   try go_wp2
   replace BK339 := Aside0.mk (blk_drew BK339.out);replace HB := Aside0.mk (below_drew1 HB.out)
   refine start_ (n := 16) (S := fun w' => w'.cell? ⟨gb339, 0, none⟩ = some (.int .u32 a0_0) ∧ w'.cell? ⟨gb339, 1, none⟩ = some (.int .i64 a0_1) ∧ w'.cell? ⟨gb339, 2, none⟩ = some (.int .u32 a0_2) ∧ w'.cell? ⟨gb339, 3, none⟩ = some (.int .i64 a0_3) ∧ w'.cell? ⟨gb339, 4, none⟩ = some (.int .i64 a0_4) ∧ w'.cell? ⟨gb339, 5, none⟩ = some (.int .u16 a0_5) ∧ w'.cell? ⟨gb339, 6, none⟩ = some (.int .u16 a0_6) ∧ w'.cell? ⟨gb339, 7, none⟩ = some (.int .u16 a0_7) ∧ w'.cell? ⟨gb339, 8, none⟩ = some (.int .u16 a0_8)) (ds := []) #[F,F,F,F,F,F,F,F,F,F,F,F,F,F,F,F] (by kernel_rfl) rfl rfl ⟨(blk_cell BK339.out 0).trans rfl, (blk_cell BK339.out 1).trans rfl, (blk_cell BK339.out 2).trans rfl, (blk_cell BK339.out 3).trans rfl, (blk_cell BK339.out 4).trans rfl, (blk_cell BK339.out 5).trans rfl, (blk_cell BK339.out 6).trans rfl, (blk_cell BK339.out 7).trans rfl, (blk_cell BK339.out 8).trans rfl⟩ (fun hHeld => ?_); refine with_tabW filter_Print.tab4 filter_Print.bits4 (fun HT_ HW_ => ?_)
   generalize wc.drew = w14 at BK339 HB hHeld ⊢
   refine pu 0 (some 10) #[T,F,F,F,F,F,F,F,F,F,F,F,F,F,F,F] (any_of HT_.out (by kernel_rfl)) ?_
   refine pu 3 (some 13) #[T,F,F,T,F,F,F,F,F,F,F,F,F,F,F,F] (any_of HT_.out (by kernel_rfl)) ?_
   refine pu 6 (some 16) #[T,F,F,T,F,F,T,F,F,F,F,F,F,F,F,F] (any_of HT_.out (by kernel_rfl)) ?_
   refine pu 7 (some 17) #[T,F,F,T,F,F,T,T,F,F,F,F,F,F,F,F] (any_of HT_.out (by kernel_rfl)) ?_
   refine pu 10 (some 20) #[T,F,F,T,F,F,T,T,F,F,T,F,F,F,F,F] (any_of HT_.out (by kernel_rfl)) ?_
   refine take_ (i := 1) (N := some 11) (v := ?_) (a' := ?_) #[T,T,F,T,F,F,T,T,F,F,T,F,F,F,F,F] rfl rfl (take_ofW HT_.out HW_.out (by kernel_rfl)) (fun _ _ _ h => h) (Or.inl ⟨by rfl, ?_⟩) hHeld ?_ ?_
   rotate_left
   ·rintro w' ⟨s0, s1, s2, s3, s4, s5, s6, s7, s8⟩
    go_simp;with_reducible rfl
   rotate_left;·simp only [Act.put, setIfInBounds_toArray, set_cons_zero, set_cons_succ, i64_w, i32_w];rfl
   refine take_ (i := 4) (N := some 14) (v := ?_) (a' := ?_) #[T,T,F,T,T,F,T,T,F,F,T,F,F,F,F,F] rfl rfl (take_ofW HT_.out HW_.out (by kernel_rfl)) (fun _ _ _ h => h) (Or.inl ⟨by rfl, ?_⟩) hHeld ?_ ?_
   rotate_left
   ·rintro w' ⟨s0, s1, s2, s3, s4, s5, s6, s7, s8⟩
    go_simp;with_reducible rfl
   rotate_left;·simp only [Act.put, setIfInBounds_toArray, set_cons_zero, set_cons_succ, i64_w, i32_w];rfl
   refine take_ (i := 8) (N := some 18) (v := ?_) (a' := ?_) #[T,T,F,T,T,F,T,T,T,F,T,F,F,F,F,F] rfl rfl (take_ofW HT_.out HW_.out (by kernel_rfl)) (fun _ _ _ h => h) (Or.inl ⟨by rfl, ?_⟩) hHeld ?_ ?_
   rotate_left
   ·rintro w' ⟨s0, s1, s2, s3, s4, s5, s6, s7, s8⟩
    go_simp;with_reducible rfl
   rotate_left;·simp only [Act.put, setIfInBounds_toArray, set_cons_zero, set_cons_succ, i64_w, i32_w];rfl
   refine take_ (i := 11) (N := some 21) (v := ?_) (a' := ?_) #[T,T,F,T,T,F,T,T,T,F,T,T,F,F,F,F] rfl rfl (take_ofW HT_.out HW_.out (by kernel_rfl)) (fun _ _ _ h => h) (Or.inl ⟨by rfl, ?_⟩) hHeld ?_ ?_
   rotate_left
   ·rintro w' ⟨s0, s1, s2, s3, s4, s5, s6, s7, s8⟩
    go_simp;with_reducible rfl
   rotate_left;·simp only [Act.put, setIfInBounds_toArray, set_cons_zero, set_cons_succ, i64_w, i32_w];rfl
   refine one_ (i := 2) (N := some 12) #[T,T,T,T,T,F,T,T,T,F,T,T,F,F,F,F] rfl rfl (one_of HT_.out (by kernel_rfl)) (by decide) (fun K hK => ?_)
   refine goes_ Tryd.func62 (by kernel_rfl) rfl #[.agg #[.int .u32 a0_0, .int .i64 a0_1]] (by rfl) rfl rfl aok ?_
   with_reducible refine (cidr_Print.calls kj1 a0_0 a0_1 t341 _ (Hand.Good.below false true hGG.out (bel HB) rfl rfl) A9.out).mono ?_
   rintro e w15 ⟨rfl, hb⟩;refine ⟨_, rfl, ?_⟩;replace BK339 := Aside0.mk (bb BK339.out hb)
   replace HB := Aside0.mk (below_step (bel HB) hb)
   (try clear hb);(try clear hb2);(try clear hk);(try clear hi)
   refine hK.out _ _ ⟨(blk_cell BK339.out 0).trans rfl, (blk_cell BK339.out 1).trans rfl, (blk_cell BK339.out 2).trans rfl, (blk_cell BK339.out 3).trans rfl, (blk_cell BK339.out 4).trans rfl, (blk_cell BK339.out 5).trans rfl, (blk_cell BK339.out 6).trans rfl, (blk_cell BK339.out 7).trans rfl, (blk_cell BK339.out 8).trans rfl⟩ (fun hHeld => ?_)
   clear hK K
   refine nput ?_
   refine one_ (i := 5) (N := some 15) #[T,T,T,T,T,T,T,T,T,F,T,T,F,F,F,F] rfl rfl (one_of HT_.out (by kernel_rfl)) (by decide) (fun K hK => ?_)
   refine goes_ Tryd.func62 (by kernel_rfl) rfl #[.agg #[.int .u32 a0_2, .int .i64 a0_3]] (by rfl) rfl rfl aok ?_
   with_reducible refine (cidr_Print.calls kj1 a0_2 a0_3 t342 _ (Hand.Good.below false true hGG.out (bel HB) rfl rfl) A10.out).mono ?_
   rintro e w16 ⟨rfl, hb⟩;refine ⟨_, rfl, ?_⟩;replace BK339 := Aside0.mk (bb BK339.out hb)
   replace HB := Aside0.mk (below_step (bel HB) hb)
   (try clear hb);(try clear hb2);(try clear hk);(try clear hi)
   refine hK.out _ _ ⟨(blk_cell BK339.out 0).trans rfl, (blk_cell BK339.out 1).trans rfl, (blk_cell BK339.out 2).trans rfl, (blk_cell BK339.out 3).trans rfl, (blk_cell BK339.out 4).trans rfl, (blk_cell BK339.out 5).trans rfl, (blk_cell BK339.out 6).trans rfl, (blk_cell BK339.out 7).trans rfl, (blk_cell BK339.out 8).trans rfl⟩ (fun hHeld => ?_)
   clear hK K
   refine nput ?_
   refine one_ (i := 9) (N := some 19) #[T,T,T,T,T,T,T,T,T,T,T,T,F,F,F,F] rfl rfl (one_of HT_.out (by kernel_rfl)) (by decide) (fun K hK => ?_)
   refine goes_ Tryd.func59 (by kernel_rfl) rfl #[.agg #[.int .u16 a0_5, .int .u16 a0_6]] (by rfl) rfl rfl aok ?_
   with_reducible refine (cidr_PrintRange.calls a0_5 a0_6 t343 _ (Hand.Good.below false true hGG.out (bel HB) rfl rfl) A11.out).mono ?_
   rintro e w17 ⟨rfl, hb⟩;refine ⟨_, rfl, ?_⟩;replace BK339 := Aside0.mk (bb BK339.out hb)
   replace HB := Aside0.mk (below_step (bel HB) hb)
   (try clear hb);(try clear hb2);(try clear hk);(try clear hi)
   refine hK.out _ _ ⟨(blk_cell BK339.out 0).trans rfl, (blk_cell BK339.out 1).trans rfl, (blk_cell BK339.out 2).trans rfl, (blk_cell BK339.out 3).trans rfl, (blk_cell BK339.out 4).trans rfl, (blk_cell BK339.out 5).trans rfl, (blk_cell BK339.out 6).trans rfl, (blk_cell BK339.out 7).trans rfl, (blk_cell BK339.out 8).trans rfl⟩ (fun hHeld => ?_)
   clear hK K
   refine nput ?_
   refine one_ (i := 12) (N := some 22) #[T,T,T,T,T,T,T,T,T,T,T,T,T,F,F,F] rfl rfl (one_of HT_.out (by kernel_rfl)) (by decide) (fun K hK => ?_)
   refine goes_ Tryd.func59 (by kernel_rfl) rfl #[.agg #[.int .u16 a0_7, .int .u16 a0_8]] (by rfl) rfl rfl aok ?_
   with_reducible refine (cidr_PrintRange.calls a0_7 a0_8 t344 _ (Hand.Good.below false true hGG.out (bel HB) rfl rfl) A12.out).mono ?_
   rintro e w18 ⟨rfl, hb⟩;refine ⟨_, rfl, ?_⟩;replace BK339 := Aside0.mk (bb BK339.out hb)
   replace HB := Aside0.mk (below_step (bel HB) hb)
   (try clear hb);(try clear hb2);(try clear hk);(try clear hi)
   refine hK.out _ _ ⟨(blk_cell BK339.out 0).trans rfl, (blk_cell BK339.out 1).trans rfl, (blk_cell BK339.out 2).trans rfl, (blk_cell BK339.out 3).trans rfl, (blk_cell BK339.out 4).trans rfl, (blk_cell BK339.out 5).trans rfl, (blk_cell BK339.out 6).trans rfl, (blk_cell BK339.out 7).trans rfl, (blk_cell BK339.out 8).trans rfl⟩ (fun hHeld => ?_)
   clear hK K
   refine nput ?_
   refine one_ (i := 13) (N := some 23) #[T,T,T,T,T,T,T,T,T,T,T,T,T,T,F,F] rfl rfl (one_of HT_.out (by kernel_rfl)) (by decide) (fun K hK => ?_)
   refine Kd.R_lit_step Kd.string _ 9 ?hg (N := 23) ?hd (xs := ([t341, t342, x3_1, t343, t344] : List ByteArray)) (inner := [.string t341, .string t342, .string x3_1, .string t343, .string t344]) (ok := fun _ => True) (okp := fun _ => True) ?hr ?hp (fun _ hk => hk) trivial (Below.refl _ _) (Nat.le_refl _) (by simp) ?_; (case hd => rfl); (case hg => rfl); (case hr => first | (go_simp; done) | (go_simp; rfl)); (case hp => exact (Reps.one (show Kd.M Kd.string _ _ _ t341 [.string t341] from rfl) (Reps.one (show Kd.M Kd.string _ _ _ t342 [.string t342] from rfl) (Reps.one (show Kd.M Kd.string _ _ _ x3_1 [.string x3_1] from rfl) (Reps.one (show Kd.M Kd.string _ _ _ t343 [.string t343] from rfl) (Reps.one (show Kd.M Kd.string _ _ _ t344 [.string t344] from rfl) (Reps.none _ _)))))))
   intro v346 w19 ho20 hb hg_ hnew_
   clear hg_ hnew_;(first | rw [← Ny345.out] at ho20 | (simp only [Int.reduceToNat] at ho20; rw [← Ny345.out] at ho20))
   have HO347 := Aside0.mk (Kd.R_lower ho20 (below_size (bel HB)))
   replace BK339 := Aside0.mk (bb BK339.out hb)
   replace HB := Aside0.mk (below_step (bel HB) hb)
   clear hb ho20;obtain ⟨Ao21, co21, eo21⟩ := Kd.R_slice HO347.out;(first | subst eo21 | (injection eo21 with f1_ f2_ f3_; have f4_ := f1_.symm; have f5_ := f3_.symm; clear f1_ f2_ f3_; subst f4_; subst f5_))
   refine hK.out _ _ ⟨(blk_cell BK339.out 0).trans rfl, (blk_cell BK339.out 1).trans rfl, (blk_cell BK339.out 2).trans rfl, (blk_cell BK339.out 3).trans rfl, (blk_cell BK339.out 4).trans rfl, (blk_cell BK339.out 5).trans rfl, (blk_cell BK339.out 6).trans rfl, (blk_cell BK339.out 7).trans rfl, (blk_cell BK339.out 8).trans rfl⟩ (fun hHeld => ?_)
   clear hK K
   refine nput ?_
   refine one_ (i := 14) (N := some 24) #[T,T,T,T,T,T,T,T,T,T,T,T,T,T,T,F] rfl rfl (one_of HT_.out (by kernel_rfl)) (by decide) (fun K hK => ?_)
   refine goes_ Tryd.func77 (by kernel_rfl) rfl #[.slice Ao21 y345.length co21, .string (⟨#[32]⟩ : ByteArray)] (by rfl) rfl rfl aok ?_
   with_reducible refine (strings_Join.calls _ _ y345 (⟨#[32]⟩ : ByteArray) t348 _ ?side1 ?side2 A13.out).mono ?_
   (case side1 => repeat (first | exact (Kd.R_reads' HO347.out).2.2 | (with_reducible refine Kd.C_alloc ?_ _) | (with_reducible refine Kd.C_drewN ?_ _) | (with_reducible refine Kd.C_drew ?_)))
   (case side2 => exact (Kd.R_reads' HO347.out).2.1)
   rintro e w22 ⟨rfl, hb⟩;refine ⟨_, rfl, ?_⟩
   replace HO347 := Aside0.mk (Kd.R_below (rp HO347) hb)
   replace BK339 := Aside0.mk (bb BK339.out hb)
   replace HB := Aside0.mk (below_step (bel HB) hb)
   (try clear hb);(try clear hb2);(try clear hk);(try clear hi)
   refine hK.out _ _ ⟨(blk_cell BK339.out 0).trans rfl, (blk_cell BK339.out 1).trans rfl, (blk_cell BK339.out 2).trans rfl, (blk_cell BK339.out 3).trans rfl, (blk_cell BK339.out 4).trans rfl, (blk_cell BK339.out 5).trans rfl, (blk_cell BK339.out 6).trans rfl, (blk_cell BK339.out 7).trans rfl, (blk_cell BK339.out 8).trans rfl⟩ (fun hHeld => ?_)
   clear hK K
   refine nput ?_
   refine pu 15 (some 2) #[T,T,T,T,T,T,T,T,T,T,T,T,T,T,T,T] (any_of HT_.out (by kernel_rfl)) ?_
   refine done_ (done_of HT_.out (by kernel_rfl)) ?_
   try go_wp2
   go_ret
   exact ⟨fin, bel HB⟩

end Go.Proofs.YtloclimoffhbhaaDoor.PSto

namespace Go.Proofs.YtloclimoffhbhaaDoor.PSto
open Go.RowKit Go.Proofs.YtloclimoffhbhaaDoorW.PrintWords Go.Proofs.YtloclimoffhbhaaDoorW.PrintLast Go.Proofs.YtloclimoffhbhaaDoorW.PrintMore Go.Proofs.YtloclimoffhbhaaDoorW.PrintSq List
attribute [local go_sem] max2_int min2_int max_two min_two max_three min_three max_four min_four   -- for this text's walks alone
set_option linter.unusedVariables false
set_option linter.unusedSimpArgs false

/-! ### crossbuckref03_PrintRange: function 60 -/
def crossbuckref03_PrintRange.f (k : Nat) (a0_0 : Int) (a0_1 : Int) : Option (ByteArray) := (crossbuckref02_Digits.f k (wrap64 (a0_0))).bind fun t350 => (if t350.size + 1 ≤ 9223372036854775807 then ((crossbuckref02_Digits.f k (wrap64 (a0_1))).bind fun t351 => (if (t350 ++ (⟨#[45]⟩ : ByteArray)).size + t351.size ≤ 9223372036854775807 then (some ((t350 ++ (⟨#[45]⟩ : ByteArray)) ++ t351)) else (none))) else (none))
def crossbuckref03_PrintRange.T1 : Bool × List (List Nat × List Nat) := (true, [([], []), ([0], [0]), ([1], [1]), ([2], [2]), ([3], [3]), ([], []), ([5], [5]), ([6], [6]), ([7, 3], [7]), ([4, 8], [4, 8]), ([9, 8, 0, 1, 2, 3, 4, 5, 6, 7, 8, 9], [9])])
def crossbuckref03_PrintRange.B1 : List Nat := [0, 1, 3, 7, 15, 0, 32, 96, 239, 511, 1023]
theorem crossbuckref03_PrintRange.tab1 : rtab .any (opsOf Tryd.f60 1) = crossbuckref03_PrintRange.T1 := by kernel_rfl
theorem crossbuckref03_PrintRange.bits1 : waitsOk crossbuckref03_PrintRange.T1.2 crossbuckref03_PrintRange.B1 = true := by kernel_rfl
set_option maxHeartbeats 8000000 in
set_option maxRecDepth 100000 in
theorem crossbuckref03_PrintRange.calls (k : Nat) (a0_0 : Int) (a0_1 : Int) (r : ByteArray) (w : World) (h : crossbuckref03_PrintRange.f k a0_0 a0_1 = some r) :
  Calls Tryd.prog 60 #[.agg #[.int .u16 a0_0, .int .u16 a0_1]] w fun e w' => e = .returned (.string r) ∧ Below w.heap.size w w' := by
 have hu61 := Tryd.underlying61;have HB := Aside0.mk (Below.refl w.heap.size w)
 have H : ((crossbuckref02_Digits.f k (wrap64 (a0_0))).bind fun t350 => (if t350.size + 1 ≤ 9223372036854775807 then ((crossbuckref02_Digits.f k (wrap64 (a0_1))).bind fun t351 => (if (t350 ++ (⟨#[45]⟩ : ByteArray)).size + t351.size ≤ 9223372036854775807 then (some ((t350 ++ (⟨#[45]⟩ : ByteArray)) ++ t351)) else (none))) else (none))) = some r := h
 clear h;replace H := Option.bind_eq_some_iff.mp H;obtain ⟨t350, A20, H⟩ := H
 replace H : (if t350.size + 1 ≤ 9223372036854775807 then ((crossbuckref02_Digits.f k (wrap64 (a0_1))).bind fun t351 => (if (t350 ++ (⟨#[45]⟩ : ByteArray)).size + t351.size ≤ 9223372036854775807 then (some ((t350 ++ (⟨#[45]⟩ : ByteArray)) ++ t351)) else (none))) else (none)) = some r := H
 have A2 := Aside0.mk A20;clear A20
 by_cases c3 : t350.size + 1 ≤ 9223372036854775807
 ·rw [if_pos c3] at H
  have c3b0 := eq_true c3;have c3b1 : decide (t350.size + 1 ≤ 9223372036854775807) = true := decide_eq_true c3
  try have c3b2 : (9223372036854775807 < t350.size + 1) = False := eq_false (Nat.not_lt.2 c3)
  replace H := Option.bind_eq_some_iff.mp H;obtain ⟨t351, A40, H⟩ := H;replace H : (if (t350 ++ (⟨#[45]⟩ : ByteArray)).size + t351.size ≤ 9223372036854775807 then (some ((t350 ++ (⟨#[45]⟩ : ByteArray)) ++ t351)) else (none)) = some r := H;have A4 := Aside0.mk A40;clear A40
  by_cases c5 : (t350 ++ (⟨#[45]⟩ : ByteArray)).size + t351.size ≤ 9223372036854775807
  ·rw [if_pos c5] at H
   have c5b0 := eq_true c5;have c5b1 : decide ((t350 ++ (⟨#[45]⟩ : ByteArray)).size + t351.size ≤ 9223372036854775807) = true := decide_eq_true c5
   try have c5b2 : (9223372036854775807 < (t350 ++ (⟨#[45]⟩ : ByteArray)).size + t351.size) = False := eq_false (Nat.not_lt.2 c5)
   try have c5b3 := c5b2
   try simp only [ByteArray.size_append, Hand.lit_size, List.length_cons, List.length_nil, Nat.zero_add, Nat.reduceAdd] at c5b3
   obtain rfl := Option.some.inj H;go_enter Tryd.func60, Tryd.ntmps60
   try go_wp2_with (first | ((with_reducible refine gate_dst (N := 1) rfl ?_); refine box_event rfl (N := 1) rfl (cs := #[.int .u16 a0_0, .int .u16 a0_1]) (t := 61) gs ?_; intro gb349 hg w6 hbox hb; have n0_ := Aside0.mk (below_step (bel HB) hb); have n1_ := Aside0.mk (hbox); have n2_ := gew HB hg; have n3_ := gew HB hg; clear HB; have HB := n0_; have BK349 := n1_; have GW349 := n2_; have GE349 := n3_; clear n0_ n1_ n2_ n3_; clear hb hbox hg))
   replace BK349 := Aside0.mk (blk_drew BK349.out);replace HB := Aside0.mk (below_drew1 HB.out)
   refine start_ (n := 11) (S := fun w' => w'.cell? ⟨gb349, 0, none⟩ = some (.int .u16 a0_0) ∧ w'.cell? ⟨gb349, 1, none⟩ = some (.int .u16 a0_1)) (ds := []) #[F,F,F,F,F,F,F,F,F,F,F] (by kernel_rfl) rfl rfl ⟨(blk_cell BK349.out 0).trans rfl, (blk_cell BK349.out 1).trans rfl⟩ (fun hHeld => ?_); refine with_tabW crossbuckref03_PrintRange.tab1 crossbuckref03_PrintRange.bits1 (fun HT_ HW_ => ?_)
   generalize w6.drew = w7 at BK349 HB hHeld ⊢
   refine pu 0 (some 3) #[T,F,F,F,F,F,F,F,F,F,F] (any_of HT_.out (by kernel_rfl)) ?_
   refine pu 5 (some 8) #[T,F,F,F,F,T,F,F,F,F,F] (any_of HT_.out (by kernel_rfl)) ?_
   refine take_ (i := 1) (N := some 4) (v := ?_) (a' := ?_) #[T,T,F,F,F,T,F,F,F,F,F] rfl rfl (take_ofW HT_.out HW_.out (by kernel_rfl)) (fun _ _ _ h => h) (Or.inl ⟨by rfl, ?_⟩) hHeld ?_ ?_
   rotate_left
   ·rintro w' ⟨s0, s1⟩
    go_simp;with_reducible rfl
   rotate_left;·simp only [Act.put, setIfInBounds_toArray, set_cons_zero, set_cons_succ, i64_w, i32_w];rfl
   refine pu 2 (some 5) #[T,T,T,F,F,T,F,F,F,F,F] (any_of HT_.out (by kernel_rfl)) ?_
   refine take_ (i := 6) (N := some 9) (v := ?_) (a' := ?_) #[T,T,T,F,F,T,T,F,F,F,F] rfl rfl (take_ofW HT_.out HW_.out (by kernel_rfl)) (fun _ _ _ h => h) (Or.inl ⟨by rfl, ?_⟩) hHeld ?_ ?_
   rotate_left
   ·rintro w' ⟨s0, s1⟩
    go_simp;with_reducible rfl
   rotate_left;·simp only [Act.put, setIfInBounds_toArray, set_cons_zero, set_cons_succ, i64_w, i32_w];rfl
   refine pu 7 (some 10) #[T,T,T,F,F,T,T,T,F,F,F] (any_of HT_.out (by kernel_rfl)) ?_
   refine one_ (i := 3) (N := some 6) #[T,T,T,T,F,T,T,T,F,F,F] rfl rfl (one_of HT_.out (by kernel_rfl)) (by decide) (fun K hK => ?_)
   refine goes_ Tryd.func99 (by kernel_rfl) rfl #[.int .i64 (wrap64 (a0_0))] (by rfl) rfl rfl aok ?_
   with_reducible refine (crossbuckref02_Digits.calls k (wrap64 (a0_0)) t350 _ A2.out).mono ?_;rintro e w8 ⟨rfl, hb⟩;refine ⟨_, rfl, ?_⟩;replace BK349 := Aside0.mk (bb BK349.out hb)
   replace HB := Aside0.mk (below_step (bel HB) hb)
   (try clear hb);(try clear hb2);(try clear hk);(try clear hi)
   refine hK.out _ _ ⟨(blk_cell BK349.out 0).trans rfl, (blk_cell BK349.out 1).trans rfl⟩ (fun hHeld => ?_)
   clear hK K
   refine nput ?_
   refine pu 4 (some 7) #[T,T,T,T,T,T,T,T,F,F,F] (any_of HT_.out (by kernel_rfl)) ?_
   refine one_ (i := 8) (N := some 11) #[T,T,T,T,T,T,T,T,T,F,F] rfl rfl (one_of HT_.out (by kernel_rfl)) (by decide) (fun K hK => ?_)
   refine goes_ Tryd.func99 (by kernel_rfl) rfl #[.int .i64 (wrap64 (a0_1))] (by rfl) rfl rfl aok ?_
   with_reducible refine (crossbuckref02_Digits.calls k (wrap64 (a0_1)) t351 _ A4.out).mono ?_;rintro e w9 ⟨rfl, hb⟩;refine ⟨_, rfl, ?_⟩;replace BK349 := Aside0.mk (bb BK349.out hb)
   replace HB := Aside0.mk (below_step (bel HB) hb)
   (try clear hb);(try clear hb2);(try clear hk);(try clear hi)
   refine hK.out _ _ ⟨(blk_cell BK349.out 0).trans rfl, (blk_cell BK349.out 1).trans rfl⟩ (fun hHeld => ?_)
   clear hK K
   refine nput ?_
   refine pu 9 (some 12) #[T,T,T,T,T,T,T,T,T,T,F] (any_of HT_.out (by kernel_rfl)) ?_
   refine pu 10 (some 2) #[T,T,T,T,T,T,T,T,T,T,T] (any_of HT_.out (by kernel_rfl)) ?_
   refine done_ (done_of HT_.out (by kernel_rfl)) ?_
   try go_wp2
   go_ret
   exact ⟨fin, bel HB⟩
  ·rw [if_neg c5] at H
   exact absurd H (by simp)
 ·rw [if_neg c3] at H
  exact absurd H (by simp)

end Go.Proofs.YtloclimoffhbhaaDoor.PSto
