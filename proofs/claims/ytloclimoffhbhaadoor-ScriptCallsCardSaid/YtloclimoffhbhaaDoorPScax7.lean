-- Written by wip/myprint.py and wip/merge.py (this session's own programs); Lean checks it.
-- halved
import Derived.Test.YtloclimoffhbhaaDoorSq6
import Derived.Test.YtloclimoffhbhaaDoorPScax0
import Derived.Test.YtloclimoffhbhaaDoorPScax6
namespace Go.Proofs.YtloclimoffhbhaaDoor.PSca
open Go.RowKit Go.Proofs.YtloclimoffhbhaaDoorW.PrintWords Go.Proofs.YtloclimoffhbhaaDoorW.PrintLast Go.Proofs.YtloclimoffhbhaaDoorW.PrintMore Go.Proofs.YtloclimoffhbhaaDoorW.PrintSq List
attribute [local go_sem] max2_int min2_int max_two min_two max_three min_three max_four min_four   -- for this text's walks alone
set_option linter.unusedVariables false
set_option linter.unusedSimpArgs false

/-! ### script_PrintChange: function 29 -/
def script_PrintChange.j0 : Nat → ByteArray → Int → Int → Int → Int → Int → Int → Option (ByteArray)
 | 0, _, _, _, _, _, _, _ => none
 | k + 1, x4, x255000, x255001, x255002, x255003, x255004, x255005 => (strconv_Itoa_76.f x255000).bind fun t257 => ((strconv_Itoa_76.f x255001).bind fun t258 => ((cidr_Print.f k x255002 x255003).bind fun t259 => ((strconv_Itoa_76.f x255004).bind fun t260 => ((strings_Join.f (([(⟨#[97, 100, 100]⟩ : ByteArray), t257, t258, t259, t260, x4] : List ByteArray)) (⟨#[32]⟩ : ByteArray)).bind fun t264 => (some t264)))))
def script_PrintChange.f (k : Nat) (a0_0 : Bool) (a0_1 : Int) (a0_2 : Int) (a0_3 : Int) (a0_4 : Int) (a0_5 : Int) (a0_6 : Int) : Option (ByteArray) := if a0_0 = true then ((strconv_Itoa_76.f a0_1).bind fun t255 => (if 4 + t255.size ≤ 9223372036854775807 then (some ((⟨#[100, 101, 108, 32]⟩ : ByteArray) ++ t255)) else (none))) else (if a0_6 = (-1) then (script_PrintChange.j0 k (⟨#[100, 114, 111, 112]⟩ : ByteArray) a0_1 a0_2 a0_3 a0_4 a0_5 a0_6) else ((strconv_Itoa_76.f a0_6).bind fun t256 => (script_PrintChange.j0 k t256 a0_1 a0_2 a0_3 a0_4 a0_5 a0_6)))
def script_PrintChange.T7 : Bool × List (List Nat × List Nat) := (true, [([], []), ([0], [0]), ([1], [1]), ([], []), ([3], [3]), ([4, 2], [4]), ([], []), ([6], [6]), ([7, 5], [7]), ([], []), ([9], [9]), ([10, 8], [10]), ([], []), ([2, 5, 8, 11, 12], [2, 5, 8, 11, 12]), ([13, 11], [13]), ([14, 14, 0, 1, 2, 3, 4, 5, 6, 7, 8, 9, 10, 11, 12, 13, 14], [14])])
def script_PrintChange.B7 : List Nat := [0, 1, 3, 0, 8, 31, 0, 64, 255, 0, 512, 2047, 0, 8191, 16383, 32767]
theorem script_PrintChange.tab7 : rtab .any (opsOf Tryd.f29 7) = script_PrintChange.T7 := by kernel_rfl
theorem script_PrintChange.bits7 : waitsOk script_PrintChange.T7.2 script_PrintChange.B7 = true := by kernel_rfl
set_option maxHeartbeats 8000000 in
set_option maxRecDepth 100000 in
theorem script_PrintChange.calls (k : Nat) (a0_0 : Bool) (a0_1 : Int) (a0_2 : Int) (a0_3 : Int) (a0_4 : Int) (a0_5 : Int) (a0_6 : Int) (r : ByteArray) (w : World) (hG : Hand.Good false true w) (h : script_PrintChange.f k a0_0 a0_1 a0_2 a0_3 a0_4 a0_5 a0_6 = some r) :
  Calls Tryd.prog 29 #[.agg #[.bool a0_0, .int .i64 a0_1, .int .i64 a0_2, .int .u32 a0_3, .int .i64 a0_4, .int .i64 a0_5, .int .i64 a0_6]] w fun e w' => e = .returned (.string r) ∧ Below w.heap.size w w' := by
 have hu46 := Tryd.underlying46;have hu44 := Tryd.underlying44;have hu42 := Tryd.underlying42;have HB := Aside0.mk (Below.refl w.heap.size w);have hGG := Aside0.mk hG;clear hG
 have H : (if a0_0 = true then ((strconv_Itoa_76.f a0_1).bind fun t255 => (if 4 + t255.size ≤ 9223372036854775807 then (some ((⟨#[100, 101, 108, 32]⟩ : ByteArray) ++ t255)) else (none))) else (if a0_6 = (-1) then (script_PrintChange.j0 k (⟨#[100, 114, 111, 112]⟩ : ByteArray) a0_1 a0_2 a0_3 a0_4 a0_5 a0_6) else ((strconv_Itoa_76.f a0_6).bind fun t256 => (script_PrintChange.j0 k t256 a0_1 a0_2 a0_3 a0_4 a0_5 a0_6)))) = some r := h
 clear h
 by_cases c2 : a0_0 = true
 ·subst c2
  have H1 : ((strconv_Itoa_76.f a0_1).bind fun t255 => (if 4 + t255.size ≤ 9223372036854775807 then (some ((⟨#[100, 101, 108, 32]⟩ : ByteArray) ++ t255)) else (none))) = some r := by rw [if_pos rfl] at H; exact H
  clear H;have H := H1;clear H1;replace H := Option.bind_eq_some_iff.mp H;obtain ⟨t255, A30, H⟩ := H;replace H : (if 4 + t255.size ≤ 9223372036854775807 then (some ((⟨#[100, 101, 108, 32]⟩ : ByteArray) ++ t255)) else (none)) = some r := H;have A3 := Aside0.mk A30;clear A30
  by_cases c4 : 4 + t255.size ≤ 9223372036854775807
  ·rw [if_pos c4] at H
   have c4b0 := eq_true c4;have c4b1 : decide (4 + t255.size ≤ 9223372036854775807) = true := decide_eq_true c4
   try have c4b2 : (9223372036854775807 < 4 + t255.size) = False := eq_false (Nat.not_lt.2 c4)
   obtain rfl := Option.some.inj H;go_enter Tryd.func29, Tryd.ntmps29
   go_wp2_with (first | ((with_reducible refine gate_dst (N := 1) rfl ?_); refine box_event rfl (N := 1) rfl (cs := #[.bool true, .int .i64 a0_1, .int .i64 a0_2, .int .u32 a0_3, .int .i64 a0_4, .int .i64 a0_5, .int .i64 a0_6]) (t := 46) gs ?_; intro gb253 hg w5 hbox hb; have n0_ := Aside0.mk (below_step (bel HB) hb); have n1_ := Aside0.mk (hbox); have n2_ := Aside0.mk ((by rw [hg]; exact (below_size (bel HB)) : w.heap.size ≤ gb253)); have n3_ := Aside0.mk ((by rw [hg]; exact (below_size (bel HB)) : w.heap.size ≤ gb253)); clear HB; have HB := n0_; have BK253 := n1_; have GW253 := n2_; have GE253 := n3_; clear n0_ n1_ n2_ n3_; clear hb hbox hg; have hcz6 := cz7 BK253.out) | ((with_reducible refine gate_dst (N := 3) rfl ?_); refine box_event rfl (N := 3) rfl (cs := #[.int .i64 0, .int .i64 0, .int .u32 0, .int .i64 0, .int .i64 0, .int .i64 0]) (t := 44) gs ?_; intro gb254 hg w7 hbox hb; have n0_ := Aside0.mk (bb BK253.out hb); have n1_ := Aside0.mk (below_step (bel HB) hb); have n2_ := Aside0.mk (hbox); have n3_ := Aside0.mk ((by rw [hg]; exact (below_size (bel HB)) : w.heap.size ≤ gb254)); have n4_ := Aside0.mk ((by rw [hg]; exact (below_size (bel HB)) : w.heap.size ≤ gb254)); have n5_ := Aside0.mk ((ne1 BK253.out hg : gb253 ≠ gb254)); have n6_ := Aside0.mk ((ne2 BK253.out hg : gb254 ≠ gb253)); clear BK253; clear HB; have BK253 := n0_; have HB := n1_; have BK254 := n2_; have GW254 := n3_; have GE254 := n4_; have NB253_254 := n5_; have NB254_253 := n6_; clear n0_ n1_ n2_ n3_ n4_ n5_ n6_; clear hb hbox hg; have hnb8 := NB254_253.out; have hnc8 := NB253_254.out; have hcz9 := cz6 BK254.out; have hcz10 := cz7 BK253.out) | ((with_reducible refine gate_callee (f := 76) rfl ?_); refine goesL_ (some 11) rfl rfl Tryd.func76 (by kernel_rfl) rfl #[.int .i64 a0_1] rfl aok ?_; (with_reducible refine (strconv_Itoa_76.calls a0_1 t255 _ (Hand.Good.below false true hGG.out (bel HB) rfl rfl) A3.out).mono ?_); rintro e w11 ⟨rfl, hb⟩; refine ⟨_, rfl, ?_⟩; have n0_ := Aside0.mk (blk_below (g := gb253) (o := .cells #[.bool true, .int .i64 a0_1, .int .i64 a0_2, .int .u32 a0_3, .int .i64 a0_4, .int .i64 a0_5, .int .i64 a0_6] 46 (0, 0)) bkp hb); have n1_ := Aside0.mk (blk_below (g := gb254) (o := .cells #[.int .i64 a0_1, .int .i64 a0_2, .int .u32 a0_3, .int .i64 a0_4, .int .i64 a0_5, .int .i64 a0_6] 44 (0, 0)) bkp hb); have n2_ := Aside0.mk (below_step (bel HB) hb); clear BK253; clear BK254; clear HB; have BK253 := n0_; have BK254 := n1_; have HB := n2_; clear n0_ n1_ n2_; (try clear hb); (try clear hb2); (try clear hk); (try clear hi)))
   go_ret
   exact ⟨by first | rfl | (simp [errW_none, errW_some] <;> rfl) | (simp [*, errW_none, errW_some] <;> rfl), bel HB⟩
  ·rw [if_neg c4] at H
   exact absurd H (by simp)
 ·replace c2 := Bool.eq_false_iff.mpr c2
  subst c2
  have H1 : (if a0_6 = (-1) then (script_PrintChange.j0 k (⟨#[100, 114, 111, 112]⟩ : ByteArray) a0_1 a0_2 a0_3 a0_4 a0_5 a0_6) else ((strconv_Itoa_76.f a0_6).bind fun t256 => (script_PrintChange.j0 k t256 a0_1 a0_2 a0_3 a0_4 a0_5 a0_6))) = some r := by rw [if_neg (show ¬ (false = true) by decide)] at H; exact H
  clear H;have H := H1;clear H1;have HC12 := Aside0.mk H;clear H;go_enter Tryd.func29, Tryd.ntmps29
  go_upto_if 15 with (first | ((with_reducible refine gate_dst (N := 1) rfl ?_); refine box_event rfl (N := 1) rfl (cs := #[.bool false, .int .i64 a0_1, .int .i64 a0_2, .int .u32 a0_3, .int .i64 a0_4, .int .i64 a0_5, .int .i64 a0_6]) (t := 46) gs ?_; intro gb253 hg w13 hbox hb; have n0_ := Aside0.mk (below_step (bel HB) hb); have n1_ := Aside0.mk (hbox); have n2_ := Aside0.mk ((by rw [hg]; exact (below_size (bel HB)) : w.heap.size ≤ gb253)); have n3_ := Aside0.mk ((by rw [hg]; exact (below_size (bel HB)) : w.heap.size ≤ gb253)); clear HB; have HB := n0_; have BK253 := n1_; have GW253 := n2_; have GE253 := n3_; clear n0_ n1_ n2_ n3_; clear hb hbox hg; have hcz14 := cz7 BK253.out) | ((with_reducible refine gate_dst (N := 3) rfl ?_); refine box_event rfl (N := 3) rfl (cs := #[.int .i64 0, .int .i64 0, .int .u32 0, .int .i64 0, .int .i64 0, .int .i64 0]) (t := 44) gs ?_; intro gb254 hg w15 hbox hb; have n0_ := Aside0.mk (bb BK253.out hb); have n1_ := Aside0.mk (below_step (bel HB) hb); have n2_ := Aside0.mk (hbox); have n3_ := Aside0.mk ((by rw [hg]; exact (below_size (bel HB)) : w.heap.size ≤ gb254)); have n4_ := Aside0.mk ((by rw [hg]; exact (below_size (bel HB)) : w.heap.size ≤ gb254)); have n5_ := Aside0.mk ((ne1 BK253.out hg : gb253 ≠ gb254)); have n6_ := Aside0.mk ((ne2 BK253.out hg : gb254 ≠ gb253)); clear BK253; clear HB; have BK253 := n0_; have HB := n1_; have BK254 := n2_; have GW254 := n3_; have GE254 := n4_; have NB253_254 := n5_; have NB254_253 := n6_; clear n0_ n1_ n2_ n3_ n4_ n5_ n6_; clear hb hbox hg; have hnb16 := NB254_253.out; have hnc16 := NB253_254.out; have hcz17 := cz6 BK254.out; have hcz18 := cz7 BK253.out))
  (try simp only [Act.put, setIfInBounds_toArray, set_cons_zero, set_cons_succ])
  go_cut [4] (fun v4 wc => ∃ (kq : Nat) (x4_11 : ByteArray), v4 = .string x4_11 ∧ Aside0 (script_PrintChange.j0 kq x4_11 a0_1 a0_2 a0_3 a0_4 a0_5 a0_6 = some r) ∧ Aside0 (kq ≤ k) ∧ Aside0 (wc.heap[gb253]? = some (.cells #[.bool false, .int .i64 a0_1, .int .i64 a0_2, .int .u32 a0_3, .int .i64 a0_4, .int .i64 a0_5, .int .i64 a0_6] 46 (0, 0))) ∧ Aside0 (wc.heap[gb254]? = some (.cells #[.int .i64 a0_1, .int .i64 a0_2, .int .u32 a0_3, .int .i64 a0_4, .int .i64 a0_5, .int .i64 a0_6] 44 (0, 0))) ∧ Aside0 (Below w.heap.size w wc))
  case first =>
   have H := HC12.out;clear HC12
   by_cases c19 : a0_6 = (-1)
   ·rw [if_pos c19] at H
    have c19b0 : (a0_6 == (-1)) = true := beq_iff_eq.mpr c19;have c19b1 : (a0_6 != (-1)) = false := bne_eq_false_iff_eq.mpr c19;clear c19;(first | rw [c19b0] | (simp only [i64_w, i32_w]; rw [c19b0]) | skip);have H' := Aside0.mk H;clear H;go_wp2;go_meet
    case rel => exact ⟨_, ((⟨#[100, 114, 111, 112]⟩ : ByteArray)), (by first | rfl | (simp; done) | (simp [*]; done)), H', ⟨by first | omega | exact Nat.le_refl _⟩, ⟨by (with_reducible repeat (first | refine blk_drewN ?_ _ | refine blk_drew ?_ | refine blk_alloc ?_ _)); refine blk_far ?_ NB253_254.out _; (with_reducible repeat (first | refine blk_drewN ?_ _ | refine blk_drew ?_ | refine blk_alloc ?_ _)); refine blk_far ?_ NB253_254.out _; (with_reducible repeat (first | refine blk_drewN ?_ _ | refine blk_drew ?_ | refine blk_alloc ?_ _)); refine blk_far ?_ NB253_254.out _; (with_reducible repeat (first | refine blk_drewN ?_ _ | refine blk_drew ?_ | refine blk_alloc ?_ _)); refine blk_far ?_ NB253_254.out _; (with_reducible repeat (first | refine blk_drewN ?_ _ | refine blk_drew ?_ | refine blk_alloc ?_ _)); refine blk_far ?_ NB253_254.out _; (with_reducible repeat (first | refine blk_drewN ?_ _ | refine blk_drew ?_ | refine blk_alloc ?_ _)); refine blk_far ?_ NB253_254.out _; (with_reducible repeat (first | refine blk_drewN ?_ _ | refine blk_drew ?_ | refine blk_alloc ?_ _)); exact BK253.out⟩, ⟨by (with_reducible repeat (first | refine blk_drewN ?_ _ | refine blk_drew ?_ | refine blk_alloc ?_ _)); refine blk_put (cs := #[.int .i64 a0_1, .int .i64 a0_2, .int .u32 a0_3, .int .i64 a0_4, .int .i64 a0_5, .int .i64 0]) ?_ 5 _ rfl; (with_reducible repeat (first | refine blk_drewN ?_ _ | refine blk_drew ?_ | refine blk_alloc ?_ _)); refine blk_put (cs := #[.int .i64 a0_1, .int .i64 a0_2, .int .u32 a0_3, .int .i64 a0_4, .int .i64 0, .int .i64 0]) ?_ 4 _ rfl; (with_reducible repeat (first | refine blk_drewN ?_ _ | refine blk_drew ?_ | refine blk_alloc ?_ _)); refine blk_put (cs := #[.int .i64 a0_1, .int .i64 a0_2, .int .u32 a0_3, .int .i64 0, .int .i64 0, .int .i64 0]) ?_ 3 _ rfl; (with_reducible repeat (first | refine blk_drewN ?_ _ | refine blk_drew ?_ | refine blk_alloc ?_ _)); refine blk_put (cs := #[.int .i64 a0_1, .int .i64 a0_2, .int .u32 0, .int .i64 0, .int .i64 0, .int .i64 0]) ?_ 2 _ rfl; (with_reducible repeat (first | refine blk_drewN ?_ _ | refine blk_drew ?_ | refine blk_alloc ?_ _)); refine blk_put (cs := #[.int .i64 a0_1, .int .i64 0, .int .u32 0, .int .i64 0, .int .i64 0, .int .i64 0]) ?_ 1 _ rfl; (with_reducible repeat (first | refine blk_drewN ?_ _ | refine blk_drew ?_ | refine blk_alloc ?_ _)); refine blk_put (cs := #[.int .i64 0, .int .i64 0, .int .u32 0, .int .i64 0, .int .i64 0, .int .i64 0]) ?_ 0 _ rfl; (with_reducible repeat (first | refine blk_drewN ?_ _ | refine blk_drew ?_ | refine blk_alloc ?_ _)); exact BK254.out⟩, ⟨by repeat (first | (with_reducible first | exact HB.out | apply below_alloc | apply pw_below_drewN | apply below_drew1 | refine below_set ?_ GE253.out | refine below_set ?_ GE254.out) | exact HB.out)⟩⟩
   ·rw [if_neg c19] at H
    have c19b0 : (a0_6 == (-1)) = false := beq_eq_false_iff_ne.mpr c19;have c19b1 : (a0_6 != (-1)) = true := bne_iff_ne.mpr c19;(first | rw [c19b0] | (simp only [i64_w, i32_w]; rw [c19b0]) | skip);replace H := Option.bind_eq_some_iff.mp H;obtain ⟨t256, A200, H⟩ := H;replace H : (script_PrintChange.j0 k t256 a0_1 a0_2 a0_3 a0_4 a0_5 a0_6) = some r := H;have A20 := Aside0.mk A200;clear A200;have H' := Aside0.mk H;clear H;have hnb21 := NB254_253.out;have hnc21 := NB253_254.out;have hcz22 := cz6 BK254.out
    go_wp2_with (first | ((with_reducible refine gate_callee (f := 76) rfl ?_); refine goesL_ (some 18) rfl rfl Tryd.func76 (by kernel_rfl) rfl #[.int .i64 a0_6] rfl aok ?_; (with_reducible refine (strconv_Itoa_76.calls a0_6 t256 _ (Hand.Good.below false true hGG.out (bel HB) rfl rfl) A20.out).mono ?_); rintro e w23 ⟨rfl, hb⟩; refine ⟨_, rfl, ?_⟩; have n0_ := Aside0.mk (blk_below (g := gb253) (o := .cells #[.bool false, .int .i64 a0_1, .int .i64 a0_2, .int .u32 a0_3, .int .i64 a0_4, .int .i64 a0_5, .int .i64 a0_6] 46 (0, 0)) bkp hb); have n1_ := Aside0.mk (blk_below (g := gb254) (o := .cells #[.int .i64 a0_1, .int .i64 a0_2, .int .u32 a0_3, .int .i64 a0_4, .int .i64 a0_5, .int .i64 a0_6] 44 (0, 0)) bkp hb); have n2_ := Aside0.mk (below_step (bel HB) hb); clear BK253; clear BK254; clear HB; have BK253 := n0_; have BK254 := n1_; have HB := n2_; clear n0_ n1_ n2_; (try clear hb); (try clear hb2); (try clear hk); (try clear hi)))
    go_meet
    case rel => exact ⟨_, (t256), (by first | rfl | (simp; done) | (simp [*]; done)), H', ⟨by first | omega | exact Nat.le_refl _⟩, ⟨by (with_reducible repeat (first | refine blk_drewN ?_ _ | refine blk_drew ?_ | refine blk_alloc ?_ _)); exact BK253.out⟩, ⟨by (with_reducible repeat (first | refine blk_drewN ?_ _ | refine blk_drew ?_ | refine blk_alloc ?_ _)); exact BK254.out⟩, ⟨by repeat (first | (with_reducible first | exact HB.out | apply below_alloc | apply pw_below_drewN | apply below_drew1 | refine below_set ?_ GE253.out | refine below_set ?_ GE254.out) | exact HB.out)⟩⟩
  case rest =>
   clear HC12
   try clear c1
   try clear c2
   try clear p2
   try clear c4
   try clear c4b0
   try clear c4b1
   try clear c4b2
   try clear c7
   try clear c8
   try clear c16
   try clear c19
   try clear c19b0
   try clear c19b1
   try clear c21
   try clear hcz10
   try clear hcz14
   try clear hcz17
   try clear hcz18
   try clear hcz22
   try clear hcz6
   try clear hcz9
   obtain ⟨kq, x4_11, rfl, HA, HJ11, BK253, BK254, HB⟩ := hcut
   cases kq with
   | zero => exact absurd HA.out (by simp [script_PrintChange.j0])
   | succ kj11 =>
    have H := HA.out;clear HA;simp only [script_PrintChange.j0] at H;replace H := Option.bind_eq_some_iff.mp H;obtain ⟨t257, A240, H⟩ := H
    replace H : ((strconv_Itoa_76.f a0_2).bind fun t258 => ((cidr_Print.f kj11 a0_3 a0_4).bind fun t259 => ((strconv_Itoa_76.f a0_5).bind fun t260 => ((strings_Join.f (([(⟨#[97, 100, 100]⟩ : ByteArray), t257, t258, t259, t260, x4_11] : List ByteArray)) (⟨#[32]⟩ : ByteArray)).bind fun t264 => (some t264))))) = some r := H
    have A24 := Aside0.mk A240;clear A240;replace H := Option.bind_eq_some_iff.mp H;obtain ⟨t258, A250, H⟩ := H
    replace H : ((cidr_Print.f kj11 a0_3 a0_4).bind fun t259 => ((strconv_Itoa_76.f a0_5).bind fun t260 => ((strings_Join.f (([(⟨#[97, 100, 100]⟩ : ByteArray), t257, t258, t259, t260, x4_11] : List ByteArray)) (⟨#[32]⟩ : ByteArray)).bind fun t264 => (some t264)))) = some r := H
    have A25 := Aside0.mk A250;clear A250;replace H := Option.bind_eq_some_iff.mp H;obtain ⟨t259, A260, H⟩ := H
    replace H : ((strconv_Itoa_76.f a0_5).bind fun t260 => ((strings_Join.f (([(⟨#[97, 100, 100]⟩ : ByteArray), t257, t258, t259, t260, x4_11] : List ByteArray)) (⟨#[32]⟩ : ByteArray)).bind fun t264 => (some t264))) = some r := H
    have A26 := Aside0.mk A260;clear A260;replace H := Option.bind_eq_some_iff.mp H;obtain ⟨t260, A270, H⟩ := H
    replace H : ((strings_Join.f (([(⟨#[97, 100, 100]⟩ : ByteArray), t257, t258, t259, t260, x4_11] : List ByteArray)) (⟨#[32]⟩ : ByteArray)).bind fun t264 => (some t264)) = some r := H
    have A27 := Aside0.mk A270;clear A270;obtain ⟨y261, hy261⟩ : ∃ y_ : List ByteArray, y_ = (([(⟨#[97, 100, 100]⟩ : ByteArray), t257, t258, t259, t260, x4_11] : List ByteArray)) := ⟨_, rfl⟩
    replace H : ((strings_Join.f y261 (⟨#[32]⟩ : ByteArray)).bind fun t264 => (some t264)) = some r := by first | (rw [hy261]; with_reducible exact H) | (have H2_ := (Option.bind_some _ _).symm.trans H; rw [hy261]; with_reducible exact H2_) | (have H2_ := (Option.bind_some _ _).symm.trans H; with_reducible exact H2_) | with_reducible exact H | (rw [hy261]; exact H) | exact H
    have Ny261 := Aside0.mk hy261;clear hy261;replace H := Option.bind_eq_some_iff.mp H;obtain ⟨t264, A280, H⟩ := H;replace H : (some t264) = some r := H;have A28 := Aside0.mk A280;clear A280;obtain rfl := Option.some.inj H
    try go_wp2
    replace BK253 := Aside0.mk (blk_drew BK253.out);replace BK254 := Aside0.mk (blk_drew BK254.out);replace HB := Aside0.mk (below_drew1 HB.out)
    refine start_ (n := 16) (S := fun w' => w'.cell? ⟨gb254, 0, none⟩ = some (.int .i64 a0_1) ∧ w'.cell? ⟨gb254, 1, none⟩ = some (.int .i64 a0_2) ∧ w'.cell? ⟨gb254, 2, none⟩ = some (.int .u32 a0_3) ∧ w'.cell? ⟨gb254, 3, none⟩ = some (.int .i64 a0_4) ∧ w'.cell? ⟨gb254, 4, none⟩ = some (.int .i64 a0_5) ∧ w'.cell? ⟨gb254, 5, none⟩ = some (.int .i64 a0_6)) (ds := []) #[F,F,F,F,F,F,F,F,F,F,F,F,F,F,F,F] (by kernel_rfl) rfl rfl ⟨(blk_cell BK254.out 0).trans rfl, (blk_cell BK254.out 1).trans rfl, (blk_cell BK254.out 2).trans rfl, (blk_cell BK254.out 3).trans rfl, (blk_cell BK254.out 4).trans rfl, (blk_cell BK254.out 5).trans rfl⟩ (fun hHeld => ?_); refine with_tabW script_PrintChange.tab7 script_PrintChange.bits7 (fun HT_ HW_ => ?_)
    generalize wc.drew = w29 at BK253 BK254 HB hHeld ⊢
    refine pure_ (i := 0) (N := some 19) (v := ?_) (a' := ?_) #[T,F,F,F,F,F,F,F,F,F,F,F,F,F,F,F] rfl rfl (any_of HT_.out (by kernel_rfl)) (fun _ _ _ h => h) (Or.inl ⟨by rfl, ?_⟩) ?_ ?_
    rotate_left;·intro w';go_simp;with_reducible rfl
    rotate_left;·simp only [Act.put, setIfInBounds_toArray, set_cons_zero, set_cons_succ, i64_w, i32_w];rfl
    refine pure_ (i := 3) (N := some 22) (v := ?_) (a' := ?_) #[T,F,F,T,F,F,F,F,F,F,F,F,F,F,F,F] rfl rfl (any_of HT_.out (by kernel_rfl)) (fun _ _ _ h => h) (Or.inl ⟨by rfl, ?_⟩) ?_ ?_
    rotate_left;·intro w';go_simp;with_reducible rfl
    rotate_left;·simp only [Act.put, setIfInBounds_toArray, set_cons_zero, set_cons_succ, i64_w, i32_w];rfl
    refine pure_ (i := 6) (N := some 25) (v := ?_) (a' := ?_) #[T,F,F,T,F,F,T,F,F,F,F,F,F,F,F,F] rfl rfl (any_of HT_.out (by kernel_rfl)) (fun _ _ _ h => h) (Or.inl ⟨by rfl, ?_⟩) ?_ ?_
    rotate_left;·intro w';go_simp;with_reducible rfl
    rotate_left;·simp only [Act.put, setIfInBounds_toArray, set_cons_zero, set_cons_succ, i64_w, i32_w];rfl
    refine pure_ (i := 9) (N := some 28) (v := ?_) (a' := ?_) #[T,F,F,T,F,F,T,F,F,T,F,F,F,F,F,F] rfl rfl (any_of HT_.out (by kernel_rfl)) (fun _ _ _ h => h) (Or.inl ⟨by rfl, ?_⟩) ?_ ?_
    rotate_left;·intro w';go_simp;with_reducible rfl
    rotate_left;·simp only [Act.put, setIfInBounds_toArray, set_cons_zero, set_cons_succ, i64_w, i32_w];rfl
    refine pure_ (i := 12) (N := some 31) (v := ?_) (a' := ?_) #[T,F,F,T,F,F,T,F,F,T,F,F,T,F,F,F] rfl rfl (any_of HT_.out (by kernel_rfl)) (fun _ _ _ h => h) (Or.inl ⟨by rfl, ?_⟩) ?_ ?_
    rotate_left;·intro w';go_simp;with_reducible rfl
    rotate_left;·simp only [Act.put, setIfInBounds_toArray, set_cons_zero, set_cons_succ, i64_w, i32_w];rfl
    refine take_ (i := 1) (N := some 20) (v := ?_) (a' := ?_) #[T,T,F,T,F,F,T,F,F,T,F,F,T,F,F,F] rfl rfl (take_ofW HT_.out HW_.out (by kernel_rfl)) (fun _ _ _ h => h) (Or.inl ⟨by rfl, ?_⟩) hHeld ?_ ?_
    rotate_left
    ·rintro w' ⟨s0, s1, s2, s3, s4, s5⟩
     go_simp;with_reducible rfl
    rotate_left;·simp only [Act.put, setIfInBounds_toArray, set_cons_zero, set_cons_succ, i64_w, i32_w];rfl
    refine take_ (i := 4) (N := some 23) (v := ?_) (a' := ?_) #[T,T,F,T,T,F,T,F,F,T,F,F,T,F,F,F] rfl rfl (take_ofW HT_.out HW_.out (by kernel_rfl)) (fun _ _ _ h => h) (Or.inl ⟨by rfl, ?_⟩) hHeld ?_ ?_
    rotate_left
    ·rintro w' ⟨s0, s1, s2, s3, s4, s5⟩
     go_simp;with_reducible rfl
    rotate_left;·simp only [Act.put, setIfInBounds_toArray, set_cons_zero, set_cons_succ, i64_w, i32_w];rfl
    refine take_ (i := 7) (N := some 26) (v := ?_) (a' := ?_) #[T,T,F,T,T,F,T,T,F,T,F,F,T,F,F,F] rfl rfl (take_ofW HT_.out HW_.out (by kernel_rfl)) (fun _ _ _ h => h) (Or.inl ⟨by rfl, ?_⟩) hHeld ?_ ?_
    rotate_left
    ·rintro w' ⟨s0, s1, s2, s3, s4, s5⟩
     go_simp;with_reducible rfl
    rotate_left;·simp only [Act.put, setIfInBounds_toArray, set_cons_zero, set_cons_succ, i64_w, i32_w];rfl
    refine take_ (i := 10) (N := some 29) (v := ?_) (a' := ?_) #[T,T,F,T,T,F,T,T,F,T,T,F,T,F,F,F] rfl rfl (take_ofW HT_.out HW_.out (by kernel_rfl)) (fun _ _ _ h => h) (Or.inl ⟨by rfl, ?_⟩) hHeld ?_ ?_
    rotate_left
    ·rintro w' ⟨s0, s1, s2, s3, s4, s5⟩
     go_simp;with_reducible rfl
    rotate_left;·simp only [Act.put, setIfInBounds_toArray, set_cons_zero, set_cons_succ, i64_w, i32_w];rfl
    refine one_ (i := 2) (N := some 21) #[T,T,T,T,T,F,T,T,F,T,T,F,T,F,F,F] rfl rfl (one_of HT_.out (by kernel_rfl)) (by decide) (fun K hK => ?_)
    refine goes_ Tryd.func76 (by kernel_rfl) rfl #[.int .i64 a0_1] (by rfl) rfl rfl aok ?_
    with_reducible refine (strconv_Itoa_76.calls a0_1 t257 _ (Hand.Good.below false true hGG.out (bel HB) rfl rfl) A24.out).mono ?_
    rintro e w30 ⟨rfl, hb⟩;refine ⟨_, rfl, ?_⟩;replace BK253 := Aside0.mk (bb BK253.out hb);replace BK254 := Aside0.mk (bb BK254.out hb)
    replace HB := Aside0.mk (below_step (bel HB) hb)
    (try clear hb);(try clear hb2);(try clear hk);(try clear hi)
    refine hK.out _ _ ⟨(blk_cell BK254.out 0).trans rfl, (blk_cell BK254.out 1).trans rfl, (blk_cell BK254.out 2).trans rfl, (blk_cell BK254.out 3).trans rfl, (blk_cell BK254.out 4).trans rfl, (blk_cell BK254.out 5).trans rfl⟩ (fun hHeld => ?_)
    clear hK K
    refine norm_ (a' := ?_) ?_ ?_;rotate_left;·show Act.put _ (some 21) _ = _;simp only [Act.put, setIfInBounds_toArray, set_cons_zero, set_cons_succ, i64_w, i32_w];rfl
    refine one_ (i := 5) (N := some 24) #[T,T,T,T,T,T,T,T,F,T,T,F,T,F,F,F] rfl rfl (one_of HT_.out (by kernel_rfl)) (by decide) (fun K hK => ?_)
    refine goes_ Tryd.func76 (by kernel_rfl) rfl #[.int .i64 a0_2] (by rfl) rfl rfl aok ?_
    with_reducible refine (strconv_Itoa_76.calls a0_2 t258 _ (Hand.Good.below false true hGG.out (bel HB) rfl rfl) A25.out).mono ?_
    rintro e w31 ⟨rfl, hb⟩;refine ⟨_, rfl, ?_⟩;replace BK253 := Aside0.mk (bb BK253.out hb);replace BK254 := Aside0.mk (bb BK254.out hb)
    replace HB := Aside0.mk (below_step (bel HB) hb)
    (try clear hb);(try clear hb2);(try clear hk);(try clear hi)
    refine hK.out _ _ ⟨(blk_cell BK254.out 0).trans rfl, (blk_cell BK254.out 1).trans rfl, (blk_cell BK254.out 2).trans rfl, (blk_cell BK254.out 3).trans rfl, (blk_cell BK254.out 4).trans rfl, (blk_cell BK254.out 5).trans rfl⟩ (fun hHeld => ?_)
    clear hK K
    refine norm_ (a' := ?_) ?_ ?_;rotate_left;·show Act.put _ (some 24) _ = _;simp only [Act.put, setIfInBounds_toArray, set_cons_zero, set_cons_succ, i64_w, i32_w];rfl
    refine one_ (i := 8) (N := some 27) #[T,T,T,T,T,T,T,T,T,T,T,F,T,F,F,F] rfl rfl (one_of HT_.out (by kernel_rfl)) (by decide) (fun K hK => ?_)
    refine goes_ Tryd.func62 (by kernel_rfl) rfl #[.agg #[.int .u32 a0_3, .int .i64 a0_4]] (by rfl) rfl rfl aok ?_
    with_reducible refine (cidr_Print.calls kj11 a0_3 a0_4 t259 _ (Hand.Good.below false true hGG.out (bel HB) rfl rfl) A26.out).mono ?_
    rintro e w32 ⟨rfl, hb⟩;refine ⟨_, rfl, ?_⟩;replace BK253 := Aside0.mk (bb BK253.out hb);replace BK254 := Aside0.mk (bb BK254.out hb)
    replace HB := Aside0.mk (below_step (bel HB) hb)
    (try clear hb);(try clear hb2);(try clear hk);(try clear hi)
    refine hK.out _ _ ⟨(blk_cell BK254.out 0).trans rfl, (blk_cell BK254.out 1).trans rfl, (blk_cell BK254.out 2).trans rfl, (blk_cell BK254.out 3).trans rfl, (blk_cell BK254.out 4).trans rfl, (blk_cell BK254.out 5).trans rfl⟩ (fun hHeld => ?_)
    clear hK K
    refine norm_ (a' := ?_) ?_ ?_;rotate_left;·show Act.put _ (some 27) _ = _;simp only [Act.put, setIfInBounds_toArray, set_cons_zero, set_cons_succ, i64_w, i32_w];rfl
    refine one_ (i := 11) (N := some 30) #[T,T,T,T,T,T,T,T,T,T,T,T,T,F,F,F] rfl rfl (one_of HT_.out (by kernel_rfl)) (by decide) (fun K hK => ?_)
    refine goes_ Tryd.func76 (by kernel_rfl) rfl #[.int .i64 a0_5] (by rfl) rfl rfl aok ?_
    with_reducible refine (strconv_Itoa_76.calls a0_5 t260 _ (Hand.Good.below false true hGG.out (bel HB) rfl rfl) A27.out).mono ?_
    rintro e w33 ⟨rfl, hb⟩;refine ⟨_, rfl, ?_⟩;replace BK253 := Aside0.mk (bb BK253.out hb);replace BK254 := Aside0.mk (bb BK254.out hb)
    replace HB := Aside0.mk (below_step (bel HB) hb)
    (try clear hb);(try clear hb2);(try clear hk);(try clear hi)
    refine hK.out _ _ ⟨(blk_cell BK254.out 0).trans rfl, (blk_cell BK254.out 1).trans rfl, (blk_cell BK254.out 2).trans rfl, (blk_cell BK254.out 3).trans rfl, (blk_cell BK254.out 4).trans rfl, (blk_cell BK254.out 5).trans rfl⟩ (fun hHeld => ?_)
    clear hK K
    refine norm_ (a' := ?_) ?_ ?_;rotate_left;·show Act.put _ (some 30) _ = _;simp only [Act.put, setIfInBounds_toArray, set_cons_zero, set_cons_succ, i64_w, i32_w];rfl
    refine one_ (i := 13) (N := some 32) #[T,T,T,T,T,T,T,T,T,T,T,T,T,T,F,F] rfl rfl (one_of HT_.out (by kernel_rfl)) (by decide) (fun K hK => ?_)
    refine Kd.R_lit_step Kd.string _ 9 ?hg (N := 32) ?hd (xs := ([(⟨#[97, 100, 100]⟩ : ByteArray), t257, t258, t259, t260, x4_11] : List ByteArray)) (inner := [.string (⟨#[97, 100, 100]⟩ : ByteArray), .string t257, .string t258, .string t259, .string t260, .string x4_11]) (ok := fun _ => True) (okp := fun _ => True) ?hr ?hp (fun _ hk => hk) trivial (Below.refl _ _) (Nat.le_refl _) (by simp) ?_; (case hd => rfl); (case hg => rfl); (case hr => first | (go_simp; done) | (go_simp; rfl)); (case hp => exact (Reps.one (show Kd.M Kd.string _ _ _ (⟨#[97, 100, 100]⟩ : ByteArray) [.string (⟨#[97, 100, 100]⟩ : ByteArray)] from rfl) (Reps.one (show Kd.M Kd.string _ _ _ t257 [.string t257] from rfl) (Reps.one (show Kd.M Kd.string _ _ _ t258 [.string t258] from rfl) (Reps.one (show Kd.M Kd.string _ _ _ t259 [.string t259] from rfl) (Reps.one (show Kd.M Kd.string _ _ _ t260 [.string t260] from rfl) (Reps.one (show Kd.M Kd.string _ _ _ x4_11 [.string x4_11] from rfl) (Reps.none _ _))))))))
    intro v262 w34 ho35 hb hg_ hnew_
    clear hg_ hnew_;(first | rw [← Ny261.out] at ho35 | (simp only [Int.reduceToNat] at ho35; rw [← Ny261.out] at ho35))
    have HO263 := Aside0.mk (Kd.R_lower ho35 (below_size (bel HB)))
    replace BK253 := Aside0.mk (bb BK253.out hb);replace BK254 := Aside0.mk (bb BK254.out hb)
    replace HB := Aside0.mk (below_step (bel HB) hb)
    clear hb ho35;obtain ⟨Ao36, co36, eo36⟩ := Kd.R_slice HO263.out;(first | subst eo36 | (injection eo36 with f1_ f2_ f3_; have f4_ := f1_.symm; have f5_ := f3_.symm; clear f1_ f2_ f3_; subst f4_; subst f5_))
    refine hK.out _ _ ⟨(blk_cell BK254.out 0).trans rfl, (blk_cell BK254.out 1).trans rfl, (blk_cell BK254.out 2).trans rfl, (blk_cell BK254.out 3).trans rfl, (blk_cell BK254.out 4).trans rfl, (blk_cell BK254.out 5).trans rfl⟩ (fun hHeld => ?_)
    clear hK K
    refine norm_ (a' := ?_) ?_ ?_;rotate_left;·show Act.put _ (some 32) _ = _;simp only [Act.put, setIfInBounds_toArray, set_cons_zero, set_cons_succ, i64_w, i32_w];rfl
    refine one_ (i := 14) (N := some 33) #[T,T,T,T,T,T,T,T,T,T,T,T,T,T,T,F] rfl rfl (one_of HT_.out (by kernel_rfl)) (by decide) (fun K hK => ?_)
    refine goes_ Tryd.func77 (by kernel_rfl) rfl #[.slice Ao36 y261.length co36, .string (⟨#[32]⟩ : ByteArray)] (by rfl) rfl rfl aok ?_
    with_reducible refine (strings_Join.calls _ _ y261 (⟨#[32]⟩ : ByteArray) t264 _ ?side1 ?side2 A28.out).mono ?_
    (case side1 => repeat (first | exact (Kd.R_reads' HO263.out).2.2 | (with_reducible refine Kd.C_alloc ?_ _) | (with_reducible refine Kd.C_drewN ?_ _) | (with_reducible refine Kd.C_drew ?_)))
    (case side2 => exact (Kd.R_reads' HO263.out).2.1)
    rintro e w37 ⟨rfl, hb⟩;refine ⟨_, rfl, ?_⟩
    replace HO263 := Aside0.mk (Kd.R_below (by (with_reducible repeat (first | apply Kd.R_alloc | apply Kd.R_drewN | apply Kd.R_drew)); exact HO263.out) hb)
    replace BK253 := Aside0.mk (bb BK253.out hb);replace BK254 := Aside0.mk (bb BK254.out hb)
    replace HB := Aside0.mk (below_step (bel HB) hb)
    (try clear hb);(try clear hb2);(try clear hk);(try clear hi)
    refine hK.out _ _ ⟨(blk_cell BK254.out 0).trans rfl, (blk_cell BK254.out 1).trans rfl, (blk_cell BK254.out 2).trans rfl, (blk_cell BK254.out 3).trans rfl, (blk_cell BK254.out 4).trans rfl, (blk_cell BK254.out 5).trans rfl⟩ (fun hHeld => ?_)
    clear hK K
    refine norm_ (a' := ?_) ?_ ?_;rotate_left;·show Act.put _ (some 33) _ = _;simp only [Act.put, setIfInBounds_toArray, set_cons_zero, set_cons_succ, i64_w, i32_w];rfl
    refine pure_ (i := 15) (N := some 2) (v := ?_) (a' := ?_) #[T,T,T,T,T,T,T,T,T,T,T,T,T,T,T,T] rfl rfl (any_of HT_.out (by kernel_rfl)) (fun _ _ _ h => h) (Or.inl ⟨by rfl, ?_⟩) ?_ ?_
    rotate_left;·intro w';go_simp;with_reducible rfl
    rotate_left;·simp only [Act.put, setIfInBounds_toArray, set_cons_zero, set_cons_succ, i64_w, i32_w];rfl
    refine done_ (done_of HT_.out (by kernel_rfl)) ?_
    try go_wp2
    go_ret
    exact ⟨by first | rfl | (simp [errW_none, errW_some] <;> rfl) | (simp [*, errW_none, errW_some] <;> rfl), bel HB⟩

end Go.Proofs.YtloclimoffhbhaaDoor.PSca

namespace Go.Proofs.YtloclimoffhbhaaDoor.PSca
open Go.RowKit Go.Proofs.YtloclimoffhbhaaDoorW.PrintWords Go.Proofs.YtloclimoffhbhaaDoorW.PrintLast Go.Proofs.YtloclimoffhbhaaDoorW.PrintMore Go.Proofs.YtloclimoffhbhaaDoorW.PrintSq List
attribute [local go_sem] max2_int min2_int max_two min_two max_three min_three max_four min_four   -- for this text's walks alone
set_option linter.unusedVariables false
set_option linter.unusedSimpArgs false

/-! ### crossbuckref03_size: function 101 -/
def crossbuckref03_size.l0 : Nat → Int → Int → Option (Int)
 | 0, _, _ => none
 | k + 1, x3, x4 => if x4 < 32 then (crossbuckref03_size.l0 k (IntKind.u64.wrap (x3 * 2)) (wrap64 (x4 + 1))) else (some x3)
def crossbuckref03_size.f (k : Nat) (a0 : Int) : Option (Int) := crossbuckref03_size.l0 k 1 a0
set_option maxHeartbeats 8000000 in
set_option maxRecDepth 100000 in
theorem crossbuckref03_size.calls (k : Nat) (a0 : Int) (r : Int) (w : World) (h : crossbuckref03_size.f k a0 = some r) :
  Calls Tryd.prog 101 #[.int .i64 a0] w fun e w' => e = .returned (.int .u64 r) ∧ Drawn0 w w' := by
 have H : (crossbuckref03_size.l0 k 1 a0) = some r := h;clear h;have H' := Aside0.mk H;clear H;go_enter Tryd.func101, Tryd.ntmps101;go_wp2
 go_loopg [3, 4] k (fun kq v3 v4 w' => ∃ (x3_1 : Int) (x4_1 : Int), v3 = .int .u64 x3_1 ∧ v4 = .int .i64 x4_1 ∧ Aside0 (crossbuckref03_size.l0 kq x3_1 x4_1 = some r) ∧ Aside0 (kq ≤ k) ∧ Drawn0 w w')
 case atStart => exact ⟨(1), (a0), (by first | rfl | (simp; done) | (simp [*]; done)), (by first | rfl | (simp; done) | (simp [*]; done)), H', ⟨Nat.le_refl _⟩, by repeat (first | exact Drawn0.refl _ | apply Drawn0.step)⟩
 case round =>
  clear H'
  try clear c1
  obtain ⟨x3_1, x4_1, rfl, rfl, HA, HK1, ⟨m1, rfl⟩⟩ := hrel
  cases gk with
  | zero => exact absurd HA.out (by simp [crossbuckref03_size.l0])
  | succ k1 =>
   have H := HA.out;clear HA;simp only [crossbuckref03_size.l0] at H
   by_cases c2 : x4_1 < 32
   ·rw [if_pos c2] at H
    have c2b0 : decide (x4_1 < 32) = true := decide_eq_true c2;clear c2;have H' := Aside0.mk H;clear H;go_wp2;go_roundg k1
    case measure => have := HK1.out; omega
    case rel => exact ⟨(IntKind.u64.wrap (x3_1 * 2)), (wrap64 (x4_1 + 1)), (by first | rfl | (simp; done) | (simp [*]; done)), (by first | rfl | (simp; done) | (simp [*]; done)), H', ⟨by have := HK1.out; omega⟩, by repeat (first | exact Drawn0.refl _ | apply Drawn0.step)⟩
   ·rw [if_neg c2] at H
    have c2b0 : decide (x4_1 < 32) = false := decide_eq_false c2;clear c2;obtain rfl := Option.some.inj H;go_wp2;go_ret
    exact ⟨by first | rfl | (simp; done) | (simp [*]; done), by repeat (first | exact Drawn0.refl _ | apply Drawn0.step)⟩

end Go.Proofs.YtloclimoffhbhaaDoor.PSca

namespace Go.Proofs.YtloclimoffhbhaaDoor.PSca
open Go.RowKit Go.Proofs.YtloclimoffhbhaaDoorW.PrintWords Go.Proofs.YtloclimoffhbhaaDoorW.PrintLast Go.Proofs.YtloclimoffhbhaaDoorW.PrintMore Go.Proofs.YtloclimoffhbhaaDoorW.PrintSq List
attribute [local go_sem] max2_int min2_int max_two min_two max_three min_three max_four min_four   -- for this text's walks alone
set_option linter.unusedVariables false
set_option linter.unusedSimpArgs false

/-! ### crossbuckref03_Right: function 61 -/
def crossbuckref03_Right.f (k : Nat) (a0_0 : Int) (a0_1 : Int) : Option (Bool) := if a0_1 ≥ 0 then (if a0_1 ≤ 32 then ((crossbuckref03_size.f k a0_1).bind fun t266 => (if t266 = 0 then (none) else (some ((Int.tmod (IntKind.u64.wrap (a0_0)) t266) == 0)))) else (some false)) else (some false)
set_option maxHeartbeats 8000000 in
set_option maxRecDepth 100000 in
theorem crossbuckref03_Right.calls (k : Nat) (a0_0 : Int) (a0_1 : Int) (r : Bool) (w : World) (h : crossbuckref03_Right.f k a0_0 a0_1 = some r) :
  Calls Tryd.prog 61 #[.agg #[.int .u32 a0_0, .int .i64 a0_1]] w fun e w' => e = .returned (.bool r) ∧ Below w.heap.size w w' := by
 have hu42 := Tryd.underlying42;have HB := Aside0.mk (Below.refl w.heap.size w)
 have H : (if a0_1 ≥ 0 then (if a0_1 ≤ 32 then ((crossbuckref03_size.f k a0_1).bind fun t266 => (if t266 = 0 then (none) else (some ((Int.tmod (IntKind.u64.wrap (a0_0)) t266) == 0)))) else (some false)) else (some false)) = some r := h
 clear h
 by_cases c2 : a0_1 ≥ 0
 ·rw [if_pos c2] at H
  have c2b0 : decide (0 ≤ a0_1) = true := decide_eq_true c2;clear c2
  by_cases c3 : a0_1 ≤ 32
  ·rw [if_pos c3] at H
   have c3b0 : decide (a0_1 ≤ 32) = true := decide_eq_true c3;clear c3;replace H := Option.bind_eq_some_iff.mp H;obtain ⟨t266, A40, H⟩ := H;replace H : (if t266 = 0 then (none) else (some ((Int.tmod (IntKind.u64.wrap (a0_0)) t266) == 0))) = some r := H;have A4 := Aside0.mk A40;clear A40
   by_cases c5 : t266 = 0
   ·rw [if_pos c5] at H
    exact absurd H (by simp)
   ·rw [if_neg c5] at H
    have c5b0 : (t266 == 0) = false := beq_eq_false_iff_ne.mpr c5;have c5b1 : (t266 != 0) = true := bne_iff_ne.mpr c5;obtain rfl := Option.some.inj H;go_enter Tryd.func61, Tryd.ntmps61
    go_wp2_with (first | ((with_reducible refine gate_dst (N := 1) rfl ?_); refine box_event rfl (N := 1) rfl (cs := #[.int .u32 a0_0, .int .i64 a0_1]) (t := 42) gs ?_; intro gb265 hg w6 hbox hb; have n0_ := Aside0.mk (below_step (bel HB) hb); have n1_ := Aside0.mk (hbox); have n2_ := Aside0.mk ((by rw [hg]; exact (below_size (bel HB)) : w.heap.size ≤ gb265)); have n3_ := Aside0.mk ((by rw [hg]; exact (below_size (bel HB)) : w.heap.size ≤ gb265)); clear HB; have HB := n0_; have BK265 := n1_; have GW265 := n2_; have GE265 := n3_; clear n0_ n1_ n2_ n3_; clear hb hbox hg; have hcz7 := cz2 BK265.out) | (go_at_call 101; (with_reducible refine (crossbuckref03_size.calls k a0_1 t266 _ A4.out).mono ?_); rintro e w' ⟨rfl, ⟨nd, rfl⟩⟩; (try first | exact ⟨rfl, _, World.drewN_drewN _ _ _⟩ | exact ⟨rfl, _, Eq.trans (World.drewN_drewN _ _ _) (congrArg (World.drewN _) (Nat.add_assoc _ _ _))⟩)))
    repeat (go_quiet (first | ((with_reducible refine gate_dst (N := 1) rfl ?_); refine box_event rfl (N := 1) rfl (cs := #[.int .u32 a0_0, .int .i64 a0_1]) (t := 42) gs ?_; intro gb265 hg w6 hbox hb; have n0_ := Aside0.mk (below_step (bel HB) hb); have n1_ := Aside0.mk (hbox); have n2_ := Aside0.mk ((by rw [hg]; exact (below_size (bel HB)) : w.heap.size ≤ gb265)); have n3_ := Aside0.mk ((by rw [hg]; exact (below_size (bel HB)) : w.heap.size ≤ gb265)); clear HB; have HB := n0_; have BK265 := n1_; have GW265 := n2_; have GE265 := n3_; clear n0_ n1_ n2_ n3_; clear hb hbox hg; have hcz7 := cz2 BK265.out) | (go_at_call 101; (with_reducible refine (crossbuckref03_size.calls k a0_1 t266 _ A4.out).mono ?_); rintro e w' ⟨rfl, ⟨nd, rfl⟩⟩; (try first | exact ⟨rfl, _, World.drewN_drewN _ _ _⟩ | exact ⟨rfl, _, Eq.trans (World.drewN_drewN _ _ _) (congrArg (World.drewN _) (Nat.add_assoc _ _ _))⟩))); try go_wp2_with (first | ((with_reducible refine gate_dst (N := 1) rfl ?_); refine box_event rfl (N := 1) rfl (cs := #[.int .u32 a0_0, .int .i64 a0_1]) (t := 42) gs ?_; intro gb265 hg w6 hbox hb; have n0_ := Aside0.mk (below_step (bel HB) hb); have n1_ := Aside0.mk (hbox); have n2_ := Aside0.mk ((by rw [hg]; exact (below_size (bel HB)) : w.heap.size ≤ gb265)); have n3_ := Aside0.mk ((by rw [hg]; exact (below_size (bel HB)) : w.heap.size ≤ gb265)); clear HB; have HB := n0_; have BK265 := n1_; have GW265 := n2_; have GE265 := n3_; clear n0_ n1_ n2_ n3_; clear hb hbox hg; have hcz7 := cz2 BK265.out) | (go_at_call 101; (with_reducible refine (crossbuckref03_size.calls k a0_1 t266 _ A4.out).mono ?_); rintro e w' ⟨rfl, ⟨nd, rfl⟩⟩; (try first | exact ⟨rfl, _, World.drewN_drewN _ _ _⟩ | exact ⟨rfl, _, Eq.trans (World.drewN_drewN _ _ _) (congrArg (World.drewN _) (Nat.add_assoc _ _ _))⟩))))
    go_ret
    exact ⟨by first | rfl | (simp [errW_none, errW_some] <;> rfl) | (simp [*, errW_none, errW_some] <;> rfl), bel HB⟩
  ·rw [if_neg c3] at H
   have c3b0 : decide (a0_1 ≤ 32) = false := decide_eq_false c3;clear c3;obtain rfl := Option.some.inj H;go_enter Tryd.func61, Tryd.ntmps61
   go_wp2_with (first | ((with_reducible refine gate_dst (N := 1) rfl ?_); refine box_event rfl (N := 1) rfl (cs := #[.int .u32 a0_0, .int .i64 a0_1]) (t := 42) gs ?_; intro gb265 hg w8 hbox hb; have n0_ := Aside0.mk (below_step (bel HB) hb); have n1_ := Aside0.mk (hbox); have n2_ := Aside0.mk ((by rw [hg]; exact (below_size (bel HB)) : w.heap.size ≤ gb265)); have n3_ := Aside0.mk ((by rw [hg]; exact (below_size (bel HB)) : w.heap.size ≤ gb265)); clear HB; have HB := n0_; have BK265 := n1_; have GW265 := n2_; have GE265 := n3_; clear n0_ n1_ n2_ n3_; clear hb hbox hg; have hcz9 := cz2 BK265.out))
   repeat (go_quiet (first | ((with_reducible refine gate_dst (N := 1) rfl ?_); refine box_event rfl (N := 1) rfl (cs := #[.int .u32 a0_0, .int .i64 a0_1]) (t := 42) gs ?_; intro gb265 hg w8 hbox hb; have n0_ := Aside0.mk (below_step (bel HB) hb); have n1_ := Aside0.mk (hbox); have n2_ := Aside0.mk ((by rw [hg]; exact (below_size (bel HB)) : w.heap.size ≤ gb265)); have n3_ := Aside0.mk ((by rw [hg]; exact (below_size (bel HB)) : w.heap.size ≤ gb265)); clear HB; have HB := n0_; have BK265 := n1_; have GW265 := n2_; have GE265 := n3_; clear n0_ n1_ n2_ n3_; clear hb hbox hg; have hcz9 := cz2 BK265.out)); try go_wp2_with (first | ((with_reducible refine gate_dst (N := 1) rfl ?_); refine box_event rfl (N := 1) rfl (cs := #[.int .u32 a0_0, .int .i64 a0_1]) (t := 42) gs ?_; intro gb265 hg w8 hbox hb; have n0_ := Aside0.mk (below_step (bel HB) hb); have n1_ := Aside0.mk (hbox); have n2_ := Aside0.mk ((by rw [hg]; exact (below_size (bel HB)) : w.heap.size ≤ gb265)); have n3_ := Aside0.mk ((by rw [hg]; exact (below_size (bel HB)) : w.heap.size ≤ gb265)); clear HB; have HB := n0_; have BK265 := n1_; have GW265 := n2_; have GE265 := n3_; clear n0_ n1_ n2_ n3_; clear hb hbox hg; have hcz9 := cz2 BK265.out)))
   go_ret
   exact ⟨by first | rfl | (simp [errW_none, errW_some] <;> rfl) | (simp [*, errW_none, errW_some] <;> rfl), bel HB⟩
 ·rw [if_neg c2] at H
  have c2b0 : decide (0 ≤ a0_1) = false := decide_eq_false c2;clear c2;obtain rfl := Option.some.inj H;go_enter Tryd.func61, Tryd.ntmps61
  go_wp2_with (first | ((with_reducible refine gate_dst (N := 1) rfl ?_); refine box_event rfl (N := 1) rfl (cs := #[.int .u32 a0_0, .int .i64 a0_1]) (t := 42) gs ?_; intro gb265 hg w10 hbox hb; have n0_ := Aside0.mk (below_step (bel HB) hb); have n1_ := Aside0.mk (hbox); have n2_ := Aside0.mk ((by rw [hg]; exact (below_size (bel HB)) : w.heap.size ≤ gb265)); have n3_ := Aside0.mk ((by rw [hg]; exact (below_size (bel HB)) : w.heap.size ≤ gb265)); clear HB; have HB := n0_; have BK265 := n1_; have GW265 := n2_; have GE265 := n3_; clear n0_ n1_ n2_ n3_; clear hb hbox hg; have hcz11 := cz2 BK265.out))
  repeat (go_quiet (first | ((with_reducible refine gate_dst (N := 1) rfl ?_); refine box_event rfl (N := 1) rfl (cs := #[.int .u32 a0_0, .int .i64 a0_1]) (t := 42) gs ?_; intro gb265 hg w10 hbox hb; have n0_ := Aside0.mk (below_step (bel HB) hb); have n1_ := Aside0.mk (hbox); have n2_ := Aside0.mk ((by rw [hg]; exact (below_size (bel HB)) : w.heap.size ≤ gb265)); have n3_ := Aside0.mk ((by rw [hg]; exact (below_size (bel HB)) : w.heap.size ≤ gb265)); clear HB; have HB := n0_; have BK265 := n1_; have GW265 := n2_; have GE265 := n3_; clear n0_ n1_ n2_ n3_; clear hb hbox hg; have hcz11 := cz2 BK265.out)); try go_wp2_with (first | ((with_reducible refine gate_dst (N := 1) rfl ?_); refine box_event rfl (N := 1) rfl (cs := #[.int .u32 a0_0, .int .i64 a0_1]) (t := 42) gs ?_; intro gb265 hg w10 hbox hb; have n0_ := Aside0.mk (below_step (bel HB) hb); have n1_ := Aside0.mk (hbox); have n2_ := Aside0.mk ((by rw [hg]; exact (below_size (bel HB)) : w.heap.size ≤ gb265)); have n3_ := Aside0.mk ((by rw [hg]; exact (below_size (bel HB)) : w.heap.size ≤ gb265)); clear HB; have HB := n0_; have BK265 := n1_; have GW265 := n2_; have GE265 := n3_; clear n0_ n1_ n2_ n3_; clear hb hbox hg; have hcz11 := cz2 BK265.out)))
  go_ret
  exact ⟨by first | rfl | (simp [errW_none, errW_some] <;> rfl) | (simp [*, errW_none, errW_some] <;> rfl), bel HB⟩

end Go.Proofs.YtloclimoffhbhaaDoor.PSca
