-- Written by wip/myprint.py and wip/merge.py (this session's own programs); Lean checks it.
-- halved
import Derived.Test.YtloclimoffhbhaaDoorSq6
import Derived.Test.YtloclimoffhbhaaDoorPStox0
import Derived.Test.YtloclimoffhbhaaDoorPStox6
import Derived.Test.YtloclimoffhbhaaDoorPStox7
import Derived.Test.YtloclimoffhbhaaDoorPStox8
namespace Go.Proofs.YtloclimoffhbhaaDoor.PSto
open Go.RowKit Go.Proofs.YtloclimoffhbhaaDoorW.PrintWords Go.Proofs.YtloclimoffhbhaaDoorW.PrintLast Go.Proofs.YtloclimoffhbhaaDoorW.PrintMore Go.Proofs.YtloclimoffhbhaaDoorW.PrintSq List
attribute [local go_sem] max2_int min2_int max_two min_two max_three min_three max_four min_four   -- for this text's walks alone
set_option linter.unusedVariables false
set_option linter.unusedSimpArgs false

/-! ### script_PrintTopo: function 22 -/
mutual
def script_PrintTopo.l0 : Nat → List ByteArray → List Int → Int → Int → List Int → List (S133) → List (S130) → Option (List ByteArray)
 | 0, _, _, _, _, _, _, _ => none
 | k + 1, x3, x13, x14, x15, x384000, x384001, x384002 => if x15 < x14 then (if 0 ≤ x15 then (if x15 < (x13.length : Int) then ((strconv_Itoa_76.f (rd x13 x15)).bind fun t385 => (if 7 + t385.size ≤ 9223372036854775807 then (if x3.length < 8796093022208 then (script_PrintTopo.l0 k (x3 ++ [(⟨#[100, 101, 118, 105, 99, 101, 32]⟩ : ByteArray) ++ t385]) x13 x14 (wrap64 (x15 + 1)) x384000 x384001 x384002) else (none)) else (none))) else (none)) else (none)) else (script_PrintTopo.l1 k x3 x384001 (x384001.length : Int) 0 x384000 x384001 x384002)
def script_PrintTopo.l1 : Nat → List ByteArray → List (S133) → Int → Int → List Int → List (S133) → List (S130) → Option (List ByteArray)
 | 0, _, _, _, _, _, _, _ => none
 | k + 1, x3, x27, x28, x29, x384000, x384001, x384002 => if x29 < x28 then (if 0 ≤ x29 then (if x29 < (x27.length : Int) then ((strconv_Itoa_76.f ((rd_T133 x27 x29).f0)).bind fun t391 => ((strconv_Itoa_76.f ((rd_T133 x27 x29).f1)).bind fun t392 => ((strconv_Itoa_76.f ((rd_T133 x27 x29).f2)).bind fun t393 => ((strconv_Itoa_76.f ((rd_T133 x27 x29).f3)).bind fun t394 => ((strings_Join.f (([(⟨#[108, 105, 110, 107]⟩ : ByteArray), t391, t392, t393, t394] : List ByteArray)) (⟨#[32]⟩ : ByteArray)).bind fun t398 => (if x3.length < 8796093022208 then (script_PrintTopo.l1 k (x3 ++ [t398]) x27 x28 (wrap64 (x29 + 1)) x384000 x384001 x384002) else (none))))))) else (none)) else (none)) else (script_PrintTopo.l2 k x3 x384002 (x384002.length : Int) 0)
def script_PrintTopo.l2 : Nat → List ByteArray → List (S130) → Int → Int → Option (List ByteArray)
 | 0, _, _, _, _ => none
 | k + 1, x3, x52, x53, x54 => if x54 < x53 then (if 0 ≤ x54 then (if x54 < (x52.length : Int) then (if (rd_T130 x52 x54).f2 = true then (script_PrintTopo.j3 k x3 (⟨#[105, 110]⟩ : ByteArray) (⟨#[100, 101, 110, 121]⟩ : ByteArray) x52 x53 x54 ((rd_T130 x52 x54).f0) ((rd_T130 x52 x54).f1) ((rd_T130 x52 x54).f2) ((rd_T130 x52 x54).f3) ((rd_T130 x52 x54).f4.f0.f0) ((rd_T130 x52 x54).f4.f0.f1) ((rd_T130 x52 x54).f4.f1.f0) ((rd_T130 x52 x54).f4.f1.f1) ((rd_T130 x52 x54).f4.f2) ((rd_T130 x52 x54).f4.f3.f0) ((rd_T130 x52 x54).f4.f3.f1) ((rd_T130 x52 x54).f4.f4.f0) ((rd_T130 x52 x54).f4.f4.f1)) else (script_PrintTopo.j3 k x3 (⟨#[111, 117, 116]⟩ : ByteArray) (⟨#[100, 101, 110, 121]⟩ : ByteArray) x52 x53 x54 ((rd_T130 x52 x54).f0) ((rd_T130 x52 x54).f1) ((rd_T130 x52 x54).f2) ((rd_T130 x52 x54).f3) ((rd_T130 x52 x54).f4.f0.f0) ((rd_T130 x52 x54).f4.f0.f1) ((rd_T130 x52 x54).f4.f1.f0) ((rd_T130 x52 x54).f4.f1.f1) ((rd_T130 x52 x54).f4.f2) ((rd_T130 x52 x54).f4.f3.f0) ((rd_T130 x52 x54).f4.f3.f1) ((rd_T130 x52 x54).f4.f4.f0) ((rd_T130 x52 x54).f4.f4.f1))) else (none)) else (none)) else (some x3)
def script_PrintTopo.j3 : Nat → List ByteArray → ByteArray → ByteArray → List (S130) → Int → Int → Int → Int → Bool → Bool → Int → Int → Int → Int → Int → Int → Int → Int → Int → Option (List ByteArray)
 | 0, _, _, _, _, _, _, _, _, _, _, _, _, _, _, _, _, _, _, _ => none
 | k + 1, x3, x10, x11, x52, x53, x54, x404000, x404001, x404002, x404003, x404004, x404005, x404006, x404007, x404008, x404009, x404010, x404011, x404012 => if x404003 = true then (script_PrintTopo.j4 k x3 x10 (⟨#[112, 101, 114, 109, 105, 116]⟩ : ByteArray) x52 x53 x54 x404000 x404001 x404002 x404003 x404004 x404005 x404006 x404007 x404008 x404009 x404010 x404011 x404012) else (script_PrintTopo.j4 k x3 x10 x11 x52 x53 x54 x404000 x404001 x404002 x404003 x404004 x404005 x404006 x404007 x404008 x404009 x404010 x404011 x404012)
def script_PrintTopo.j4 : Nat → List ByteArray → ByteArray → ByteArray → List (S130) → Int → Int → Int → Int → Bool → Bool → Int → Int → Int → Int → Int → Int → Int → Int → Int → Option (List ByteArray)
 | 0, _, _, _, _, _, _, _, _, _, _, _, _, _, _, _, _, _, _, _ => none
 | k + 1, x3, x10, x11, x52, x53, x54, x404000, x404001, x404002, x404003, x404004, x404005, x404006, x404007, x404008, x404009, x404010, x404011, x404012 => (strconv_Itoa_76.f x404000).bind fun t404 => ((strconv_Itoa_76.f x404001).bind fun t405 => ((filter_Print.f k x404004 x404005 x404006 x404007 x404008 x404009 x404010 x404011 x404012).bind fun t406 => ((strings_Join.f (([(⟨#[97, 99, 108]⟩ : ByteArray), t404, t405, x10, x11, t406] : List ByteArray)) (⟨#[32]⟩ : ByteArray)).bind fun t410 => (if x3.length < 8796093022208 then (script_PrintTopo.l2 k (x3 ++ [t410]) x52 x53 (wrap64 (x54 + 1))) else (none)))))
end
def script_PrintTopo.f (k : Nat) (l0_0 : List Int) (l0_1 : List (S133)) (l0_2 : List (S130)) : Option (List ByteArray) := script_PrintTopo.l0 k ([] : List ByteArray) l0_0 (l0_0.length : Int) 0 l0_0 l0_1 l0_2
def script_PrintTopo.T10 : Bool × List (List Nat × List Nat) := (true, [([], []), ([], []), ([1], [1]), ([2], [2]), ([], []), ([4], [4]), ([5, 3], [5]), ([], []), ([7], [7]), ([8, 6], [8]), ([], []), ([10], [10]), ([11, 9], [11]), ([3, 6, 9, 12], [3, 6, 9, 12]), ([13, 12], [13]), ([14], [14]), ([0, 15, 14], [0, 15]), ([16, 16, 0, 1, 2, 3, 4, 5, 6, 7, 8, 9, 10, 11, 12, 13, 14, 15, 16], [0, 16])])
def script_PrintTopo.B10 : List Nat := [0, 0, 2, 6, 0, 16, 62, 0, 128, 510, 0, 1024, 4094, 8190, 16382, 32766, 65535, 131071]
theorem script_PrintTopo.tab10 : rtab .any (opsOf Tryd.f22 10) = script_PrintTopo.T10 := by kernel_rfl
theorem script_PrintTopo.bits10 : waitsOk script_PrintTopo.T10.2 script_PrintTopo.B10 = true := by kernel_rfl
def script_PrintTopo.T20 : Bool × List (List Nat × List Nat) := (true, [([], []), ([], []), ([1], [1]), ([2], [2]), ([], []), ([4], [4]), ([5, 3], [5]), ([], []), ([], []), ([], []), ([9], [9]), ([10, 6], [10]), ([3, 6, 7, 8, 11], [3, 6, 7, 8, 11]), ([12, 11], [12]), ([13], [13]), ([0, 14, 13], [0, 14]), ([15, 15, 0, 1, 2, 3, 4, 5, 6, 7, 8, 9, 10, 11, 12, 13, 14, 15], [0, 15])])
def script_PrintTopo.B20 : List Nat := [0, 0, 2, 6, 0, 16, 62, 0, 0, 0, 512, 1662, 4094, 8190, 16382, 32767, 65535]
theorem script_PrintTopo.tab20 : rtab .any (opsOf Tryd.f22 20) = script_PrintTopo.T20 := by kernel_rfl
theorem script_PrintTopo.bits20 : waitsOk script_PrintTopo.T20.2 script_PrintTopo.B20 = true := by kernel_rfl
set_option maxHeartbeats 8000000 in
set_option maxRecDepth 100000 in
theorem script_PrintTopo.calls (k : Nat) (A0_0 : Option Addr) (c0_0 : Nat) (l0_0 : List Int) (A0_1 : Option Addr) (c0_1 : Nat) (l0_1 : List (S133)) (A0_2 : Option Addr) (c0_2 : Nat) (l0_2 : List (S130)) (r : List ByteArray) (w : World) (hG : Hand.Good false true w) (hr0_0 : Kd.C (Kd.int .i64) w A0_0 l0_0.length l0_0) (hc0_0 : l0_0.length ≤ c0_0) (hr0_1 : Kd.C k133 w A0_1 l0_1.length l0_1) (hc0_1 : l0_1.length ≤ c0_1) (hr0_2 : Kd.C k130 w A0_2 l0_2.length l0_2) (hc0_2 : l0_2.length ≤ c0_2) (h : script_PrintTopo.f k l0_0 l0_1 l0_2 = some r) :
  Calls Tryd.prog 22 #[.agg #[.slice A0_0 l0_0.length c0_0, .slice A0_1 l0_1.length c0_1, .slice A0_2 l0_2.length c0_2]] w fun e w' => ∃ v0_ : Value, e = .returned (v0_) ∧ Kd.R Kd.string 9 w' w.heap.size (fun _ => True) v0_ r ∧ Below w.heap.size w w' := by
 have hu26 := Tryd.underlying26;have hu133 := Tryd.underlying133;have hu130 := Tryd.underlying130;have hu77 := Tryd.underlying77;have HR0_0 := Aside0.mk hr0_0;have HC0_0 := Aside0.mk hc0_0;clear hr0_0 hc0_0;have HR0_1 := Aside0.mk hr0_1;have HC0_1 := Aside0.mk hc0_1;clear hr0_1 hc0_1;have HR0_2 := Aside0.mk hr0_2;have HC0_2 := Aside0.mk hc0_2;clear hr0_2 hc0_2;have HB := Aside0.mk (Below.refl w.heap.size w);have hGG := Aside0.mk hG;clear hG;have H : (script_PrintTopo.l0 k ([] : List ByteArray) l0_0 (l0_0.length : Int) 0 l0_0 l0_1 l0_2) = some r := h;clear h;have H' := Aside0.mk H;clear H;go_enter Tryd.func22, Tryd.ntmps22
 go_wp2_with (first | ((with_reducible refine gate_dst (N := 1) rfl ?_); refine box_event rfl (N := 1) rfl (cs := #[.slice A0_0 l0_0.length c0_0, .slice A0_1 l0_1.length c0_1, .slice A0_2 l0_2.length c0_2]) (t := 26) gs ?_; intro gb383 hg w2 hbox hb; have n0_ := Aside0.mk (below_step (bel HB) hb); have n1_ := Aside0.mk (hbox); have n2_ := gew HB hg; have n3_ := gew HB hg; clear HB; have HB := n0_; have BK383 := n1_; have GW383 := n2_; have GE383 := n3_; clear n0_ n1_ n2_ n3_; clear hb hbox hg; have hcz3 := cz3 BK383.out))
 go_loopg [3, 15] k (fun kq v3 v15 w' => ∃ (x3_1 : List ByteArray) (x15_1 : Int), v15 = .int .i64 x15_1 ∧ Aside0 (script_PrintTopo.l0 kq x3_1 l0_0 (l0_0.length : Int) x15_1 l0_0 l0_1 l0_2 = some r) ∧ Aside0 (kq ≤ k) ∧ Aside0 (Kd.R Kd.string 9 w' w.heap.size (fun _ => True) v3 x3_1) ∧ Aside0 (w'.heap[gb383]? = some (.cells #[(.slice A0_0 l0_0.length c0_0), (.slice A0_1 l0_1.length c0_1), (.slice A0_2 l0_2.length c0_2)] 26 (0, 0))) ∧ Aside0 (Below w.heap.size w w'))
 case atStart => exact ⟨(([] : List ByteArray)), (0), (by first | rfl | (simp; done) | (simp [*]; done)), H', ⟨Nat.le_refl _⟩, ⟨by first | exact Kd.R_nil _ _ _ _ _ | exact Kd.N_nil _ _ _ _ _ | exact Kd.V_nil _ _ _ _ _ | exact Kd.Q_nil _ _ _ _ _ | exact Kd.S_nil _ _ _ _ _⟩, ⟨bkp⟩, ⟨by repeat (first | (with_reducible first | exact HB.out | apply below_alloc | apply pw_below_drewN | apply below_drew1 | refine below_set ?_ GE383.out) | exact HB.out)⟩⟩
 case round =>
  clear H'
  try clear c2
  try clear p2
  try clear hcz3
  obtain ⟨x3_1, x15_1, rfl, HA, HK1, HO_3, BK383, HB⟩ := hrel
  cases gk with
  | zero => exact absurd HA.out (by simp [script_PrintTopo.l0])
  | succ k1 =>
   have H := HA.out;clear HA;simp only [script_PrintTopo.l0] at H
   by_cases c4 : x15_1 < (l0_0.length : Int)
   ·rw [if_pos c4] at H
    have c4b0 : decide (x15_1 < (l0_0.length : Int)) = true := decide_eq_true c4;clear c4
    by_cases c5 : 0 ≤ x15_1
    ·rw [if_pos c5] at H
     have c5b0 : decide (0 ≤ x15_1) = true := decide_eq_true c5;clear c5
     by_cases c6 : x15_1 < (l0_0.length : Int)
     ·rw [if_pos c6] at H
      have c6b0 : decide (x15_1 < (l0_0.length : Int)) = true := decide_eq_true c6;clear c6;replace H := Option.bind_eq_some_iff.mp H;obtain ⟨t385, A70, H⟩ := H;replace H : (if 7 + t385.size ≤ 9223372036854775807 then (if x3_1.length < 8796093022208 then (script_PrintTopo.l0 k1 (x3_1 ++ [(⟨#[100, 101, 118, 105, 99, 101, 32]⟩ : ByteArray) ++ t385]) l0_0 (l0_0.length : Int) (wrap64 (x15_1 + 1)) l0_0 l0_1 l0_2) else (none)) else (none)) = some r := H;have A7 := Aside0.mk A70;clear A70
      by_cases c8 : 7 + t385.size ≤ 9223372036854775807
      ·rw [if_pos c8] at H
       have c8b0 := eq_true c8;have c8b1 : decide (7 + t385.size ≤ 9223372036854775807) = true := decide_eq_true c8
       try have c8b2 : (9223372036854775807 < 7 + t385.size) = False := eq_false (Nat.not_lt.2 c8)
       by_cases c9 : x3_1.length < 8796093022208
       ·rw [if_pos c9] at H
        have LMc9 := Aside0.mk c9;clear c9;obtain ⟨y386, hy386⟩ : ∃ y_ : List ByteArray, y_ = (x3_1 ++ [(⟨#[100, 101, 118, 105, 99, 101, 32]⟩ : ByteArray) ++ t385]) := ⟨_, rfl⟩
        replace H : (script_PrintTopo.l0 k1 y386 l0_0 (l0_0.length : Int) (wrap64 (x15_1 + 1)) l0_0 l0_1 l0_2) = some r := by first | (rw [hy386]; with_reducible exact H) | (have H2_ := (Option.bind_some _ _).symm.trans H; rw [hy386]; with_reducible exact H2_) | (have H2_ := (Option.bind_some _ _).symm.trans H; with_reducible exact H2_) | with_reducible exact H | (rw [hy386]; exact H) | exact H
        have Ny386 := Aside0.mk hy386;clear hy386;have H' := Aside0.mk H;clear H
        have p384 : 0 ≤ (x15_1 : Int) := of_decide_eq_true (by first | (with_reducible assumption) | assumption)
        have q384 : x15_1 < (l0_0.length : Int) := of_decide_eq_true (by first | (with_reducible assumption) | assumption)
        obtain ⟨ad384, e384, hx384_0⟩ := Kd.at_int HR0_0.out x15_1 p384 q384
        cases e384
        replace hx384_0 := mv HB hx384_0;replace p384 := eq_true p384;replace q384 := eq_true q384
        go_wp2_with (first | ((with_reducible refine gate_callee (f := 76) rfl ?_); refine goesL_ (some 21) rfl rfl Tryd.func76 (by kernel_rfl) rfl #[.int .i64 (rd l0_0 x15_1)] rfl aok ?_; (with_reducible refine (strconv_Itoa_76.calls (rd l0_0 x15_1) t385 _ (Hand.Good.below false true hGG.out (bel HB) rfl rfl) A7.out).mono ?_); rintro e w10 ⟨rfl, hb⟩; refine ⟨_, rfl, ?_⟩; have n0_ := Aside0.mk (Kd.R_below (rp HO_3) hb); have n1_ := Aside0.mk (bb BK383.out hb); have n2_ := Aside0.mk (below_step (bel HB) hb); clear HO_3; clear BK383; clear HB; have HO_3 := n0_; have BK383 := n1_; have HB := n2_; clear n0_ n1_ n2_; (try clear hb); (try clear hb2); (try clear hk); (try clear hi)) | ((with_reducible refine gate_builtin (b := .append) (xs := #[.tmp 19, .tmp 23]) rfl ?_); at_builtin; refine Kd.R_append Kd.string (w0 := w) w.heap.size rfl (.tmp 19) (.tmp 23) 30 9 (.string ⟨#[]⟩) 16 rfl Tryd.underlying30 info9 rfl (by decide) (by omega) u3 x3_1 ((⟨#[100, 101, 118, 105, 99, 101, 32]⟩ : ByteArray) ++ t385) [.string ((⟨#[100, 101, 118, 105, 99, 101, 32]⟩ : ByteArray) ++ t385)] (fun _ => True) (fun _ => False) rfl rfl ?aP (fun _ hk => hk.elim) ?aF ?aO ?aB ?aS ?aL ?_; (case aP => exact rfl); (case aB => exact (bel HB)); (case aF => exact (fun _ _ => trivial)); (case aO => exact (rp HO_3)); (case aS => exact (below_size (bel HB))); (case aL => have := LMc9.out; omega); intro v387 w11 ho hb hg hat; rw [← Ny386.out] at ho; have n0_ := Aside0.mk (blk_grown (g := gb383) (o := .cells #[.slice (some ad384) l0_0.length c0_0, .slice A0_1 l0_1.length c0_1, .slice A0_2 l0_2.length c0_2] 26 (0, 0)) bkp hg (Kd.R_ne HO_3.out BK383.out (by decide))); have n1_ := Aside0.mk (hb); have n2_ := Aside0.mk (ho); clear BK383; clear HB; clear HO_3; have BK383 := n0_; have HB := n1_; have HO388 := n2_; clear n0_ n1_ n2_; clear ho hb hg hat))
        go_roundg k1
        case measure => have := HK1.out; omega
        case rel => exact ⟨(y386), (wrap64 (x15_1 + 1)), (by first | rfl | (simp; done) | (simp [*]; done)), H', ⟨by have := HK1.out; omega⟩, ⟨rp HO388⟩, ⟨bkp⟩, ⟨by repeat (first | (with_reducible first | exact HB.out | apply below_alloc | apply pw_below_drewN | apply below_drew1 | refine below_set ?_ GE383.out) | exact HB.out)⟩⟩
       ·rw [if_neg c9] at H
        exact absurd H (by simp)
      ·rw [if_neg c8] at H
       exact absurd H (by simp)
     ·rw [if_neg c6] at H
      exact absurd H (by simp)
    ·rw [if_neg c5] at H
     exact absurd H (by simp)
   ·rw [if_neg c4] at H
    have c4b0 : decide (x15_1 < (l0_0.length : Int)) = false := decide_eq_false c4;clear c4;have H' := Aside0.mk H;clear H;have hcz12 := cz3 BK383.out;go_wp2
    go_loopg [3, 29] k1 (fun kq v3 v29 w' => ∃ (x3_2 : List ByteArray) (x29_2 : Int), v29 = .int .i64 x29_2 ∧ Aside0 (script_PrintTopo.l1 kq x3_2 l0_1 (l0_1.length : Int) x29_2 l0_0 l0_1 l0_2 = some r) ∧ Aside0 (kq ≤ k1) ∧ Aside0 (Kd.R Kd.string 9 w' w.heap.size (fun _ => True) v3 x3_2) ∧ Aside0 (w'.heap[gb383]? = some (.cells #[(.slice A0_0 l0_0.length c0_0), (.slice A0_1 l0_1.length c0_1), (.slice A0_2 l0_2.length c0_2)] 26 (0, 0))) ∧ Aside0 (Below w.heap.size w w'))
    case atStart => exact ⟨(x3_1), (0), (by first | rfl | (simp; done) | (simp [*]; done)), H', ⟨Nat.le_refl _⟩, ⟨rp HO_3⟩, ⟨bkp⟩, ⟨by repeat (first | (with_reducible first | exact HB.out | apply below_alloc | apply pw_below_drewN | apply below_drew1 | refine below_set ?_ GE383.out) | exact HB.out)⟩⟩
    case round =>
     clear H'
     try clear c2
     try clear p2
     try clear p3
     try clear q3
     try clear hx3
     try clear c4
     try clear c4b0
     try clear c5
     try clear c5b0
     try clear c6
     try clear c6b0
     try clear p6
     try clear c7
     try clear c8
     try clear c8b0
     try clear c8b1
     try clear c8b2
     try clear c9
     try clear hcz12
     try clear hcz3
     try clear hx384_0
     try clear p2
     try clear p384
     try clear q384
     obtain ⟨x3_2, x29_2, rfl, HA, HK2, HO_3, BK383, HB⟩ := hrel
     cases gk with
     | zero => exact absurd HA.out (by simp [script_PrintTopo.l1])
     | succ k2 =>
      have H := HA.out;clear HA;simp only [script_PrintTopo.l1] at H
      by_cases c13 : x29_2 < (l0_1.length : Int)
      ·rw [if_pos c13] at H
       have c13b0 : decide (x29_2 < (l0_1.length : Int)) = true := decide_eq_true c13;clear c13
       by_cases c14 : 0 ≤ x29_2
       ·rw [if_pos c14] at H
        have c14b0 : decide (0 ≤ x29_2) = true := decide_eq_true c14;clear c14
        by_cases c15 : x29_2 < (l0_1.length : Int)
        ·rw [if_pos c15] at H
         have c15b0 : decide (x29_2 < (l0_1.length : Int)) = true := decide_eq_true c15;clear c15;replace H := Option.bind_eq_some_iff.mp H;obtain ⟨t391, A160, H⟩ := H
         replace H : ((strconv_Itoa_76.f ((rd_T133 l0_1 x29_2).f1)).bind fun t392 => ((strconv_Itoa_76.f ((rd_T133 l0_1 x29_2).f2)).bind fun t393 => ((strconv_Itoa_76.f ((rd_T133 l0_1 x29_2).f3)).bind fun t394 => ((strings_Join.f (([(⟨#[108, 105, 110, 107]⟩ : ByteArray), t391, t392, t393, t394] : List ByteArray)) (⟨#[32]⟩ : ByteArray)).bind fun t398 => (if x3_2.length < 8796093022208 then (script_PrintTopo.l1 k2 (x3_2 ++ [t398]) l0_1 (l0_1.length : Int) (wrap64 (x29_2 + 1)) l0_0 l0_1 l0_2) else (none)))))) = some r := H
         have A16 := Aside0.mk A160;clear A160;replace H := Option.bind_eq_some_iff.mp H;obtain ⟨t392, A170, H⟩ := H
         replace H : ((strconv_Itoa_76.f ((rd_T133 l0_1 x29_2).f2)).bind fun t393 => ((strconv_Itoa_76.f ((rd_T133 l0_1 x29_2).f3)).bind fun t394 => ((strings_Join.f (([(⟨#[108, 105, 110, 107]⟩ : ByteArray), t391, t392, t393, t394] : List ByteArray)) (⟨#[32]⟩ : ByteArray)).bind fun t398 => (if x3_2.length < 8796093022208 then (script_PrintTopo.l1 k2 (x3_2 ++ [t398]) l0_1 (l0_1.length : Int) (wrap64 (x29_2 + 1)) l0_0 l0_1 l0_2) else (none))))) = some r := H
         have A17 := Aside0.mk A170;clear A170;replace H := Option.bind_eq_some_iff.mp H;obtain ⟨t393, A180, H⟩ := H
         replace H : ((strconv_Itoa_76.f ((rd_T133 l0_1 x29_2).f3)).bind fun t394 => ((strings_Join.f (([(⟨#[108, 105, 110, 107]⟩ : ByteArray), t391, t392, t393, t394] : List ByteArray)) (⟨#[32]⟩ : ByteArray)).bind fun t398 => (if x3_2.length < 8796093022208 then (script_PrintTopo.l1 k2 (x3_2 ++ [t398]) l0_1 (l0_1.length : Int) (wrap64 (x29_2 + 1)) l0_0 l0_1 l0_2) else (none)))) = some r := H
         have A18 := Aside0.mk A180;clear A180;replace H := Option.bind_eq_some_iff.mp H;obtain ⟨t394, A190, H⟩ := H
         replace H : ((strings_Join.f (([(⟨#[108, 105, 110, 107]⟩ : ByteArray), t391, t392, t393, t394] : List ByteArray)) (⟨#[32]⟩ : ByteArray)).bind fun t398 => (if x3_2.length < 8796093022208 then (script_PrintTopo.l1 k2 (x3_2 ++ [t398]) l0_1 (l0_1.length : Int) (wrap64 (x29_2 + 1)) l0_0 l0_1 l0_2) else (none))) = some r := H
         have A19 := Aside0.mk A190;clear A190;obtain ⟨y395, hy395⟩ : ∃ y_ : List ByteArray, y_ = (([(⟨#[108, 105, 110, 107]⟩ : ByteArray), t391, t392, t393, t394] : List ByteArray)) := ⟨_, rfl⟩
         replace H : ((strings_Join.f y395 (⟨#[32]⟩ : ByteArray)).bind fun t398 => (if x3_2.length < 8796093022208 then (script_PrintTopo.l1 k2 (x3_2 ++ [t398]) l0_1 (l0_1.length : Int) (wrap64 (x29_2 + 1)) l0_0 l0_1 l0_2) else (none))) = some r := by first | (rw [hy395]; with_reducible exact H) | (have H2_ := (Option.bind_some _ _).symm.trans H; rw [hy395]; with_reducible exact H2_) | (have H2_ := (Option.bind_some _ _).symm.trans H; with_reducible exact H2_) | with_reducible exact H | (rw [hy395]; exact H) | exact H
         have Ny395 := Aside0.mk hy395;clear hy395;replace H := Option.bind_eq_some_iff.mp H;obtain ⟨t398, A200, H⟩ := H;replace H : (if x3_2.length < 8796093022208 then (script_PrintTopo.l1 k2 (x3_2 ++ [t398]) l0_1 (l0_1.length : Int) (wrap64 (x29_2 + 1)) l0_0 l0_1 l0_2) else (none)) = some r := H;have A20 := Aside0.mk A200;clear A200
         by_cases c21 : x3_2.length < 8796093022208
         ·rw [if_pos c21] at H
          have LMc21 := Aside0.mk c21;clear c21;obtain ⟨y399, hy399⟩ : ∃ y_ : List ByteArray, y_ = (x3_2 ++ [t398]) := ⟨_, rfl⟩
          replace H : (script_PrintTopo.l1 k2 y399 l0_1 (l0_1.length : Int) (wrap64 (x29_2 + 1)) l0_0 l0_1 l0_2) = some r := by first | (rw [hy399]; with_reducible exact H) | (have H2_ := (Option.bind_some _ _).symm.trans H; rw [hy399]; with_reducible exact H2_) | (have H2_ := (Option.bind_some _ _).symm.trans H; with_reducible exact H2_) | with_reducible exact H | (rw [hy399]; exact H) | exact H
          have Ny399 := Aside0.mk hy399;clear hy399;have H' := Aside0.mk H;clear H
          have p389 : 0 ≤ (x29_2 : Int) := of_decide_eq_true (by first | (with_reducible assumption) | assumption)
          have q389 : x29_2 < (l0_1.length : Int) := of_decide_eq_true (by first | (with_reducible assumption) | assumption)
          obtain ⟨ad389, e389, hx389_0, hx389_1, hx389_2, hx389_3⟩ := at_T133 HR0_1.out x29_2 p389 q389
          cases e389
          replace hx389_0 := mv HB hx389_0;replace hx389_1 := mv HB hx389_1;replace hx389_2 := mv HB hx389_2;replace hx389_3 := mv HB hx389_3;replace p389 := eq_true p389;replace q389 := eq_true q389
          try go_wp2_with (first | ((with_reducible refine gate_dst (N := 7) rfl ?_); refine box_event rfl (N := 7) rfl (cs := #[.int .i64 0, .int .i64 0, .int .i64 0, .int .i64 0]) (t := 133) gs ?_; intro gb390 hg w22 hbox hb; have n0_ := Aside0.mk (Kd.R_below (rp HO_3) hb); have n1_ := Aside0.mk (bb BK383.out hb); have n2_ := Aside0.mk (below_step (bel HB) hb); have n3_ := Aside0.mk (hbox); have n4_ := gew HB hg; have n5_ := gew HB hg; have n6_ := Aside0.mk ((ne1 BK383.out hg : gb383 ≠ gb390)); have n7_ := Aside0.mk ((ne2 BK383.out hg : gb390 ≠ gb383)); clear HO_3; clear BK383; clear HB; have HO_3 := n0_; have BK383 := n1_; have HB := n2_; have BK390 := n3_; have GW390 := n4_; have GE390 := n5_; have NB383_390 := n6_; have NB390_383 := n7_; clear n0_ n1_ n2_ n3_ n4_ n5_ n6_ n7_; clear hb hbox hg; have hnb23 := NB390_383.out; have hnc23 := NB383_390.out; have hcz24 := cz4 BK390.out))
          have n0_ : Aside0 (Kd.R Kd.string 9 ((((w22.setCell ⟨gb390, 0, none⟩ (.int .i64 ((rd_T133 l0_1 x29_2).f0))).setCell ⟨gb390, 1, none⟩ (.int .i64 ((rd_T133 l0_1 x29_2).f1))).setCell ⟨gb390, 2, none⟩ (.int .i64 ((rd_T133 l0_1 x29_2).f2))).setCell ⟨gb390, 3, none⟩ (.int .i64 ((rd_T133 l0_1 x29_2).f3))) w.heap.size (fun _ => True) u3 x3_2) := ⟨by (with_reducible repeat (first | apply Kd.R_alloc | apply Kd.R_drewN | apply Kd.R_drew)); exact Kd.R_mono (Kd.R_far (p := ⟨gb390, 3, none⟩) (Kd.R_far (p := ⟨gb390, 2, none⟩) (Kd.R_far (p := ⟨gb390, 1, none⟩) (Kd.R_far (p := ⟨gb390, 0, none⟩) (Kd.R_types HO_3.out BK390.out (by decide)) (fun _ hk => hk.2) (.int .i64 ((rd_T133 l0_1 x29_2).f0))) (fun _ hk => hk.2) (.int .i64 ((rd_T133 l0_1 x29_2).f1))) (fun _ hk => hk.2) (.int .i64 ((rd_T133 l0_1 x29_2).f2))) (fun _ hk => hk.2) (.int .i64 ((rd_T133 l0_1 x29_2).f3))) (fun _ hk => trivial)⟩
          have n1_ : Aside0 (((((w22.setCell ⟨gb390, 0, none⟩ (.int .i64 ((rd_T133 l0_1 x29_2).f0))).setCell ⟨gb390, 1, none⟩ (.int .i64 ((rd_T133 l0_1 x29_2).f1))).setCell ⟨gb390, 2, none⟩ (.int .i64 ((rd_T133 l0_1 x29_2).f2))).setCell ⟨gb390, 3, none⟩ (.int .i64 ((rd_T133 l0_1 x29_2).f3))).heap[gb383]? = some (.cells #[.slice A0_0 l0_0.length c0_0, .slice (some ad389) l0_1.length c0_1, .slice A0_2 l0_2.length c0_2] 26 (0, 0))) := ⟨bkp⟩
          have n2_ : Aside0 (((((w22.setCell ⟨gb390, 0, none⟩ (.int .i64 ((rd_T133 l0_1 x29_2).f0))).setCell ⟨gb390, 1, none⟩ (.int .i64 ((rd_T133 l0_1 x29_2).f1))).setCell ⟨gb390, 2, none⟩ (.int .i64 ((rd_T133 l0_1 x29_2).f2))).setCell ⟨gb390, 3, none⟩ (.int .i64 ((rd_T133 l0_1 x29_2).f3))).heap[gb390]? = some (.cells #[.int .i64 ((rd_T133 l0_1 x29_2).f0), .int .i64 ((rd_T133 l0_1 x29_2).f1), .int .i64 ((rd_T133 l0_1 x29_2).f2), .int .i64 ((rd_T133 l0_1 x29_2).f3)] 133 (0, 0))) := ⟨bkp⟩
          have n3_ : Aside0 (Below w.heap.size w ((((w22.setCell ⟨gb390, 0, none⟩ (.int .i64 ((rd_T133 l0_1 x29_2).f0))).setCell ⟨gb390, 1, none⟩ (.int .i64 ((rd_T133 l0_1 x29_2).f1))).setCell ⟨gb390, 2, none⟩ (.int .i64 ((rd_T133 l0_1 x29_2).f2))).setCell ⟨gb390, 3, none⟩ (.int .i64 ((rd_T133 l0_1 x29_2).f3)))) := ⟨by repeat (first | (with_reducible first | exact HB.out | apply below_alloc | apply pw_below_drewN | apply below_drew1 | refine below_set ?_ GE383.out | refine below_set ?_ GE390.out) | exact HB.out)⟩
          (try clear HO_3);(try clear BK383);(try clear BK390);(try clear HB)
          generalize ((((w22.setCell ⟨gb390, 0, none⟩ (.int .i64 ((rd_T133 l0_1 x29_2).f0))).setCell ⟨gb390, 1, none⟩ (.int .i64 ((rd_T133 l0_1 x29_2).f1))).setCell ⟨gb390, 2, none⟩ (.int .i64 ((rd_T133 l0_1 x29_2).f2))).setCell ⟨gb390, 3, none⟩ (.int .i64 ((rd_T133 l0_1 x29_2).f3))) = w25 at n0_ n1_ n2_ n3_ ⊢
          have HO_3 := n0_;have BK383 := n1_;have BK390 := n2_;have HB := n3_;clear n0_ n1_ n2_ n3_;replace HO_3 := Aside0.mk (Kd.R_drew HO_3.out);replace BK383 := Aside0.mk (blk_drew BK383.out);replace BK390 := Aside0.mk (blk_drew BK390.out);replace HB := Aside0.mk (below_drew1 HB.out)
          refine start_ (n := 18) (S := fun w' => w'.cell? ⟨gb390, 0, none⟩ = some (.int .i64 ((rd_T133 l0_1 x29_2).f0)) ∧ w'.cell? ⟨gb390, 1, none⟩ = some (.int .i64 ((rd_T133 l0_1 x29_2).f1)) ∧ w'.cell? ⟨gb390, 2, none⟩ = some (.int .i64 ((rd_T133 l0_1 x29_2).f2)) ∧ w'.cell? ⟨gb390, 3, none⟩ = some (.int .i64 ((rd_T133 l0_1 x29_2).f3))) (ds := []) #[F,F,F,F,F,F,F,F,F,F,F,F,F,F,F,F,F,F] (by kernel_rfl) rfl rfl ⟨(blk_cell BK390.out 0).trans rfl, (blk_cell BK390.out 1).trans rfl, (blk_cell BK390.out 2).trans rfl, (blk_cell BK390.out 3).trans rfl⟩ (fun hHeld => ?_); refine with_tabW script_PrintTopo.tab10 script_PrintTopo.bits10 (fun HT_ HW_ => ?_)
          generalize w25.drew = w26 at HO_3 BK383 BK390 HB hHeld ⊢
          refine pu 0 (some 33) #[T,F,F,F,F,F,F,F,F,F,F,F,F,F,F,F,F,F] (any_of HT_.out (by kernel_rfl)) ?_
          refine pu 1 (some 34) #[T,T,F,F,F,F,F,F,F,F,F,F,F,F,F,F,F,F] (any_of HT_.out (by kernel_rfl)) ?_
          refine pu 4 (some 37) #[T,T,F,F,T,F,F,F,F,F,F,F,F,F,F,F,F,F] (any_of HT_.out (by kernel_rfl)) ?_
          refine pu 7 (some 40) #[T,T,F,F,T,F,F,T,F,F,F,F,F,F,F,F,F,F] (any_of HT_.out (by kernel_rfl)) ?_
          refine pu 10 (some 43) #[T,T,F,F,T,F,F,T,F,F,T,F,F,F,F,F,F,F] (any_of HT_.out (by kernel_rfl)) ?_
          refine take_ (i := 2) (N := some 35) (v := ?_) (a' := ?_) #[T,T,T,F,T,F,F,T,F,F,T,F,F,F,F,F,F,F] rfl rfl (take_ofW HT_.out HW_.out (by kernel_rfl)) (fun _ _ _ h => h) (Or.inl ⟨by rfl, ?_⟩) hHeld ?_ ?_
          rotate_left
          ·rintro w' ⟨s0, s1, s2, s3⟩
           go_simp;with_reducible rfl
          rotate_left;·simp only [Act.put, setIfInBounds_toArray, set_cons_zero, set_cons_succ, i64_w, i32_w];rfl
          refine take_ (i := 5) (N := some 38) (v := ?_) (a' := ?_) #[T,T,T,F,T,T,F,T,F,F,T,F,F,F,F,F,F,F] rfl rfl (take_ofW HT_.out HW_.out (by kernel_rfl)) (fun _ _ _ h => h) (Or.inl ⟨by rfl, ?_⟩) hHeld ?_ ?_
          rotate_left
          ·rintro w' ⟨s0, s1, s2, s3⟩
           go_simp;with_reducible rfl
          rotate_left;·simp only [Act.put, setIfInBounds_toArray, set_cons_zero, set_cons_succ, i64_w, i32_w];rfl
          refine take_ (i := 8) (N := some 41) (v := ?_) (a' := ?_) #[T,T,T,F,T,T,F,T,T,F,T,F,F,F,F,F,F,F] rfl rfl (take_ofW HT_.out HW_.out (by kernel_rfl)) (fun _ _ _ h => h) (Or.inl ⟨by rfl, ?_⟩) hHeld ?_ ?_
          rotate_left
          ·rintro w' ⟨s0, s1, s2, s3⟩
           go_simp;with_reducible rfl
          rotate_left;·simp only [Act.put, setIfInBounds_toArray, set_cons_zero, set_cons_succ, i64_w, i32_w];rfl
          refine take_ (i := 11) (N := some 44) (v := ?_) (a' := ?_) #[T,T,T,F,T,T,F,T,T,F,T,T,F,F,F,F,F,F] rfl rfl (take_ofW HT_.out HW_.out (by kernel_rfl)) (fun _ _ _ h => h) (Or.inl ⟨by rfl, ?_⟩) hHeld ?_ ?_
          rotate_left
          ·rintro w' ⟨s0, s1, s2, s3⟩
           go_simp;with_reducible rfl
          rotate_left;·simp only [Act.put, setIfInBounds_toArray, set_cons_zero, set_cons_succ, i64_w, i32_w];rfl
          refine one_ (i := 3) (N := some 36) #[T,T,T,T,T,T,F,T,T,F,T,T,F,F,F,F,F,F] rfl rfl (one_of HT_.out (by kernel_rfl)) (by decide) (fun K hK => ?_)
          refine goes_ Tryd.func76 (by kernel_rfl) rfl #[.int .i64 ((rd_T133 l0_1 x29_2).f0)] (by rfl) rfl rfl aok ?_
          with_reducible refine (strconv_Itoa_76.calls ((rd_T133 l0_1 x29_2).f0) t391 _ (Hand.Good.below false true hGG.out (bel HB) rfl rfl) A16.out).mono ?_
          rintro e w27 ⟨rfl, hb⟩;refine ⟨_, rfl, ?_⟩
          replace HO_3 := Aside0.mk (Kd.R_below (rp HO_3) hb)
          replace BK383 := Aside0.mk (bb BK383.out hb);replace BK390 := Aside0.mk (bb BK390.out hb)
          replace HB := Aside0.mk (below_step (bel HB) hb)
          (try clear hb);(try clear hb2);(try clear hk);(try clear hi)
          refine hK.out _ _ ⟨(blk_cell BK390.out 0).trans rfl, (blk_cell BK390.out 1).trans rfl, (blk_cell BK390.out 2).trans rfl, (blk_cell BK390.out 3).trans rfl⟩ (fun hHeld => ?_)
          clear hK K
          refine nput ?_
          refine one_ (i := 6) (N := some 39) #[T,T,T,T,T,T,T,T,T,F,T,T,F,F,F,F,F,F] rfl rfl (one_of HT_.out (by kernel_rfl)) (by decide) (fun K hK => ?_)
          refine goes_ Tryd.func76 (by kernel_rfl) rfl #[.int .i64 ((rd_T133 l0_1 x29_2).f1)] (by rfl) rfl rfl aok ?_
          with_reducible refine (strconv_Itoa_76.calls ((rd_T133 l0_1 x29_2).f1) t392 _ (Hand.Good.below false true hGG.out (bel HB) rfl rfl) A17.out).mono ?_
          rintro e w28 ⟨rfl, hb⟩;refine ⟨_, rfl, ?_⟩
          replace HO_3 := Aside0.mk (Kd.R_below (rp HO_3) hb)
          replace BK383 := Aside0.mk (bb BK383.out hb);replace BK390 := Aside0.mk (bb BK390.out hb)
          replace HB := Aside0.mk (below_step (bel HB) hb)
          (try clear hb);(try clear hb2);(try clear hk);(try clear hi)
          refine hK.out _ _ ⟨(blk_cell BK390.out 0).trans rfl, (blk_cell BK390.out 1).trans rfl, (blk_cell BK390.out 2).trans rfl, (blk_cell BK390.out 3).trans rfl⟩ (fun hHeld => ?_)
          clear hK K
          refine nput ?_
          refine one_ (i := 9) (N := some 42) #[T,T,T,T,T,T,T,T,T,T,T,T,F,F,F,F,F,F] rfl rfl (one_of HT_.out (by kernel_rfl)) (by decide) (fun K hK => ?_)
          refine goes_ Tryd.func76 (by kernel_rfl) rfl #[.int .i64 ((rd_T133 l0_1 x29_2).f2)] (by rfl) rfl rfl aok ?_
          with_reducible refine (strconv_Itoa_76.calls ((rd_T133 l0_1 x29_2).f2) t393 _ (Hand.Good.below false true hGG.out (bel HB) rfl rfl) A18.out).mono ?_
          rintro e w29 ⟨rfl, hb⟩;refine ⟨_, rfl, ?_⟩
          replace HO_3 := Aside0.mk (Kd.R_below (rp HO_3) hb)
          replace BK383 := Aside0.mk (bb BK383.out hb);replace BK390 := Aside0.mk (bb BK390.out hb)
          replace HB := Aside0.mk (below_step (bel HB) hb)
          (try clear hb);(try clear hb2);(try clear hk);(try clear hi)
          refine hK.out _ _ ⟨(blk_cell BK390.out 0).trans rfl, (blk_cell BK390.out 1).trans rfl, (blk_cell BK390.out 2).trans rfl, (blk_cell BK390.out 3).trans rfl⟩ (fun hHeld => ?_)
          clear hK K
          refine nput ?_
          refine one_ (i := 12) (N := some 45) #[T,T,T,T,T,T,T,T,T,T,T,T,T,F,F,F,F,F] rfl rfl (one_of HT_.out (by kernel_rfl)) (by decide) (fun K hK => ?_)
          refine goes_ Tryd.func76 (by kernel_rfl) rfl #[.int .i64 ((rd_T133 l0_1 x29_2).f3)] (by rfl) rfl rfl aok ?_
          with_reducible refine (strconv_Itoa_76.calls ((rd_T133 l0_1 x29_2).f3) t394 _ (Hand.Good.below false true hGG.out (bel HB) rfl rfl) A19.out).mono ?_
          rintro e w30 ⟨rfl, hb⟩;refine ⟨_, rfl, ?_⟩
          replace HO_3 := Aside0.mk (Kd.R_below (rp HO_3) hb)
          replace BK383 := Aside0.mk (bb BK383.out hb);replace BK390 := Aside0.mk (bb BK390.out hb)
          replace HB := Aside0.mk (below_step (bel HB) hb)
          (try clear hb);(try clear hb2);(try clear hk);(try clear hi)
          refine hK.out _ _ ⟨(blk_cell BK390.out 0).trans rfl, (blk_cell BK390.out 1).trans rfl, (blk_cell BK390.out 2).trans rfl, (blk_cell BK390.out 3).trans rfl⟩ (fun hHeld => ?_)
          clear hK K
          refine nput ?_
          refine one_ (i := 13) (N := some 46) #[T,T,T,T,T,T,T,T,T,T,T,T,T,T,F,F,F,F] rfl rfl (one_of HT_.out (by kernel_rfl)) (by decide) (fun K hK => ?_)
          refine Kd.R_lit_step Kd.string _ 9 ?hg (N := 46) ?hd (xs := ([(⟨#[108, 105, 110, 107]⟩ : ByteArray), t391, t392, t393, t394] : List ByteArray)) (inner := [.string (⟨#[108, 105, 110, 107]⟩ : ByteArray), .string t391, .string t392, .string t393, .string t394]) (ok := fun _ => True) (okp := fun _ => True) ?hr ?hp (fun _ hk => hk) trivial (Below.refl _ _) (Nat.le_refl _) (by simp) ?_; (case hd => rfl); (case hg => rfl); (case hr => first | (go_simp; done) | (go_simp; rfl)); (case hp => exact (Reps.one (show Kd.M Kd.string _ _ _ (⟨#[108, 105, 110, 107]⟩ : ByteArray) [.string (⟨#[108, 105, 110, 107]⟩ : ByteArray)] from rfl) (Reps.one (show Kd.M Kd.string _ _ _ t391 [.string t391] from rfl) (Reps.one (show Kd.M Kd.string _ _ _ t392 [.string t392] from rfl) (Reps.one (show Kd.M Kd.string _ _ _ t393 [.string t393] from rfl) (Reps.one (show Kd.M Kd.string _ _ _ t394 [.string t394] from rfl) (Reps.none _ _)))))))
          intro v396 w31 ho32 hb hg_ hnew_
          clear hg_ hnew_;(first | rw [← Ny395.out] at ho32 | (simp only [Int.reduceToNat] at ho32; rw [← Ny395.out] at ho32))
          have HO397 := Aside0.mk (Kd.R_lower (Kd.R_new' ho32 (Kd.R_lt (rp HO_3))) (below_size (bel HB)))
          replace HO_3 := Aside0.mk (Kd.R_elder' (rp HO_3) (Kd.R_base ho32) hb)
          replace BK383 := Aside0.mk (bb BK383.out hb);replace BK390 := Aside0.mk (bb BK390.out hb)
          replace HB := Aside0.mk (below_step (bel HB) hb)
          clear hb ho32;obtain ⟨Ao33, co33, eo33⟩ := Kd.R_slice HO397.out;(first | subst eo33 | (injection eo33 with f1_ f2_ f3_; have f4_ := f1_.symm; have f5_ := f3_.symm; clear f1_ f2_ f3_; subst f4_; subst f5_))
          refine hK.out _ _ ⟨(blk_cell BK390.out 0).trans rfl, (blk_cell BK390.out 1).trans rfl, (blk_cell BK390.out 2).trans rfl, (blk_cell BK390.out 3).trans rfl⟩ (fun hHeld => ?_)
          clear hK K
          refine nput ?_
          refine one_ (i := 14) (N := some 47) #[T,T,T,T,T,T,T,T,T,T,T,T,T,T,T,F,F,F] rfl rfl (one_of HT_.out (by kernel_rfl)) (by decide) (fun K hK => ?_)
          refine goes_ Tryd.func77 (by kernel_rfl) rfl #[.slice Ao33 y395.length co33, .string (⟨#[32]⟩ : ByteArray)] (by rfl) rfl rfl aok ?_
          with_reducible refine (strings_Join.calls _ _ y395 (⟨#[32]⟩ : ByteArray) t398 _ ?side1 ?side2 A20.out).mono ?_
          (case side1 => repeat (first | exact (Kd.R_reads' HO397.out).2.2 | (with_reducible refine Kd.C_alloc ?_ _) | (with_reducible refine Kd.C_drewN ?_ _) | (with_reducible refine Kd.C_drew ?_)))
          (case side2 => exact (Kd.R_reads' HO397.out).2.1)
          rintro e w34 ⟨rfl, hb⟩;refine ⟨_, rfl, ?_⟩
          replace HO_3 := Aside0.mk (Kd.R_below (rp HO_3) hb)
          replace HO397 := Aside0.mk (Kd.R_below (rp HO397) hb)
          replace BK383 := Aside0.mk (bb BK383.out hb);replace BK390 := Aside0.mk (bb BK390.out hb)
          replace HB := Aside0.mk (below_step (bel HB) hb)
          (try clear hb);(try clear hb2);(try clear hk);(try clear hi)
          refine hK.out _ _ ⟨(blk_cell BK390.out 0).trans rfl, (blk_cell BK390.out 1).trans rfl, (blk_cell BK390.out 2).trans rfl, (blk_cell BK390.out 3).trans rfl⟩ (fun hHeld => ?_)
          clear hK K
          refine nput ?_
          refine one_ (i := 15) (N := some 48) #[T,T,T,T,T,T,T,T,T,T,T,T,T,T,T,T,F,F] rfl rfl (one_of HT_.out (by kernel_rfl)) (by decide) (fun K hK => ?_)
          refine value_ (w1 := ?_) (v := ?_) (by rfl) rfl ?_ ?_
          rotate_left 2
          ·go_simp
           constructor
           ·rfl
           ·rfl
          refine hK.out _ _ ⟨(blk_cell (blk_alloc BK390.out _) 0).trans rfl, (blk_cell (blk_alloc BK390.out _) 1).trans rfl, (blk_cell (blk_alloc BK390.out _) 2).trans rfl, (blk_cell (blk_alloc BK390.out _) 3).trans rfl⟩ (fun hHeld => ?_)
          clear hK K
          refine nput ?_
          refine one_ (i := 16) (N := some 49) #[T,T,T,T,T,T,T,T,T,T,T,T,T,T,T,T,T,F] rfl rfl (one_of HT_.out (by kernel_rfl)) (by decide) (fun K hK => ?_)
          refine Kd.R_append_step Kd.string (w0 := w) w.heap.size (by rfl) (.tmp 33) (.tmp 48) 30 9 (.string ⟨#[]⟩) 16 rfl Tryd.underlying30 info9 rfl (by decide) (by omega) u3 x3_2 t398 [.string t398] (fun k_ => some k_ ≠ (.slice Ao33 y395.length co33 : Value).ownBlock) (fun _ => False) rfl rfl ?aP (fun _ hk => hk.elim) ?aF ?aO ?aB ?aS ?aL ?_
          (case aP => exact rfl)
          (case aB => exact (bel HB))
          (case aF => exact (fun k_ hk => Kd.fresh' (Kd.R_lt (rp HO397)) k_ hk))
          (case aO => exact (by (with_reducible repeat (first | apply Kd.R_alloc | apply Kd.R_drewN | apply Kd.R_drew)); exact Kd.R_mono HO_3.out (fun _ hk => hk.2)))
          (case aS => exact (below_size (bel HB)))
          (case aL => have := LMc21.out; omega)
          intro v400 w35 ho hb hg hat
          rw [← Ny399.out] at ho;have HO401 := Aside0.mk (ho)
          replace BK383 := Aside0.mk (blk_grown (g := gb383) (o := .cells #[.slice A0_0 l0_0.length c0_0, .slice (some ad389) l0_1.length c0_1, .slice A0_2 l0_2.length c0_2] 26 (0, 0)) bkp hg (Kd.R_ne HO_3.out BK383.out (by decide)))
          replace BK390 := Aside0.mk (blk_grown (g := gb390) (o := .cells #[.int .i64 ((rd_T133 l0_1 x29_2).f0), .int .i64 ((rd_T133 l0_1 x29_2).f1), .int .i64 ((rd_T133 l0_1 x29_2).f2), .int .i64 ((rd_T133 l0_1 x29_2).f3)] 133 (0, 0)) bkp hg (Kd.R_ne HO_3.out BK390.out (by decide)))
          replace HO397 := Aside0.mk (Kd.R_after (ok := (fun _ => True)) (rp HO397) hg hat)
          replace HB := Aside0.mk (hb);clear HO_3;clear ho hb hg hat
          refine hK.out _ _ ⟨(blk_cell BK390.out 0).trans rfl, (blk_cell BK390.out 1).trans rfl, (blk_cell BK390.out 2).trans rfl, (blk_cell BK390.out 3).trans rfl⟩ (fun hHeld => ?_)
          clear hK K
          refine nput ?_
          refine pu 17 (some 3) #[T,T,T,T,T,T,T,T,T,T,T,T,T,T,T,T,T,T] (any_of HT_.out (by kernel_rfl)) ?_
          refine done_ (done_of HT_.out (by kernel_rfl)) ?_
          try go_wp2
          go_roundg k2
          case measure => have := HK1.out; have := HK2.out; omega
          case rel => exact ⟨(y399), (wrap64 (x29_2 + 1)), (by first | rfl | (simp; done) | (simp [*]; done)), H', ⟨by have := HK1.out; have := HK2.out; omega⟩, ⟨by (with_reducible repeat (first | apply Kd.R_alloc | apply Kd.R_drewN | apply Kd.R_drew)); exact Kd.R_mono HO401.out (fun _ hk => trivial)⟩, ⟨bkp⟩, ⟨by repeat (first | (with_reducible first | exact HB.out | apply below_alloc | apply pw_below_drewN | apply below_drew1 | refine below_set ?_ GE383.out | refine below_set ?_ GE390.out) | exact HB.out)⟩⟩
         ·rw [if_neg c21] at H
          exact absurd H (by simp)
        ·rw [if_neg c15] at H
         exact absurd H (by simp)
       ·rw [if_neg c14] at H
        exact absurd H (by simp)
      ·rw [if_neg c13] at H
       have c13b0 : decide (x29_2 < (l0_1.length : Int)) = false := decide_eq_false c13;clear c13;have H' := Aside0.mk H;clear H;have hcz36 := cz3 BK383.out;go_wp2
       go_loopg [3, 54] k2 (fun kq v3 v54 w' => ∃ (x3_3 : List ByteArray) (x54_3 : Int), v54 = .int .i64 x54_3 ∧ Aside0 (script_PrintTopo.l2 kq x3_3 l0_2 (l0_2.length : Int) x54_3 = some r) ∧ Aside0 (kq ≤ k2) ∧ Aside0 (Kd.R Kd.string 9 w' w.heap.size (fun _ => True) v3 x3_3) ∧ Aside0 (w'.heap[gb383]? = some (.cells #[(.slice A0_0 l0_0.length c0_0), (.slice A0_1 l0_1.length c0_1), (.slice A0_2 l0_2.length c0_2)] 26 (0, 0))) ∧ Aside0 (Below w.heap.size w w'))
       case atStart => exact ⟨(x3_2), (0), (by first | rfl | (simp; done) | (simp [*]; done)), H', ⟨Nat.le_refl _⟩, ⟨rp HO_3⟩, ⟨bkp⟩, ⟨by repeat (first | (with_reducible first | exact HB.out | apply below_alloc | apply pw_below_drewN | apply below_drew1 | refine below_set ?_ GE383.out) | exact HB.out)⟩⟩
       case round =>
        clear H'
        try clear c1
        try clear c2
        try clear p2
        try clear p3
        try clear q3
        try clear hx3
        try clear c4
        try clear c4b0
        try clear c5
        try clear c5b0
        try clear c6
        try clear c6b0
        try clear p6
        try clear c7
        try clear c8
        try clear c8b0
        try clear c8b1
        try clear c8b2
        try clear c9
        try clear c13
        try clear c13b0
        try clear c14
        try clear c14b0
        try clear c15
        try clear c15b0
        try clear c21
        try clear c22
        try clear c23
        try clear hcz12
        try clear hcz24
        try clear hcz36
        try clear hcz3
        try clear hx384_0
        try clear hx389_0
        try clear hx389_1
        try clear hx389_2
        try clear hx389_3
        try clear p2
        try clear p3
        try clear p384
        try clear p389
        try clear p6
        try clear q3
        try clear q384
        try clear q389
        obtain ⟨x3_3, x54_3, rfl, HA, HK3, HO_3, BK383, HB⟩ := hrel
        cases gk with
        | zero => exact absurd HA.out (by simp [script_PrintTopo.l2])
        | succ k3 =>
         have H := HA.out;clear HA;simp only [script_PrintTopo.l2] at H
         by_cases c37 : x54_3 < (l0_2.length : Int)
         ·rw [if_pos c37] at H
          have c37b0 : decide (x54_3 < (l0_2.length : Int)) = true := decide_eq_true c37;clear c37
          by_cases c38 : 0 ≤ x54_3
          ·rw [if_pos c38] at H
           have c38b0 : decide (0 ≤ x54_3) = true := decide_eq_true c38;clear c38
           by_cases c39 : x54_3 < (l0_2.length : Int)
           ·rw [if_pos c39] at H
            have c39b0 : decide (x54_3 < (l0_2.length : Int)) = true := decide_eq_true c39;clear c39;have HC40 := Aside0.mk H;clear H
            have p402 : 0 ≤ (x54_3 : Int) := of_decide_eq_true (by first | (with_reducible assumption) | assumption)
            have q402 : x54_3 < (l0_2.length : Int) := of_decide_eq_true (by first | (with_reducible assumption) | assumption)
            obtain ⟨ad402, e402, hx402_0, hx402_1, hx402_2, hx402_3, hx402_4, hx402_5, hx402_6, hx402_7, hx402_8, hx402_9, hx402_10, hx402_11, hx402_12⟩ := at_T130 HR0_2.out x54_3 p402 q402
            cases e402
            replace hx402_0 := mv HB hx402_0;replace hx402_1 := mv HB hx402_1;replace hx402_2 := mv HB hx402_2;replace hx402_3 := mv HB hx402_3;replace hx402_4 := mv HB hx402_4;replace hx402_5 := mv HB hx402_5;replace hx402_6 := mv HB hx402_6;replace hx402_7 := mv HB hx402_7;replace hx402_8 := mv HB hx402_8;replace hx402_9 := mv HB hx402_9;replace hx402_10 := mv HB hx402_10;replace hx402_11 := mv HB hx402_11;replace hx402_12 := mv HB hx402_12;replace p402 := eq_true p402;replace q402 := eq_true q402
            go_upto_if 59 with (first | ((with_reducible refine gate_dst (N := 9) rfl ?_); refine box_event rfl (N := 9) rfl (cs := #[.int .i64 0, .int .i64 0, .bool false, .bool false, .int .u32 0, .int .i64 0, .int .u32 0, .int .i64 0, .int .i64 0, .int .u16 0, .int .u16 0, .int .u16 0, .int .u16 0]) (t := 130) gs ?_; intro gb403 hg w41 hbox hb; have n0_ := Aside0.mk (Kd.R_below (rp HO_3) hb); have n1_ := Aside0.mk (bb BK383.out hb); have n2_ := Aside0.mk (below_step (bel HB) hb); have n3_ := Aside0.mk (hbox); have n4_ := gew HB hg; have n5_ := gew HB hg; have n6_ := Aside0.mk ((ne1 BK383.out hg : gb383 ≠ gb403)); have n7_ := Aside0.mk ((ne2 BK383.out hg : gb403 ≠ gb383)); clear HO_3; clear BK383; clear HB; have HO_3 := n0_; have BK383 := n1_; have HB := n2_; have BK403 := n3_; have GW403 := n4_; have GE403 := n5_; have NB383_403 := n6_; have NB403_383 := n7_; clear n0_ n1_ n2_ n3_ n4_ n5_ n6_ n7_; clear hb hbox hg; have hnb42 := NB403_383.out; have hnc42 := NB383_403.out; have hcz43 := cz13 BK403.out))
            (try simp only [Act.put, setIfInBounds_toArray, set_cons_zero, set_cons_succ])
            go_cut [10] (fun v10 wc => ∃ (kq : Nat) (x10_39 : ByteArray), v10 = .string x10_39 ∧ Aside0 (script_PrintTopo.j3 kq x3_3 x10_39 (⟨#[100, 101, 110, 121]⟩ : ByteArray) l0_2 (l0_2.length : Int) x54_3 ((rd_T130 l0_2 x54_3).f0) ((rd_T130 l0_2 x54_3).f1) ((rd_T130 l0_2 x54_3).f2) ((rd_T130 l0_2 x54_3).f3) ((rd_T130 l0_2 x54_3).f4.f0.f0) ((rd_T130 l0_2 x54_3).f4.f0.f1) ((rd_T130 l0_2 x54_3).f4.f1.f0) ((rd_T130 l0_2 x54_3).f4.f1.f1) ((rd_T130 l0_2 x54_3).f4.f2) ((rd_T130 l0_2 x54_3).f4.f3.f0) ((rd_T130 l0_2 x54_3).f4.f3.f1) ((rd_T130 l0_2 x54_3).f4.f4.f0) ((rd_T130 l0_2 x54_3).f4.f4.f1) = some r) ∧ Aside0 (kq ≤ k3) ∧ Aside0 (Kd.R Kd.string 9 wc w.heap.size (fun _ => True) u3 x3_3) ∧ Aside0 (wc.heap[gb383]? = some (.cells #[(.slice A0_0 l0_0.length c0_0), (.slice A0_1 l0_1.length c0_1), (.slice (some ad402) l0_2.length c0_2)] 26 (0, 0))) ∧ Aside0 (wc.heap[gb403]? = some (.cells #[.int .i64 ((rd_T130 l0_2 x54_3).f0), .int .i64 ((rd_T130 l0_2 x54_3).f1), .bool ((rd_T130 l0_2 x54_3).f2), .bool ((rd_T130 l0_2 x54_3).f3), .int .u32 ((rd_T130 l0_2 x54_3).f4.f0.f0), .int .i64 ((rd_T130 l0_2 x54_3).f4.f0.f1), .int .u32 ((rd_T130 l0_2 x54_3).f4.f1.f0), .int .i64 ((rd_T130 l0_2 x54_3).f4.f1.f1), .int .i64 ((rd_T130 l0_2 x54_3).f4.f2), .int .u16 ((rd_T130 l0_2 x54_3).f4.f3.f0), .int .u16 ((rd_T130 l0_2 x54_3).f4.f3.f1), .int .u16 ((rd_T130 l0_2 x54_3).f4.f4.f0), .int .u16 ((rd_T130 l0_2 x54_3).f4.f4.f1)] 130 (0, 0))) ∧ Aside0 (Below w.heap.size w wc))
            case first =>
             have H := HC40.out;clear HC40;obtain ⟨bq44, hbq44⟩ : ∃ b_ : Bool, b_ = ((rd_T130 l0_2 x54_3).f2) := ⟨_, rfl⟩
             replace H : (if bq44 = true then (script_PrintTopo.j3 k3 x3_3 (⟨#[105, 110]⟩ : ByteArray) (⟨#[100, 101, 110, 121]⟩ : ByteArray) l0_2 (l0_2.length : Int) x54_3 ((rd_T130 l0_2 x54_3).f0) ((rd_T130 l0_2 x54_3).f1) bq44 ((rd_T130 l0_2 x54_3).f3) ((rd_T130 l0_2 x54_3).f4.f0.f0) ((rd_T130 l0_2 x54_3).f4.f0.f1) ((rd_T130 l0_2 x54_3).f4.f1.f0) ((rd_T130 l0_2 x54_3).f4.f1.f1) ((rd_T130 l0_2 x54_3).f4.f2) ((rd_T130 l0_2 x54_3).f4.f3.f0) ((rd_T130 l0_2 x54_3).f4.f3.f1) ((rd_T130 l0_2 x54_3).f4.f4.f0) ((rd_T130 l0_2 x54_3).f4.f4.f1)) else (script_PrintTopo.j3 k3 x3_3 (⟨#[111, 117, 116]⟩ : ByteArray) (⟨#[100, 101, 110, 121]⟩ : ByteArray) l0_2 (l0_2.length : Int) x54_3 ((rd_T130 l0_2 x54_3).f0) ((rd_T130 l0_2 x54_3).f1) bq44 ((rd_T130 l0_2 x54_3).f3) ((rd_T130 l0_2 x54_3).f4.f0.f0) ((rd_T130 l0_2 x54_3).f4.f0.f1) ((rd_T130 l0_2 x54_3).f4.f1.f0) ((rd_T130 l0_2 x54_3).f4.f1.f1) ((rd_T130 l0_2 x54_3).f4.f2) ((rd_T130 l0_2 x54_3).f4.f3.f0) ((rd_T130 l0_2 x54_3).f4.f3.f1) ((rd_T130 l0_2 x54_3).f4.f4.f0) ((rd_T130 l0_2 x54_3).f4.f4.f1))) = some r := by rw [← hbq44] at H; exact H
             have Nbq44 := Aside0.mk hbq44;clear hbq44;(try rw [← Nbq44.out])
             by_cases c45 : bq44 = true
             ·subst c45
              have H1 : (script_PrintTopo.j3 k3 x3_3 (⟨#[105, 110]⟩ : ByteArray) (⟨#[100, 101, 110, 121]⟩ : ByteArray) l0_2 (l0_2.length : Int) x54_3 ((rd_T130 l0_2 x54_3).f0) ((rd_T130 l0_2 x54_3).f1) true ((rd_T130 l0_2 x54_3).f3) ((rd_T130 l0_2 x54_3).f4.f0.f0) ((rd_T130 l0_2 x54_3).f4.f0.f1) ((rd_T130 l0_2 x54_3).f4.f1.f0) ((rd_T130 l0_2 x54_3).f4.f1.f1) ((rd_T130 l0_2 x54_3).f4.f2) ((rd_T130 l0_2 x54_3).f4.f3.f0) ((rd_T130 l0_2 x54_3).f4.f3.f1) ((rd_T130 l0_2 x54_3).f4.f4.f0) ((rd_T130 l0_2 x54_3).f4.f4.f1)) = some r := by rw [if_pos rfl] at H; exact H
              clear H;have H := H1;clear H1;have H' := Aside0.mk H;clear H;go_wp2;go_meet
              case rel => (try rw [← Nbq44.out]); exact ⟨_, ((⟨#[105, 110]⟩ : ByteArray)), (by first | rfl | (simp; done) | (simp [*]; done)), H', ⟨by have := HK1.out; have := HK2.out; have := HK3.out; first | omega | exact Nat.le_refl _⟩, ⟨by (with_reducible repeat (first | apply Kd.R_alloc | apply Kd.R_drewN | apply Kd.R_drew)); exact Kd.R_mono (Kd.R_far (p := ⟨gb403, 12, none⟩) (Kd.R_far (p := ⟨gb403, 11, none⟩) (Kd.R_far (p := ⟨gb403, 10, none⟩) (Kd.R_far (p := ⟨gb403, 9, none⟩) (Kd.R_far (p := ⟨gb403, 8, none⟩) (Kd.R_far (p := ⟨gb403, 7, none⟩) (Kd.R_far (p := ⟨gb403, 6, none⟩) (Kd.R_far (p := ⟨gb403, 5, none⟩) (Kd.R_far (p := ⟨gb403, 4, none⟩) (Kd.R_far (p := ⟨gb403, 3, none⟩) (Kd.R_far (p := ⟨gb403, 2, none⟩) (Kd.R_far (p := ⟨gb403, 1, none⟩) (Kd.R_far (p := ⟨gb403, 0, none⟩) (Kd.R_types HO_3.out BK403.out (by decide)) (fun _ hk => hk.2) (.int .i64 ((rd_T130 l0_2 x54_3).f0))) (fun _ hk => hk.2) (.int .i64 ((rd_T130 l0_2 x54_3).f1))) (fun _ hk => hk.2) (.bool (true))) (fun _ hk => hk.2) (.bool ((rd_T130 l0_2 x54_3).f3))) (fun _ hk => hk.2) (.int .u32 ((rd_T130 l0_2 x54_3).f4.f0.f0))) (fun _ hk => hk.2) (.int .i64 ((rd_T130 l0_2 x54_3).f4.f0.f1))) (fun _ hk => hk.2) (.int .u32 ((rd_T130 l0_2 x54_3).f4.f1.f0))) (fun _ hk => hk.2) (.int .i64 ((rd_T130 l0_2 x54_3).f4.f1.f1))) (fun _ hk => hk.2) (.int .i64 ((rd_T130 l0_2 x54_3).f4.f2))) (fun _ hk => hk.2) (.int .u16 ((rd_T130 l0_2 x54_3).f4.f3.f0))) (fun _ hk => hk.2) (.int .u16 ((rd_T130 l0_2 x54_3).f4.f3.f1))) (fun _ hk => hk.2) (.int .u16 ((rd_T130 l0_2 x54_3).f4.f4.f0))) (fun _ hk => hk.2) (.int .u16 ((rd_T130 l0_2 x54_3).f4.f4.f1))) (fun _ hk => trivial)⟩, ⟨bkp⟩, ⟨bkp⟩, ⟨by repeat (first | (with_reducible first | exact HB.out | apply below_alloc | apply pw_below_drewN | apply below_drew1 | refine below_set ?_ GE383.out | refine below_set ?_ GE403.out) | exact HB.out)⟩⟩
             ·replace c45 := Bool.eq_false_iff.mpr c45
              subst c45
              have H1 : (script_PrintTopo.j3 k3 x3_3 (⟨#[111, 117, 116]⟩ : ByteArray) (⟨#[100, 101, 110, 121]⟩ : ByteArray) l0_2 (l0_2.length : Int) x54_3 ((rd_T130 l0_2 x54_3).f0) ((rd_T130 l0_2 x54_3).f1) false ((rd_T130 l0_2 x54_3).f3) ((rd_T130 l0_2 x54_3).f4.f0.f0) ((rd_T130 l0_2 x54_3).f4.f0.f1) ((rd_T130 l0_2 x54_3).f4.f1.f0) ((rd_T130 l0_2 x54_3).f4.f1.f1) ((rd_T130 l0_2 x54_3).f4.f2) ((rd_T130 l0_2 x54_3).f4.f3.f0) ((rd_T130 l0_2 x54_3).f4.f3.f1) ((rd_T130 l0_2 x54_3).f4.f4.f0) ((rd_T130 l0_2 x54_3).f4.f4.f1)) = some r := by rw [if_neg (show ¬ (false = true) by decide)] at H; exact H
              clear H;have H := H1;clear H1;have H' := Aside0.mk H;clear H;go_wp2;go_meet
              case rel => (try rw [← Nbq44.out]); exact ⟨_, ((⟨#[111, 117, 116]⟩ : ByteArray)), (by first | rfl | (simp; done) | (simp [*]; done)), H', ⟨by have := HK1.out; have := HK2.out; have := HK3.out; first | omega | exact Nat.le_refl _⟩, ⟨by (with_reducible repeat (first | apply Kd.R_alloc | apply Kd.R_drewN | apply Kd.R_drew)); exact Kd.R_mono (Kd.R_far (p := ⟨gb403, 12, none⟩) (Kd.R_far (p := ⟨gb403, 11, none⟩) (Kd.R_far (p := ⟨gb403, 10, none⟩) (Kd.R_far (p := ⟨gb403, 9, none⟩) (Kd.R_far (p := ⟨gb403, 8, none⟩) (Kd.R_far (p := ⟨gb403, 7, none⟩) (Kd.R_far (p := ⟨gb403, 6, none⟩) (Kd.R_far (p := ⟨gb403, 5, none⟩) (Kd.R_far (p := ⟨gb403, 4, none⟩) (Kd.R_far (p := ⟨gb403, 3, none⟩) (Kd.R_far (p := ⟨gb403, 2, none⟩) (Kd.R_far (p := ⟨gb403, 1, none⟩) (Kd.R_far (p := ⟨gb403, 0, none⟩) (Kd.R_types HO_3.out BK403.out (by decide)) (fun _ hk => hk.2) (.int .i64 ((rd_T130 l0_2 x54_3).f0))) (fun _ hk => hk.2) (.int .i64 ((rd_T130 l0_2 x54_3).f1))) (fun _ hk => hk.2) (.bool (false))) (fun _ hk => hk.2) (.bool ((rd_T130 l0_2 x54_3).f3))) (fun _ hk => hk.2) (.int .u32 ((rd_T130 l0_2 x54_3).f4.f0.f0))) (fun _ hk => hk.2) (.int .i64 ((rd_T130 l0_2 x54_3).f4.f0.f1))) (fun _ hk => hk.2) (.int .u32 ((rd_T130 l0_2 x54_3).f4.f1.f0))) (fun _ hk => hk.2) (.int .i64 ((rd_T130 l0_2 x54_3).f4.f1.f1))) (fun _ hk => hk.2) (.int .i64 ((rd_T130 l0_2 x54_3).f4.f2))) (fun _ hk => hk.2) (.int .u16 ((rd_T130 l0_2 x54_3).f4.f3.f0))) (fun _ hk => hk.2) (.int .u16 ((rd_T130 l0_2 x54_3).f4.f3.f1))) (fun _ hk => hk.2) (.int .u16 ((rd_T130 l0_2 x54_3).f4.f4.f0))) (fun _ hk => hk.2) (.int .u16 ((rd_T130 l0_2 x54_3).f4.f4.f1))) (fun _ hk => trivial)⟩, ⟨bkp⟩, ⟨bkp⟩, ⟨by repeat (first | (with_reducible first | exact HB.out | apply below_alloc | apply pw_below_drewN | apply below_drew1 | refine below_set ?_ GE383.out | refine below_set ?_ GE403.out) | exact HB.out)⟩⟩
            case rest =>
             clear HC40
             try clear c1
             try clear c2
             try clear p2
             try clear c3
             try clear p3
             try clear q3
             try clear hx3
             try clear c4
             try clear c4b0
             try clear p4
             try clear q4
             try clear hx4
             try clear c5
             try clear c5b0
             try clear c6
             try clear c6b0
             try clear p6
             try clear c7
             try clear c8
             try clear c8b0
             try clear c8b1
             try clear c8b2
             try clear c9
             try clear c13
             try clear c13b0
             try clear c14
             try clear c14b0
             try clear c15
             try clear c15b0
             try clear c21
             try clear c22
             try clear c23
             try clear c37
             try clear c37b0
             try clear c38
             try clear c38b0
             try clear p38
             try clear q38
             try clear hx38
             try clear c39
             try clear c39b0
             try clear p40
             try clear q40
             try clear hx40
             try clear c42
             try clear q44
             try clear c45
             try clear hcz12
             try clear hcz24
             try clear hcz36
             try clear hcz3
             try clear hcz43
             try clear hx384_0
             try clear hx389_0
             try clear hx389_1
             try clear hx389_2
             try clear hx389_3
             try clear hx402_0
             try clear hx402_1
             try clear hx402_10
             try clear hx402_11
             try clear hx402_12
             try clear hx402_2
             try clear hx402_3
             try clear hx402_4
             try clear hx402_5
             try clear hx402_6
             try clear hx402_7
             try clear hx402_8
             try clear hx402_9
             try clear p2
             try clear p3
             try clear p384
             try clear p389
             try clear p402
             try clear p6
             try clear q3
             try clear q384
             try clear q389
             try clear q402
             obtain ⟨kq, x10_39, rfl, HA, HJ39, HO_3, BK383, BK403, HB⟩ := hcut
             cases kq with
             | zero => exact absurd HA.out (by simp [script_PrintTopo.j3])
             | succ kj39 =>
              have H := HA.out;clear HA;simp only [script_PrintTopo.j3] at H;have HC46 := Aside0.mk H;clear H;have hnb47 := NB403_383.out;have hnc47 := NB383_403.out;have hcz48 := cz13 BK403.out;go_upto_if 61 with (fail)
              go_cut [11] (fun v11 wc => ∃ (kq : Nat) (x11_45 : ByteArray), v11 = .string x11_45 ∧ Aside0 (script_PrintTopo.j4 kq x3_3 x10_39 x11_45 l0_2 (l0_2.length : Int) x54_3 ((rd_T130 l0_2 x54_3).f0) ((rd_T130 l0_2 x54_3).f1) ((rd_T130 l0_2 x54_3).f2) ((rd_T130 l0_2 x54_3).f3) ((rd_T130 l0_2 x54_3).f4.f0.f0) ((rd_T130 l0_2 x54_3).f4.f0.f1) ((rd_T130 l0_2 x54_3).f4.f1.f0) ((rd_T130 l0_2 x54_3).f4.f1.f1) ((rd_T130 l0_2 x54_3).f4.f2) ((rd_T130 l0_2 x54_3).f4.f3.f0) ((rd_T130 l0_2 x54_3).f4.f3.f1) ((rd_T130 l0_2 x54_3).f4.f4.f0) ((rd_T130 l0_2 x54_3).f4.f4.f1) = some r) ∧ Aside0 (kq ≤ kj39) ∧ Aside0 (Kd.R Kd.string 9 wc w.heap.size (fun _ => True) u3 x3_3) ∧ Aside0 (wc.heap[gb383]? = some (.cells #[(.slice A0_0 l0_0.length c0_0), (.slice A0_1 l0_1.length c0_1), (.slice (some ad402) l0_2.length c0_2)] 26 (0, 0))) ∧ Aside0 (wc.heap[gb403]? = some (.cells #[.int .i64 ((rd_T130 l0_2 x54_3).f0), .int .i64 ((rd_T130 l0_2 x54_3).f1), .bool ((rd_T130 l0_2 x54_3).f2), .bool ((rd_T130 l0_2 x54_3).f3), .int .u32 ((rd_T130 l0_2 x54_3).f4.f0.f0), .int .i64 ((rd_T130 l0_2 x54_3).f4.f0.f1), .int .u32 ((rd_T130 l0_2 x54_3).f4.f1.f0), .int .i64 ((rd_T130 l0_2 x54_3).f4.f1.f1), .int .i64 ((rd_T130 l0_2 x54_3).f4.f2), .int .u16 ((rd_T130 l0_2 x54_3).f4.f3.f0), .int .u16 ((rd_T130 l0_2 x54_3).f4.f3.f1), .int .u16 ((rd_T130 l0_2 x54_3).f4.f4.f0), .int .u16 ((rd_T130 l0_2 x54_3).f4.f4.f1)] 130 (0, 0))) ∧ Aside0 (Below w.heap.size w wc))
              case first =>
               have H := HC46.out;clear HC46
               by_cases c49 : ((rd_T130 l0_2 x54_3).f3) = true
               ·rw [if_pos c49] at H
                have c49b0 : ((rd_T130 l0_2 x54_3).f3) = true := c49;clear c49;(first | rw [c49b0] | (simp only [i64_w, i32_w]; rw [c49b0]) | skip);have H' := Aside0.mk H;clear H;go_wp2;go_meet
                case rel => (try rw [← Nbq44.out]); exact ⟨_, ((⟨#[112, 101, 114, 109, 105, 116]⟩ : ByteArray)), (by first | rfl | (simp; done) | (simp [*]; done)), H', ⟨by have := HK1.out; have := HK2.out; have := HK3.out; have := HJ39.out; first | omega | exact Nat.le_refl _⟩, ⟨rp HO_3⟩, ⟨bkp⟩, ⟨bkp⟩, ⟨by repeat (first | (with_reducible first | exact HB.out | apply below_alloc | apply pw_below_drewN | apply below_drew1 | refine below_set ?_ GE383.out | refine below_set ?_ GE403.out) | exact HB.out)⟩⟩
               ·rw [if_neg c49] at H
                have c49b0 : ((rd_T130 l0_2 x54_3).f3) = false := by simpa using c49
                clear c49;(first | rw [c49b0] | (simp only [i64_w, i32_w]; rw [c49b0]) | skip);have H' := Aside0.mk H;clear H;go_wp2;go_meet
                case rel => (try rw [← Nbq44.out]); exact ⟨_, ((⟨#[100, 101, 110, 121]⟩ : ByteArray)), (by first | rfl | (simp; done) | (simp [*]; done)), H', ⟨by have := HK1.out; have := HK2.out; have := HK3.out; have := HJ39.out; first | omega | exact Nat.le_refl _⟩, ⟨rp HO_3⟩, ⟨bkp⟩, ⟨bkp⟩, ⟨by repeat (first | (with_reducible first | exact HB.out | apply below_alloc | apply pw_below_drewN | apply below_drew1 | refine below_set ?_ GE383.out | refine below_set ?_ GE403.out) | exact HB.out)⟩⟩
              case rest =>
               clear HC46
               try clear c1
               try clear c2
               try clear p2
               try clear c3
               try clear p3
               try clear q3
               try clear hx3
               try clear c4
               try clear c4b0
               try clear p4
               try clear q4
               try clear hx4
               try clear c5
               try clear c5b0
               try clear c6
               try clear c6b0
               try clear p6
               try clear c7
               try clear c8
               try clear c8b0
               try clear c8b1
               try clear c8b2
               try clear c9
               try clear c13
               try clear c13b0
               try clear c14
               try clear c14b0
               try clear c15
               try clear c15b0
               try clear c21
               try clear c22
               try clear c23
               try clear c37
               try clear c37b0
               try clear c38
               try clear c38b0
               try clear p38
               try clear q38
               try clear hx38
               try clear c39
               try clear c39b0
               try clear p40
               try clear q40
               try clear hx40
               try clear c42
               try clear q44
               try clear c45
               try clear c47
               try clear c49
               try clear c49b0
               try clear hcz12
               try clear hcz24
               try clear hcz36
               try clear hcz3
               try clear hcz43
               try clear hcz48
               try clear hx384_0
               try clear hx389_0
               try clear hx389_1
               try clear hx389_2
               try clear hx389_3
               try clear hx402_0
               try clear hx402_1
               try clear hx402_10
               try clear hx402_11
               try clear hx402_12
               try clear hx402_2
               try clear hx402_3
               try clear hx402_4
               try clear hx402_5
               try clear hx402_6
               try clear hx402_7
               try clear hx402_8
               try clear hx402_9
               try clear p2
               try clear p3
               try clear p38
               try clear p384
               try clear p389
               try clear p4
               try clear p40
               try clear p402
               try clear p6
               try clear q3
               try clear q38
               try clear q384
               try clear q389
               try clear q4
               try clear q40
               try clear q402
               try clear q44
               obtain ⟨kq, x11_45, rfl, HA, HJ45, HO_3, BK383, BK403, HB⟩ := hcut
               cases kq with
               | zero => exact absurd HA.out (by simp [script_PrintTopo.j4])
               | succ kj45 =>
                have H := HA.out;clear HA;simp only [script_PrintTopo.j4] at H;replace H := Option.bind_eq_some_iff.mp H;obtain ⟨t404, A500, H⟩ := H
                replace H : ((strconv_Itoa_76.f ((rd_T130 l0_2 x54_3).f1)).bind fun t405 => ((filter_Print.f kj45 ((rd_T130 l0_2 x54_3).f4.f0.f0) ((rd_T130 l0_2 x54_3).f4.f0.f1) ((rd_T130 l0_2 x54_3).f4.f1.f0) ((rd_T130 l0_2 x54_3).f4.f1.f1) ((rd_T130 l0_2 x54_3).f4.f2) ((rd_T130 l0_2 x54_3).f4.f3.f0) ((rd_T130 l0_2 x54_3).f4.f3.f1) ((rd_T130 l0_2 x54_3).f4.f4.f0) ((rd_T130 l0_2 x54_3).f4.f4.f1)).bind fun t406 => ((strings_Join.f (([(⟨#[97, 99, 108]⟩ : ByteArray), t404, t405, x10_39, x11_45, t406] : List ByteArray)) (⟨#[32]⟩ : ByteArray)).bind fun t410 => (if x3_3.length < 8796093022208 then (script_PrintTopo.l2 kj45 (x3_3 ++ [t410]) l0_2 (l0_2.length : Int) (wrap64 (x54_3 + 1))) else (none))))) = some r := H
                have A50 := Aside0.mk A500;clear A500;replace H := Option.bind_eq_some_iff.mp H;obtain ⟨t405, A510, H⟩ := H
                replace H : ((filter_Print.f kj45 ((rd_T130 l0_2 x54_3).f4.f0.f0) ((rd_T130 l0_2 x54_3).f4.f0.f1) ((rd_T130 l0_2 x54_3).f4.f1.f0) ((rd_T130 l0_2 x54_3).f4.f1.f1) ((rd_T130 l0_2 x54_3).f4.f2) ((rd_T130 l0_2 x54_3).f4.f3.f0) ((rd_T130 l0_2 x54_3).f4.f3.f1) ((rd_T130 l0_2 x54_3).f4.f4.f0) ((rd_T130 l0_2 x54_3).f4.f4.f1)).bind fun t406 => ((strings_Join.f (([(⟨#[97, 99, 108]⟩ : ByteArray), t404, t405, x10_39, x11_45, t406] : List ByteArray)) (⟨#[32]⟩ : ByteArray)).bind fun t410 => (if x3_3.length < 8796093022208 then (script_PrintTopo.l2 kj45 (x3_3 ++ [t410]) l0_2 (l0_2.length : Int) (wrap64 (x54_3 + 1))) else (none)))) = some r := H
                have A51 := Aside0.mk A510;clear A510;replace H := Option.bind_eq_some_iff.mp H;obtain ⟨t406, A520, H⟩ := H
                replace H : ((strings_Join.f (([(⟨#[97, 99, 108]⟩ : ByteArray), t404, t405, x10_39, x11_45, t406] : List ByteArray)) (⟨#[32]⟩ : ByteArray)).bind fun t410 => (if x3_3.length < 8796093022208 then (script_PrintTopo.l2 kj45 (x3_3 ++ [t410]) l0_2 (l0_2.length : Int) (wrap64 (x54_3 + 1))) else (none))) = some r := H
                have A52 := Aside0.mk A520;clear A520;obtain ⟨y407, hy407⟩ : ∃ y_ : List ByteArray, y_ = (([(⟨#[97, 99, 108]⟩ : ByteArray), t404, t405, x10_39, x11_45, t406] : List ByteArray)) := ⟨_, rfl⟩
                replace H : ((strings_Join.f y407 (⟨#[32]⟩ : ByteArray)).bind fun t410 => (if x3_3.length < 8796093022208 then (script_PrintTopo.l2 kj45 (x3_3 ++ [t410]) l0_2 (l0_2.length : Int) (wrap64 (x54_3 + 1))) else (none))) = some r := by first | (rw [hy407]; with_reducible exact H) | (have H2_ := (Option.bind_some _ _).symm.trans H; rw [hy407]; with_reducible exact H2_) | (have H2_ := (Option.bind_some _ _).symm.trans H; with_reducible exact H2_) | with_reducible exact H | (rw [hy407]; exact H) | exact H
                have Ny407 := Aside0.mk hy407;clear hy407;replace H := Option.bind_eq_some_iff.mp H;obtain ⟨t410, A530, H⟩ := H;replace H : (if x3_3.length < 8796093022208 then (script_PrintTopo.l2 kj45 (x3_3 ++ [t410]) l0_2 (l0_2.length : Int) (wrap64 (x54_3 + 1))) else (none)) = some r := H;have A53 := Aside0.mk A530;clear A530
                by_cases c54 : x3_3.length < 8796093022208
                ·rw [if_pos c54] at H
                 have LMc54 := Aside0.mk c54;clear c54;obtain ⟨y411, hy411⟩ : ∃ y_ : List ByteArray, y_ = (x3_3 ++ [t410]) := ⟨_, rfl⟩
                 replace H : (script_PrintTopo.l2 kj45 y411 l0_2 (l0_2.length : Int) (wrap64 (x54_3 + 1))) = some r := by first | (rw [hy411]; with_reducible exact H) | (have H2_ := (Option.bind_some _ _).symm.trans H; rw [hy411]; with_reducible exact H2_) | (have H2_ := (Option.bind_some _ _).symm.trans H; with_reducible exact H2_) | with_reducible exact H | (rw [hy411]; exact H) | exact H
                 have Ny411 := Aside0.mk hy411;clear hy411;have H' := Aside0.mk H;clear H
                 try go_wp2
                 replace HO_3 := Aside0.mk (Kd.R_drew HO_3.out);replace BK383 := Aside0.mk (blk_drew BK383.out);replace BK403 := Aside0.mk (blk_drew BK403.out);replace HB := Aside0.mk (below_drew1 HB.out)
                 refine start_ (n := 17) (S := fun w' => w'.cell? ⟨gb403, 0, none⟩ = some (.int .i64 ((rd_T130 l0_2 x54_3).f0)) ∧ w'.cell? ⟨gb403, 1, none⟩ = some (.int .i64 ((rd_T130 l0_2 x54_3).f1)) ∧ w'.cell? ⟨gb403, 2, none⟩ = some (.bool ((rd_T130 l0_2 x54_3).f2)) ∧ w'.cell? ⟨gb403, 3, none⟩ = some (.bool ((rd_T130 l0_2 x54_3).f3)) ∧ w'.cell? ⟨gb403, 4, none⟩ = some (.int .u32 ((rd_T130 l0_2 x54_3).f4.f0.f0)) ∧ w'.cell? ⟨gb403, 5, none⟩ = some (.int .i64 ((rd_T130 l0_2 x54_3).f4.f0.f1)) ∧ w'.cell? ⟨gb403, 6, none⟩ = some (.int .u32 ((rd_T130 l0_2 x54_3).f4.f1.f0)) ∧ w'.cell? ⟨gb403, 7, none⟩ = some (.int .i64 ((rd_T130 l0_2 x54_3).f4.f1.f1)) ∧ w'.cell? ⟨gb403, 8, none⟩ = some (.int .i64 ((rd_T130 l0_2 x54_3).f4.f2)) ∧ w'.cell? ⟨gb403, 9, none⟩ = some (.int .u16 ((rd_T130 l0_2 x54_3).f4.f3.f0)) ∧ w'.cell? ⟨gb403, 10, none⟩ = some (.int .u16 ((rd_T130 l0_2 x54_3).f4.f3.f1)) ∧ w'.cell? ⟨gb403, 11, none⟩ = some (.int .u16 ((rd_T130 l0_2 x54_3).f4.f4.f0)) ∧ w'.cell? ⟨gb403, 12, none⟩ = some (.int .u16 ((rd_T130 l0_2 x54_3).f4.f4.f1))) (ds := []) #[F,F,F,F,F,F,F,F,F,F,F,F,F,F,F,F,F] (by kernel_rfl) rfl rfl ⟨(blk_cell BK403.out 0).trans rfl, (blk_cell BK403.out 1).trans rfl, (blk_cell BK403.out 2).trans rfl, (blk_cell BK403.out 3).trans rfl, (blk_cell BK403.out 4).trans rfl, (blk_cell BK403.out 5).trans rfl, (blk_cell BK403.out 6).trans rfl, (blk_cell BK403.out 7).trans rfl, (blk_cell BK403.out 8).trans rfl, (blk_cell BK403.out 9).trans rfl, (blk_cell BK403.out 10).trans rfl, (blk_cell BK403.out 11).trans rfl, (blk_cell BK403.out 12).trans rfl⟩ (fun hHeld => ?_); refine with_tabW script_PrintTopo.tab20 script_PrintTopo.bits20 (fun HT_ HW_ => ?_)
                 generalize wc.drew = w55 at HO_3 BK383 BK403 HB hHeld ⊢
                 refine pu 0 (some 62) #[T,F,F,F,F,F,F,F,F,F,F,F,F,F,F,F,F] (any_of HT_.out (by kernel_rfl)) ?_
                 refine pu 1 (some 63) #[T,T,F,F,F,F,F,F,F,F,F,F,F,F,F,F,F] (any_of HT_.out (by kernel_rfl)) ?_
                 refine pu 4 (some 66) #[T,T,F,F,T,F,F,F,F,F,F,F,F,F,F,F,F] (any_of HT_.out (by kernel_rfl)) ?_
                 refine pu 7 (some 69) #[T,T,F,F,T,F,F,T,F,F,F,F,F,F,F,F,F] (any_of HT_.out (by kernel_rfl)) ?_
                 refine pu 8 (some 70) #[T,T,F,F,T,F,F,T,T,F,F,F,F,F,F,F,F] (any_of HT_.out (by kernel_rfl)) ?_
                 refine pu 9 (some 71) #[T,T,F,F,T,F,F,T,T,T,F,F,F,F,F,F,F] (any_of HT_.out (by kernel_rfl)) ?_
                 refine take_ (i := 2) (N := some 64) (v := ?_) (a' := ?_) #[T,T,T,F,T,F,F,T,T,T,F,F,F,F,F,F,F] rfl rfl (take_ofW HT_.out HW_.out (by kernel_rfl)) (fun _ _ _ h => h) (Or.inl ⟨by rfl, ?_⟩) hHeld ?_ ?_
                 rotate_left
                 ·rintro w' ⟨s0, s1, s2, s3, s4, s5, s6, s7, s8, s9, s10, s11, s12⟩
                  go_simp;with_reducible rfl
                 rotate_left;·simp only [Act.put, setIfInBounds_toArray, set_cons_zero, set_cons_succ, i64_w, i32_w];rfl
                 refine take_ (i := 5) (N := some 67) (v := ?_) (a' := ?_) #[T,T,T,F,T,T,F,T,T,T,F,F,F,F,F,F,F] rfl rfl (take_ofW HT_.out HW_.out (by kernel_rfl)) (fun _ _ _ h => h) (Or.inl ⟨by rfl, ?_⟩) hHeld ?_ ?_
                 rotate_left
                 ·rintro w' ⟨s0, s1, s2, s3, s4, s5, s6, s7, s8, s9, s10, s11, s12⟩
                  go_simp;with_reducible rfl
                 rotate_left;·simp only [Act.put, setIfInBounds_toArray, set_cons_zero, set_cons_succ, i64_w, i32_w];rfl
                 refine take_ (i := 10) (N := some 72) (v := ?_) (a' := ?_) #[T,T,T,F,T,T,F,T,T,T,T,F,F,F,F,F,F] rfl rfl (take_ofW HT_.out HW_.out (by kernel_rfl)) (fun _ _ _ h => h) (Or.inl ⟨by rfl, ?_⟩) hHeld ?_ ?_
                 rotate_left
                 ·rintro w' ⟨s0, s1, s2, s3, s4, s5, s6, s7, s8, s9, s10, s11, s12⟩
                  go_simp;with_reducible rfl
                 rotate_left;·simp only [Act.put, setIfInBounds_toArray, set_cons_zero, set_cons_succ, i64_w, i32_w];rfl
                 refine one_ (i := 3) (N := some 65) #[T,T,T,T,T,T,F,T,T,T,T,F,F,F,F,F,F] rfl rfl (one_of HT_.out (by kernel_rfl)) (by decide) (fun K hK => ?_)
                 refine goes_ Tryd.func76 (by kernel_rfl) rfl #[.int .i64 ((rd_T130 l0_2 x54_3).f0)] (by rfl) rfl rfl aok ?_
                 with_reducible refine (strconv_Itoa_76.calls ((rd_T130 l0_2 x54_3).f0) t404 _ (Hand.Good.below false true hGG.out (bel HB) rfl rfl) A50.out).mono ?_
                 rintro e w56 ⟨rfl, hb⟩;refine ⟨_, rfl, ?_⟩
                 replace HO_3 := Aside0.mk (Kd.R_below (rp HO_3) hb)
                 replace BK383 := Aside0.mk (bb BK383.out hb);replace BK403 := Aside0.mk (bb BK403.out hb)
                 replace HB := Aside0.mk (below_step (bel HB) hb)
                 (try clear hb);(try clear hb2);(try clear hk);(try clear hi)
                 refine hK.out _ _ ⟨(blk_cell BK403.out 0).trans rfl, (blk_cell BK403.out 1).trans rfl, (blk_cell BK403.out 2).trans rfl, (blk_cell BK403.out 3).trans rfl, (blk_cell BK403.out 4).trans rfl, (blk_cell BK403.out 5).trans rfl, (blk_cell BK403.out 6).trans rfl, (blk_cell BK403.out 7).trans rfl, (blk_cell BK403.out 8).trans rfl, (blk_cell BK403.out 9).trans rfl, (blk_cell BK403.out 10).trans rfl, (blk_cell BK403.out 11).trans rfl, (blk_cell BK403.out 12).trans rfl⟩ (fun hHeld => ?_)
                 clear hK K
                 refine nput ?_
                 refine one_ (i := 6) (N := some 68) #[T,T,T,T,T,T,T,T,T,T,T,F,F,F,F,F,F] rfl rfl (one_of HT_.out (by kernel_rfl)) (by decide) (fun K hK => ?_)
                 refine goes_ Tryd.func76 (by kernel_rfl) rfl #[.int .i64 ((rd_T130 l0_2 x54_3).f1)] (by rfl) rfl rfl aok ?_
                 with_reducible refine (strconv_Itoa_76.calls ((rd_T130 l0_2 x54_3).f1) t405 _ (Hand.Good.below false true hGG.out (bel HB) rfl rfl) A51.out).mono ?_
                 rintro e w57 ⟨rfl, hb⟩;refine ⟨_, rfl, ?_⟩
                 replace HO_3 := Aside0.mk (Kd.R_below (rp HO_3) hb)
                 replace BK383 := Aside0.mk (bb BK383.out hb);replace BK403 := Aside0.mk (bb BK403.out hb)
                 replace HB := Aside0.mk (below_step (bel HB) hb)
                 (try clear hb);(try clear hb2);(try clear hk);(try clear hi)
                 refine hK.out _ _ ⟨(blk_cell BK403.out 0).trans rfl, (blk_cell BK403.out 1).trans rfl, (blk_cell BK403.out 2).trans rfl, (blk_cell BK403.out 3).trans rfl, (blk_cell BK403.out 4).trans rfl, (blk_cell BK403.out 5).trans rfl, (blk_cell BK403.out 6).trans rfl, (blk_cell BK403.out 7).trans rfl, (blk_cell BK403.out 8).trans rfl, (blk_cell BK403.out 9).trans rfl, (blk_cell BK403.out 10).trans rfl, (blk_cell BK403.out 11).trans rfl, (blk_cell BK403.out 12).trans rfl⟩ (fun hHeld => ?_)
                 clear hK K
                 refine nput ?_
                 refine one_ (i := 11) (N := some 73) #[T,T,T,T,T,T,T,T,T,T,T,T,F,F,F,F,F] rfl rfl (one_of HT_.out (by kernel_rfl)) (by decide) (fun K hK => ?_)
                 refine goes_ Tryd.func66 (by kernel_rfl) rfl #[.agg #[.int .u32 ((rd_T130 l0_2 x54_3).f4.f0.f0), .int .i64 ((rd_T130 l0_2 x54_3).f4.f0.f1), .int .u32 ((rd_T130 l0_2 x54_3).f4.f1.f0), .int .i64 ((rd_T130 l0_2 x54_3).f4.f1.f1), .int .i64 ((rd_T130 l0_2 x54_3).f4.f2), .int .u16 ((rd_T130 l0_2 x54_3).f4.f3.f0), .int .u16 ((rd_T130 l0_2 x54_3).f4.f3.f1), .int .u16 ((rd_T130 l0_2 x54_3).f4.f4.f0), .int .u16 ((rd_T130 l0_2 x54_3).f4.f4.f1)]] (by rfl) rfl rfl aok ?_
                 with_reducible refine (filter_Print.calls kj45 ((rd_T130 l0_2 x54_3).f4.f0.f0) ((rd_T130 l0_2 x54_3).f4.f0.f1) ((rd_T130 l0_2 x54_3).f4.f1.f0) ((rd_T130 l0_2 x54_3).f4.f1.f1) ((rd_T130 l0_2 x54_3).f4.f2) ((rd_T130 l0_2 x54_3).f4.f3.f0) ((rd_T130 l0_2 x54_3).f4.f3.f1) ((rd_T130 l0_2 x54_3).f4.f4.f0) ((rd_T130 l0_2 x54_3).f4.f4.f1) t406 _ (Hand.Good.below false true hGG.out (bel HB) rfl rfl) A52.out).mono ?_
                 rintro e w58 ⟨rfl, hb⟩;refine ⟨_, rfl, ?_⟩
                 replace HO_3 := Aside0.mk (Kd.R_below (rp HO_3) hb)
                 replace BK383 := Aside0.mk (bb BK383.out hb);replace BK403 := Aside0.mk (bb BK403.out hb)
                 replace HB := Aside0.mk (below_step (bel HB) hb)
                 (try clear hb);(try clear hb2);(try clear hk);(try clear hi)
                 refine hK.out _ _ ⟨(blk_cell BK403.out 0).trans rfl, (blk_cell BK403.out 1).trans rfl, (blk_cell BK403.out 2).trans rfl, (blk_cell BK403.out 3).trans rfl, (blk_cell BK403.out 4).trans rfl, (blk_cell BK403.out 5).trans rfl, (blk_cell BK403.out 6).trans rfl, (blk_cell BK403.out 7).trans rfl, (blk_cell BK403.out 8).trans rfl, (blk_cell BK403.out 9).trans rfl, (blk_cell BK403.out 10).trans rfl, (blk_cell BK403.out 11).trans rfl, (blk_cell BK403.out 12).trans rfl⟩ (fun hHeld => ?_)
                 clear hK K
                 refine nput ?_
                 refine one_ (i := 12) (N := some 74) #[T,T,T,T,T,T,T,T,T,T,T,T,T,F,F,F,F] rfl rfl (one_of HT_.out (by kernel_rfl)) (by decide) (fun K hK => ?_)
                 refine Kd.R_lit_step Kd.string _ 9 ?hg (N := 74) ?hd (xs := ([(⟨#[97, 99, 108]⟩ : ByteArray), t404, t405, x10_39, x11_45, t406] : List ByteArray)) (inner := [.string (⟨#[97, 99, 108]⟩ : ByteArray), .string t404, .string t405, .string x10_39, .string x11_45, .string t406]) (ok := fun _ => True) (okp := fun _ => True) ?hr ?hp (fun _ hk => hk) trivial (Below.refl _ _) (Nat.le_refl _) (by simp) ?_; (case hd => rfl); (case hg => rfl); (case hr => first | (go_simp; done) | (go_simp; rfl)); (case hp => exact (Reps.one (show Kd.M Kd.string _ _ _ (⟨#[97, 99, 108]⟩ : ByteArray) [.string (⟨#[97, 99, 108]⟩ : ByteArray)] from rfl) (Reps.one (show Kd.M Kd.string _ _ _ t404 [.string t404] from rfl) (Reps.one (show Kd.M Kd.string _ _ _ t405 [.string t405] from rfl) (Reps.one (show Kd.M Kd.string _ _ _ x10_39 [.string x10_39] from rfl) (Reps.one (show Kd.M Kd.string _ _ _ x11_45 [.string x11_45] from rfl) (Reps.one (show Kd.M Kd.string _ _ _ t406 [.string t406] from rfl) (Reps.none _ _))))))))
                 intro v408 w59 ho60 hb hg_ hnew_
                 clear hg_ hnew_;(first | rw [← Ny407.out] at ho60 | (simp only [Int.reduceToNat] at ho60; rw [← Ny407.out] at ho60))
                 have HO409 := Aside0.mk (Kd.R_lower (Kd.R_new' ho60 (Kd.R_lt (rp HO_3))) (below_size (bel HB)))
                 replace HO_3 := Aside0.mk (Kd.R_elder' (rp HO_3) (Kd.R_base ho60) hb)
                 replace BK383 := Aside0.mk (bb BK383.out hb);replace BK403 := Aside0.mk (bb BK403.out hb)
                 replace HB := Aside0.mk (below_step (bel HB) hb)
                 clear hb ho60;obtain ⟨Ao61, co61, eo61⟩ := Kd.R_slice HO409.out;(first | subst eo61 | (injection eo61 with f1_ f2_ f3_; have f4_ := f1_.symm; have f5_ := f3_.symm; clear f1_ f2_ f3_; subst f4_; subst f5_))
                 refine hK.out _ _ ⟨(blk_cell BK403.out 0).trans rfl, (blk_cell BK403.out 1).trans rfl, (blk_cell BK403.out 2).trans rfl, (blk_cell BK403.out 3).trans rfl, (blk_cell BK403.out 4).trans rfl, (blk_cell BK403.out 5).trans rfl, (blk_cell BK403.out 6).trans rfl, (blk_cell BK403.out 7).trans rfl, (blk_cell BK403.out 8).trans rfl, (blk_cell BK403.out 9).trans rfl, (blk_cell BK403.out 10).trans rfl, (blk_cell BK403.out 11).trans rfl, (blk_cell BK403.out 12).trans rfl⟩ (fun hHeld => ?_)
                 clear hK K
                 refine nput ?_
                 refine one_ (i := 13) (N := some 75) #[T,T,T,T,T,T,T,T,T,T,T,T,T,T,F,F,F] rfl rfl (one_of HT_.out (by kernel_rfl)) (by decide) (fun K hK => ?_)
                 refine goes_ Tryd.func77 (by kernel_rfl) rfl #[.slice Ao61 y407.length co61, .string (⟨#[32]⟩ : ByteArray)] (by rfl) rfl rfl aok ?_
                 with_reducible refine (strings_Join.calls _ _ y407 (⟨#[32]⟩ : ByteArray) t410 _ ?side1 ?side2 A53.out).mono ?_
                 (case side1 => repeat (first | exact (Kd.R_reads' HO409.out).2.2 | (with_reducible refine Kd.C_alloc ?_ _) | (with_reducible refine Kd.C_drewN ?_ _) | (with_reducible refine Kd.C_drew ?_)))
                 (case side2 => exact (Kd.R_reads' HO409.out).2.1)
                 rintro e w62 ⟨rfl, hb⟩;refine ⟨_, rfl, ?_⟩
                 replace HO_3 := Aside0.mk (Kd.R_below (rp HO_3) hb)
                 replace HO409 := Aside0.mk (Kd.R_below (rp HO409) hb)
                 replace BK383 := Aside0.mk (bb BK383.out hb);replace BK403 := Aside0.mk (bb BK403.out hb)
                 replace HB := Aside0.mk (below_step (bel HB) hb)
                 (try clear hb);(try clear hb2);(try clear hk);(try clear hi)
                 refine hK.out _ _ ⟨(blk_cell BK403.out 0).trans rfl, (blk_cell BK403.out 1).trans rfl, (blk_cell BK403.out 2).trans rfl, (blk_cell BK403.out 3).trans rfl, (blk_cell BK403.out 4).trans rfl, (blk_cell BK403.out 5).trans rfl, (blk_cell BK403.out 6).trans rfl, (blk_cell BK403.out 7).trans rfl, (blk_cell BK403.out 8).trans rfl, (blk_cell BK403.out 9).trans rfl, (blk_cell BK403.out 10).trans rfl, (blk_cell BK403.out 11).trans rfl, (blk_cell BK403.out 12).trans rfl⟩ (fun hHeld => ?_)
                 clear hK K
                 refine nput ?_
                 refine one_ (i := 14) (N := some 76) #[T,T,T,T,T,T,T,T,T,T,T,T,T,T,T,F,F] rfl rfl (one_of HT_.out (by kernel_rfl)) (by decide) (fun K hK => ?_)
                 refine value_ (w1 := ?_) (v := ?_) (by rfl) rfl ?_ ?_
                 rotate_left 2
                 ·go_simp
                  constructor
                  ·rfl
                  ·rfl
                 refine hK.out _ _ ⟨(blk_cell (blk_alloc BK403.out _) 0).trans rfl, (blk_cell (blk_alloc BK403.out _) 1).trans rfl, (blk_cell (blk_alloc BK403.out _) 2).trans rfl, (blk_cell (blk_alloc BK403.out _) 3).trans rfl, (blk_cell (blk_alloc BK403.out _) 4).trans rfl, (blk_cell (blk_alloc BK403.out _) 5).trans rfl, (blk_cell (blk_alloc BK403.out _) 6).trans rfl, (blk_cell (blk_alloc BK403.out _) 7).trans rfl, (blk_cell (blk_alloc BK403.out _) 8).trans rfl, (blk_cell (blk_alloc BK403.out _) 9).trans rfl, (blk_cell (blk_alloc BK403.out _) 10).trans rfl, (blk_cell (blk_alloc BK403.out _) 11).trans rfl, (blk_cell (blk_alloc BK403.out _) 12).trans rfl⟩ (fun hHeld => ?_)
                 clear hK K
                 refine nput ?_
                 refine one_ (i := 15) (N := some 77) #[T,T,T,T,T,T,T,T,T,T,T,T,T,T,T,T,F] rfl rfl (one_of HT_.out (by kernel_rfl)) (by decide) (fun K hK => ?_)
                 refine Kd.R_append_step Kd.string (w0 := w) w.heap.size (by rfl) (.tmp 62) (.tmp 76) 30 9 (.string ⟨#[]⟩) 16 rfl Tryd.underlying30 info9 rfl (by decide) (by omega) u3 x3_3 t410 [.string t410] (fun k_ => some k_ ≠ (.slice Ao61 y407.length co61 : Value).ownBlock) (fun _ => False) rfl rfl ?aP (fun _ hk => hk.elim) ?aF ?aO ?aB ?aS ?aL ?_
                 (case aP => exact rfl)
                 (case aB => exact (bel HB))
                 (case aF => exact (fun k_ hk => Kd.fresh' (Kd.R_lt (rp HO409)) k_ hk))
                 (case aO => exact (by (with_reducible repeat (first | apply Kd.R_alloc | apply Kd.R_drewN | apply Kd.R_drew)); exact Kd.R_mono HO_3.out (fun _ hk => hk.2)))
                 (case aS => exact (below_size (bel HB)))
                 (case aL => have := LMc54.out; omega)
                 intro v412 w63 ho hb hg hat
                 rw [← Ny411.out] at ho;have HO413 := Aside0.mk (ho)
                 replace BK383 := Aside0.mk (blk_grown (g := gb383) (o := .cells #[.slice A0_0 l0_0.length c0_0, .slice A0_1 l0_1.length c0_1, .slice (some ad402) l0_2.length c0_2] 26 (0, 0)) bkp hg (Kd.R_ne HO_3.out BK383.out (by decide)))
                 replace BK403 := Aside0.mk (blk_grown (g := gb403) (o := .cells #[.int .i64 ((rd_T130 l0_2 x54_3).f0), .int .i64 ((rd_T130 l0_2 x54_3).f1), .bool ((rd_T130 l0_2 x54_3).f2), .bool ((rd_T130 l0_2 x54_3).f3), .int .u32 ((rd_T130 l0_2 x54_3).f4.f0.f0), .int .i64 ((rd_T130 l0_2 x54_3).f4.f0.f1), .int .u32 ((rd_T130 l0_2 x54_3).f4.f1.f0), .int .i64 ((rd_T130 l0_2 x54_3).f4.f1.f1), .int .i64 ((rd_T130 l0_2 x54_3).f4.f2), .int .u16 ((rd_T130 l0_2 x54_3).f4.f3.f0), .int .u16 ((rd_T130 l0_2 x54_3).f4.f3.f1), .int .u16 ((rd_T130 l0_2 x54_3).f4.f4.f0), .int .u16 ((rd_T130 l0_2 x54_3).f4.f4.f1)] 130 (0, 0)) bkp hg (Kd.R_ne HO_3.out BK403.out (by decide)))
                 replace HO409 := Aside0.mk (Kd.R_after (ok := (fun _ => True)) (rp HO409) hg hat)
                 replace HB := Aside0.mk (hb);clear HO_3;clear ho hb hg hat
                 refine hK.out _ _ ⟨(blk_cell BK403.out 0).trans rfl, (blk_cell BK403.out 1).trans rfl, (blk_cell BK403.out 2).trans rfl, (blk_cell BK403.out 3).trans rfl, (blk_cell BK403.out 4).trans rfl, (blk_cell BK403.out 5).trans rfl, (blk_cell BK403.out 6).trans rfl, (blk_cell BK403.out 7).trans rfl, (blk_cell BK403.out 8).trans rfl, (blk_cell BK403.out 9).trans rfl, (blk_cell BK403.out 10).trans rfl, (blk_cell BK403.out 11).trans rfl, (blk_cell BK403.out 12).trans rfl⟩ (fun hHeld => ?_)
                 clear hK K
                 refine nput ?_
                 refine pu 16 (some 3) #[T,T,T,T,T,T,T,T,T,T,T,T,T,T,T,T,T] (any_of HT_.out (by kernel_rfl)) ?_
                 refine done_ (done_of HT_.out (by kernel_rfl)) ?_
                 try go_wp2
                 go_roundg kj45
                 case measure => have := HK1.out; have := HK2.out; have := HK3.out; have := HJ39.out; have := HJ45.out; omega
                 case rel => (try rw [← Nbq44.out]); exact ⟨(y411), (wrap64 (x54_3 + 1)), (by first | rfl | (simp; done) | (simp [*]; done)), H', ⟨by have := HK1.out; have := HK2.out; have := HK3.out; have := HJ39.out; have := HJ45.out; omega⟩, ⟨by (with_reducible repeat (first | apply Kd.R_alloc | apply Kd.R_drewN | apply Kd.R_drew)); exact Kd.R_mono HO413.out (fun _ hk => trivial)⟩, ⟨bkp⟩, ⟨by repeat (first | (with_reducible first | exact HB.out | apply below_alloc | apply pw_below_drewN | apply below_drew1 | refine below_set ?_ GE383.out | refine below_set ?_ GE403.out) | exact HB.out)⟩⟩
                ·rw [if_neg c54] at H
                 exact absurd H (by simp)
           ·rw [if_neg c39] at H
            exact absurd H (by simp)
          ·rw [if_neg c38] at H
           exact absurd H (by simp)
         ·rw [if_neg c37] at H
          have c37b0 : decide (x54_3 < (l0_2.length : Int)) = false := decide_eq_false c37;clear c37;obtain rfl := Option.some.inj H;go_wp2;go_ret
          exact ⟨_, by first | rfl | (simp [errW_none, errW_some] <;> rfl) | (simp [*, errW_none, errW_some] <;> rfl), by (with_reducible repeat (first | apply Kd.R_alloc | apply Kd.R_drewN | apply Kd.R_drew)); exact HO_3.out, bel HB⟩

end Go.Proofs.YtloclimoffhbhaaDoor.PSto
