-- Written by wip/myprint.py and wip/merge.py (this session's own programs); Lean checks it.
-- halved
import Derived.Test.YtloclimoffhbhaaDoorSq6
import Derived.Test.YtloclimoffhbhaaDoorPStox0
import Derived.Test.YtloclimoffhbhaaDoorPStox1
namespace Go.Proofs.YtloclimoffhbhaaDoor.PSto
open Go.RowKit Go.Proofs.YtloclimoffhbhaaDoorW.PrintWords Go.Proofs.YtloclimoffhbhaaDoorW.PrintLast Go.Proofs.YtloclimoffhbhaaDoorW.PrintMore Go.Proofs.YtloclimoffhbhaaDoorW.PrintSq List
attribute [local go_sem] max2_int min2_int max_two min_two max_three min_three max_four min_four   -- for this text's walks alone
set_option linter.unusedVariables false
set_option linter.unusedSimpArgs false

/-! ### script_rule: function 83 -/
def script_rule.j0 : Nat → List ByteArray → Int → Int → Int → Option (Int × Int × Int × Int × Int × Int × Int)
 | 0, _, _, _, _ => none
 | k + 1, x6, x7, x133000, x133001 => (script_numbers.f k x6).bind fun bt144 => (if bt144.2 = 0 then (if (bt144.1.length : Int) = 4 then (if 3 < (bt144.1.length : Int) then (if 0 < (bt144.1.length : Int) then (if 1 < (bt144.1.length : Int) then (if 2 < (bt144.1.length : Int) then (some (rd bt144.1 0, rd bt144.1 1, x133000, x133001, rd bt144.1 2, rd bt144.1 3, 0)) else (none)) else (none)) else (none)) else (none)) else (if 0 < (bt144.1.length : Int) then (if 1 < (bt144.1.length : Int) then (if 2 < (bt144.1.length : Int) then (some (rd bt144.1 0, rd bt144.1 1, x133000, x133001, rd bt144.1 2, x7, 0)) else (none)) else (none)) else (none))) else (some (0, 0, 0, 0, 0, 0, bt144.2)))
def script_rule.f (k : Nat) (l0 : List ByteArray) : Option (Int × Int × Int × Int × Int × Int × Int) := if (l0.length : Int) = 5 then (if 2 < (l0.length : Int) then ((cidr_Parse.f k (rdOf ByteArray.empty l0 2)).bind fun bt129 => (if bt129.2.2 = 0 then (if 0 < (l0.length : Int) then (if 1 < (l0.length : Int) then (if 3 < (l0.length : Int) then ((some (([rdOf ByteArray.empty l0 0, rdOf ByteArray.empty l0 1, rdOf ByteArray.empty l0 3] : List ByteArray) : List ByteArray)).bind fun y136 => (if 4 < (l0.length : Int) then (if (rdOf ByteArray.empty l0 4).toList = ([100, 114, 111, 112] : List UInt8) then (script_rule.j0 k y136 (-1) bt129.1 bt129.2.1) else (if y136.length < 8796093022208 then (script_rule.j0 k (y136 ++ [rdOf ByteArray.empty l0 4]) (-1) bt129.1 bt129.2.1) else (none))) else (none))) else (none)) else (none)) else (none)) else (some (0, 0, 0, 0, 0, 0, bt129.2.2)))) else (none)) else (some (0, 0, 0, 0, 0, 0, 6))
def script_rule.T6 : Bool × List (List Nat × List Nat) := (true, [([], []), ([0], [0]), ([1], [1]), ([], []), ([3], [3]), ([4], [4]), ([], []), ([6], [6]), ([7], [7]), ([2, 5, 8], [2, 5, 8]), ([9, 0, 1, 2, 3, 4, 5, 6, 7, 8, 9], [9])])
def script_rule.B6 : List Nat := [0, 1, 3, 0, 8, 24, 0, 64, 192, 511, 1023]
theorem script_rule.tab6 : rtab .any (opsOf Tryd.f83 6) = script_rule.T6 := by kernel_rfl
theorem script_rule.bits6 : waitsOk script_rule.T6.2 script_rule.B6 = true := by kernel_rfl
def script_rule.T15 : Bool × List (List Nat × List Nat) := (true, [([], []), ([0], [0]), ([1], [1]), ([], []), ([3], [3]), ([4], [4]), ([], []), ([], []), ([7], [7]), ([8], [8]), ([], []), ([2, 5, 6, 9, 10], [2, 5, 6, 9, 10]), ([11, 0, 1, 2, 3, 4, 5, 6, 7, 8, 9, 10, 11], [11]), ([12, 0, 1, 2, 3, 4, 5, 6, 7, 8, 9, 10, 11, 12], [])])
def script_rule.B15 : List Nat := [0, 1, 3, 0, 8, 24, 0, 0, 128, 384, 0, 2047, 4095, 8191]
theorem script_rule.tab15 : rtab .any (opsOf Tryd.f83 15) = script_rule.T15 := by kernel_rfl
theorem script_rule.bits15 : waitsOk script_rule.T15.2 script_rule.B15 = true := by kernel_rfl
set_option maxHeartbeats 8000000 in
set_option maxRecDepth 100000 in
theorem script_rule.calls (k : Nat) (A0 : Option Addr) (c0 : Nat) (l0 : List ByteArray) (r1 : Int) (r2 : Int) (r3 : Int) (r4 : Int) (r5 : Int) (r6 : Int) (r7 : Int) (w : World) (hG : Hand.Good true false w) (hr0 : Kd.C Kd.string w A0 l0.length l0) (hc0 : l0.length ≤ c0) (h : script_rule.f k l0 = some (r1, r2, r3, r4, r5, r6, r7)) :
  Calls Tryd.prog 83 #[.slice A0 l0.length c0] w fun e w' => e = .returned (.tuple #[.agg #[.int .i64 r1, .int .i64 r2, .int .u32 r3, .int .i64 r4, .int .i64 r5, .int .i64 r6], .int .i64 r7]) ∧ Below w.heap.size w w' := by
 have hu44 := Tryd.underlying44;have hu42 := Tryd.underlying42;have HR0 := Aside0.mk hr0;have HC0 := Aside0.mk hc0;clear hr0 hc0;have HB := Aside0.mk (Below.refl w.heap.size w);have hGG := Aside0.mk hG;clear hG
 have H : (if (l0.length : Int) = 5 then (if 2 < (l0.length : Int) then ((cidr_Parse.f k (rdOf ByteArray.empty l0 2)).bind fun bt129 => (if bt129.2.2 = 0 then (if 0 < (l0.length : Int) then (if 1 < (l0.length : Int) then (if 3 < (l0.length : Int) then ((some (([rdOf ByteArray.empty l0 0, rdOf ByteArray.empty l0 1, rdOf ByteArray.empty l0 3] : List ByteArray) : List ByteArray)).bind fun y136 => (if 4 < (l0.length : Int) then (if (rdOf ByteArray.empty l0 4).toList = ([100, 114, 111, 112] : List UInt8) then (script_rule.j0 k y136 (-1) bt129.1 bt129.2.1) else (if y136.length < 8796093022208 then (script_rule.j0 k (y136 ++ [rdOf ByteArray.empty l0 4]) (-1) bt129.1 bt129.2.1) else (none))) else (none))) else (none)) else (none)) else (none)) else (some (0, 0, 0, 0, 0, 0, bt129.2.2)))) else (none)) else (some (0, 0, 0, 0, 0, 0, 6))) = some (r1, r2, r3, r4, r5, r6, r7) := h
 clear h
 by_cases c2 : (l0.length : Int) = 5
 ·rw [if_pos c2] at H
  have c2b0 : ((l0.length : Int) == 5) = true := beq_iff_eq.mpr c2;have c2b1 : ((l0.length : Int) != 5) = false := bne_eq_false_iff_eq.mpr c2;clear c2
  by_cases c3 : 2 < (l0.length : Int)
  ·rw [if_pos c3] at H
   have c3b0 : decide (2 < (l0.length : Int)) = true := decide_eq_true c3
   have c3b1 : decide (2 < l0.length) = true := decide_eq_true (by omega)
   clear c3;replace H := Option.bind_eq_some_iff.mp H;obtain ⟨⟨t129, t130, t131⟩, A40, H⟩ := H
   replace H : (if t131 = 0 then (if 0 < (l0.length : Int) then (if 1 < (l0.length : Int) then (if 3 < (l0.length : Int) then ((some (([rdOf ByteArray.empty l0 0, rdOf ByteArray.empty l0 1, rdOf ByteArray.empty l0 3] : List ByteArray) : List ByteArray)).bind fun y136 => (if 4 < (l0.length : Int) then (if (rdOf ByteArray.empty l0 4).toList = ([100, 114, 111, 112] : List UInt8) then (script_rule.j0 k y136 (-1) t129 t130) else (if y136.length < 8796093022208 then (script_rule.j0 k (y136 ++ [rdOf ByteArray.empty l0 4]) (-1) t129 t130) else (none))) else (none))) else (none)) else (none)) else (none)) else (some (0, 0, 0, 0, 0, 0, t131))) = some (r1, r2, r3, r4, r5, r6, r7) := H
   have A4 := Aside0.mk A40;clear A40
   by_cases c5 : t131 = 0
   ·rw [if_pos c5] at H
    have c5b0 : (t131 == 0) = true := beq_iff_eq.mpr c5;have c5b1 : (t131 != 0) = false := bne_eq_false_iff_eq.mpr c5;clear c5
    by_cases c6 : 0 < (l0.length : Int)
    ·rw [if_pos c6] at H
     have c6b0 : decide (0 < (l0.length : Int)) = true := decide_eq_true c6
     have c6b1 : decide (0 < l0.length) = true := decide_eq_true (by omega)
     clear c6
     by_cases c7 : 1 < (l0.length : Int)
     ·rw [if_pos c7] at H
      have c7b0 : decide (1 < (l0.length : Int)) = true := decide_eq_true c7
      have c7b1 : decide (1 < l0.length) = true := decide_eq_true (by omega)
      clear c7
      by_cases c8 : 3 < (l0.length : Int)
      ·rw [if_pos c8] at H
       have c8b0 : decide (3 < (l0.length : Int)) = true := decide_eq_true c8
       have c8b1 : decide (3 < l0.length) = true := decide_eq_true (by omega)
       clear c8;obtain ⟨y136, hy136⟩ : ∃ y_ : List ByteArray, y_ = (([rdOf ByteArray.empty l0 0, rdOf ByteArray.empty l0 1, rdOf ByteArray.empty l0 3] : List ByteArray)) := ⟨_, rfl⟩
       replace H : (if 4 < (l0.length : Int) then (if (rdOf ByteArray.empty l0 4).toList = ([100, 114, 111, 112] : List UInt8) then (script_rule.j0 k y136 (-1) t129 t130) else (if y136.length < 8796093022208 then (script_rule.j0 k (y136 ++ [rdOf ByteArray.empty l0 4]) (-1) t129 t130) else (none))) else (none)) = some (r1, r2, r3, r4, r5, r6, r7) := by first | (rw [hy136]; with_reducible exact H) | (have H2_ := (Option.bind_some _ _).symm.trans H; rw [hy136]; with_reducible exact H2_) | (have H2_ := (Option.bind_some _ _).symm.trans H; with_reducible exact H2_) | with_reducible exact H | (rw [hy136]; exact H) | exact H
       have Ny136 := Aside0.mk hy136;clear hy136
       by_cases c9 : 4 < (l0.length : Int)
       ·rw [if_pos c9] at H
        have c9b0 : decide (4 < (l0.length : Int)) = true := decide_eq_true c9
        have c9b1 : decide (4 < l0.length) = true := decide_eq_true (by omega)
        clear c9;have HC10 := Aside0.mk H;clear H;go_enter Tryd.func83, Tryd.ntmps83
        try go_wp2_with (first | ((with_reducible refine gate_dst (N := 2) rfl ?_); refine box_event rfl (N := 2) rfl (cs := #[.int .i64 0, .int .i64 0, .int .u32 0, .int .i64 0, .int .i64 0, .int .i64 0]) (t := 44) gs ?_; intro gb127 hg w11 hbox hb; have n0_ := Aside0.mk (below_step (bel HB) hb); have n1_ := Aside0.mk (hbox); have n2_ := gew HB hg; have n3_ := gew HB hg; clear HB; have HB := n0_; have BK127 := n1_; have GW127 := n2_; have GE127 := n3_; clear n0_ n1_ n2_ n3_; clear hb hbox hg; have p128 : 0 ≤ (2 : Int) := (by omega); have q128 : 2 < (l0.length : Int) := of_decide_eq_true (by first | (with_reducible assumption) | assumption); obtain ⟨ad128, e128, hx128_0⟩ := Kd.at_string HR0.out 2 p128 q128; cases e128; (try simp only [show (2 : Int).toNat = 2 from rfl, Nat.reduceMul, Nat.reduceEqDiff, Go.Addr.add, ↓reduceIte] at hx128_0); have qi128 : (2 < l0.length) = True := eq_true (by omega); (try rw [show ((2 : Int)).toNat = 2 from rfl] at hx128_0); replace hx128_0 := mv HB hx128_0; replace p128 := eq_true p128; replace q128 := eq_true q128) | ((with_reducible refine gate_callee (f := 33) rfl ?_); refine goesL_ (some 17) rfl rfl Tryd.func33 (by kernel_rfl) rfl #[.string (rdOf ByteArray.empty l0 2)] rfl aok ?_; (with_reducible refine (cidr_Parse.calls k (rdOf ByteArray.empty l0 2) t129 t130 t131 _ (Hand.Good.below true false hGG.out (bel HB) rfl rfl) A4.out).mono ?_); rintro e w12 ⟨rfl, hb⟩; refine ⟨_, rfl, ?_⟩; have n0_ := Aside0.mk (bb BK127.out hb); have n1_ := Aside0.mk (below_step (bel HB) hb); clear BK127; clear HB; have BK127 := n0_; have HB := n1_; clear n0_ n1_; (try clear hb); (try clear hb2); (try clear hk); (try clear hi)) | ((with_reducible refine gate_dst (N := 4) rfl ?_); refine box_event rfl (N := 4) rfl (cs := #[.int .u32 0, .int .i64 0]) (t := 42) gs ?_; intro gb132 hg w13 hbox hb; have n0_ := Aside0.mk (bb BK127.out hb); have n1_ := Aside0.mk (below_step (bel HB) hb); have n2_ := Aside0.mk (hbox); have n3_ := gew HB hg; have n4_ := gew HB hg; have n5_ := Aside0.mk ((ne1 BK127.out hg : gb127 ≠ gb132)); have n6_ := Aside0.mk ((ne2 BK127.out hg : gb132 ≠ gb127)); clear BK127; clear HB; have BK127 := n0_; have HB := n1_; have BK132 := n2_; have GW132 := n3_; have GE132 := n4_; have NB127_132 := n5_; have NB132_127 := n6_; clear n0_ n1_ n2_ n3_ n4_ n5_ n6_; clear hb hbox hg; have hnb14 := NB132_127.out; have hnc14 := NB127_132.out; have hcz15 := cz2 BK132.out))
        have n0_ : Aside0 (((w13.setCell ⟨gb132, 0, none⟩ (.int .u32 t129)).setCell ⟨gb132, 1, none⟩ (.int .i64 t130)).heap[gb127]? = some (.cells #[.int .i64 0, .int .i64 0, .int .u32 0, .int .i64 0, .int .i64 0, .int .i64 0] 44 (0, 0))) := ⟨bkp⟩
        have n1_ : Aside0 (((w13.setCell ⟨gb132, 0, none⟩ (.int .u32 t129)).setCell ⟨gb132, 1, none⟩ (.int .i64 t130)).heap[gb132]? = some (.cells #[.int .u32 t129, .int .i64 t130] 42 (0, 0))) := ⟨bkp⟩
        have n2_ : Aside0 (Below w.heap.size w ((w13.setCell ⟨gb132, 0, none⟩ (.int .u32 t129)).setCell ⟨gb132, 1, none⟩ (.int .i64 t130))) := ⟨by repeat (first | (with_reducible first | exact HB.out | apply below_alloc | apply pw_below_drewN | apply below_drew1 | refine below_set ?_ GE127.out | refine below_set ?_ GE132.out) | exact HB.out)⟩
        (try clear BK127);(try clear BK132);(try clear HB)
        generalize ((w13.setCell ⟨gb132, 0, none⟩ (.int .u32 t129)).setCell ⟨gb132, 1, none⟩ (.int .i64 t130)) = w16 at n0_ n1_ n2_ ⊢
        have BK127 := n0_;have BK132 := n1_;have HB := n2_;clear n0_ n1_ n2_;replace BK127 := Aside0.mk (blk_drew BK127.out);replace BK132 := Aside0.mk (blk_drew BK132.out);replace HB := Aside0.mk (below_drew1 HB.out)
        have p133 : 0 ≤ (0 : Int) := (by omega)
        have q133 : 0 < (l0.length : Int) := of_decide_eq_true (by first | (with_reducible assumption) | assumption)
        obtain ⟨ad133, e133, hx133_0⟩ := Kd.at_string HR0.out 0 p133 q133;have hw133_0 := hx133_0;(try rw [show ((0 : Int)).toNat = 0 from rfl] at hw133_0);(try rw [show 0 * 1 = 0 from rfl] at hw133_0);(try rw [Addr.add_zero'] at hw133_0)
        obtain rfl : ad128 = ad133 := (by injection e133)
        have qi133 : (0 < l0.length) = True := eq_true (by omega)
        (try rw [show ((0 : Int)).toNat = 0 from rfl] at hx133_0);(try rw [Addr.add_zero'] at hx133_0);replace hx133_0 := mv HB hx133_0;replace p133 := eq_true p133;replace q133 := eq_true q133
        have p134 : 0 ≤ (1 : Int) := (by omega)
        have q134 : 1 < (l0.length : Int) := of_decide_eq_true (by first | (with_reducible assumption) | assumption)
        obtain ⟨ad134, e134, hx134_0⟩ := Kd.at_string HR0.out 1 p134 q134;have hw134_0 := hx134_0;(try rw [show ((1 : Int)).toNat = 1 from rfl] at hw134_0);(try rw [show 1 * 1 = 1 from rfl] at hw134_0);(try simp only [Nat.reduceMul, Nat.reduceEqDiff, Go.Addr.add, ↓reduceIte] at hw134_0)
        obtain rfl : ad128 = ad134 := (by injection e134)
        (try simp only [show (1 : Int).toNat = 1 from rfl, Nat.reduceMul, Nat.reduceEqDiff, Go.Addr.add, ↓reduceIte] at hx134_0)
        have qi134 : (1 < l0.length) = True := eq_true (by omega)
        (try rw [show ((1 : Int)).toNat = 1 from rfl] at hx134_0);replace hx134_0 := mv HB hx134_0;replace p134 := eq_true p134;replace q134 := eq_true q134
        have p135 : 0 ≤ (3 : Int) := (by omega)
        have q135 : 3 < (l0.length : Int) := of_decide_eq_true (by first | (with_reducible assumption) | assumption)
        obtain ⟨ad135, e135, hx135_0⟩ := Kd.at_string HR0.out 3 p135 q135;have hw135_0 := hx135_0;(try rw [show ((3 : Int)).toNat = 3 from rfl] at hw135_0);(try rw [show 3 * 1 = 3 from rfl] at hw135_0);(try simp only [Nat.reduceMul, Nat.reduceEqDiff, Go.Addr.add, ↓reduceIte] at hw135_0)
        obtain rfl : ad128 = ad135 := (by injection e135)
        (try simp only [show (3 : Int).toNat = 3 from rfl, Nat.reduceMul, Nat.reduceEqDiff, Go.Addr.add, ↓reduceIte] at hx135_0)
        have qi135 : (3 < l0.length) = True := eq_true (by omega)
        (try rw [show ((3 : Int)).toNat = 3 from rfl] at hx135_0);replace hx135_0 := mv HB hx135_0;replace p135 := eq_true p135;replace q135 := eq_true q135
        refine start_ (n := 11) (S := fun w' => w'.cell? ad128 = some (.string (rdOf ByteArray.empty l0 0)) ∧ w'.cell? ⟨ad128.block, ad128.off + 1, none⟩ = some (.string (rdOf ByteArray.empty l0 1)) ∧ w'.cell? ⟨ad128.block, ad128.off + 3, none⟩ = some (.string (rdOf ByteArray.empty l0 3))) (ds := []) #[F,F,F,F,F,F,F,F,F,F,F] (by kernel_rfl) rfl rfl ⟨((HB.out.cell (World.block_lt_of_cell? w _ hw133_0)).trans hw133_0), ((HB.out.cell (World.block_lt_of_cell? w _ hw134_0)).trans hw134_0), ((HB.out.cell (World.block_lt_of_cell? w _ hw135_0)).trans hw135_0)⟩ (fun hHeld => ?_); refine with_tabW script_rule.tab6 script_rule.bits6 (fun HT_ HW_ => ?_)
        generalize w16.drew = w17 at BK127 BK132 HB hx133_0 hx134_0 hx135_0 hHeld ⊢
        refine pu 0 (some 24) #[T,F,F,F,F,F,F,F,F,F,F] (any_of HT_.out (by kernel_rfl)) ?_
        refine pu 1 (some 25) #[T,T,F,F,F,F,F,F,F,F,F] (any_of HT_.out (by kernel_rfl)) ?_
        refine pu 3 (some 27) #[T,T,F,T,F,F,F,F,F,F,F] (any_of HT_.out (by kernel_rfl)) ?_
        refine pu 4 (some 28) #[T,T,F,T,T,F,F,F,F,F,F] (any_of HT_.out (by kernel_rfl)) ?_
        refine pu 6 (some 30) #[T,T,F,T,T,F,T,F,F,F,F] (any_of HT_.out (by kernel_rfl)) ?_
        refine pu 7 (some 31) #[T,T,F,T,T,F,T,T,F,F,F] (any_of HT_.out (by kernel_rfl)) ?_
        refine take_ (i := 2) (N := some 26) (v := ?_) (a' := ?_) #[T,T,T,T,T,F,T,T,F,F,F] rfl rfl (take_ofW HT_.out HW_.out (by kernel_rfl)) (fun _ _ _ h => h) (Or.inl ⟨by rfl, ?_⟩) hHeld ?_ ?_
        rotate_left
        ·rintro w' ⟨s0, s1, s2⟩
         go_simp;with_reducible rfl
        rotate_left;·simp only [Act.put, setIfInBounds_toArray, set_cons_zero, set_cons_succ, i64_w, i32_w];rfl
        refine take_ (i := 5) (N := some 29) (v := ?_) (a' := ?_) #[T,T,T,T,T,T,T,T,F,F,F] rfl rfl (take_ofW HT_.out HW_.out (by kernel_rfl)) (fun _ _ _ h => h) (Or.inl ⟨by rfl, ?_⟩) hHeld ?_ ?_
        rotate_left
        ·rintro w' ⟨s0, s1, s2⟩
         go_simp;with_reducible rfl
        rotate_left;·simp only [Act.put, setIfInBounds_toArray, set_cons_zero, set_cons_succ, i64_w, i32_w];rfl
        refine take_ (i := 8) (N := some 32) (v := ?_) (a' := ?_) #[T,T,T,T,T,T,T,T,T,F,F] rfl rfl (take_ofW HT_.out HW_.out (by kernel_rfl)) (fun _ _ _ h => h) (Or.inl ⟨by rfl, ?_⟩) hHeld ?_ ?_
        rotate_left
        ·rintro w' ⟨s0, s1, s2⟩
         go_simp;with_reducible rfl
        rotate_left;·simp only [Act.put, setIfInBounds_toArray, set_cons_zero, set_cons_succ, i64_w, i32_w];rfl
        refine one_ (i := 9) (N := some 33) #[T,T,T,T,T,T,T,T,T,T,F] rfl rfl (one_of HT_.out (by kernel_rfl)) (by decide) (fun K hK => ?_)
        refine Kd.R_lit_step Kd.string _ 9 ?hg (N := 33) ?hd (xs := ([rdOf ByteArray.empty l0 0, rdOf ByteArray.empty l0 1, rdOf ByteArray.empty l0 3] : List ByteArray)) (inner := [.string (rdOf ByteArray.empty l0 0), .string (rdOf ByteArray.empty l0 1), .string (rdOf ByteArray.empty l0 3)]) (ok := fun _ => True) (okp := fun _ => True) ?hr ?hp (fun _ hk => hk) trivial (Below.refl _ _) (Nat.le_refl _) (by simp) ?_; (case hd => rfl); (case hg => rfl); (case hr => first | (go_simp; done) | (go_simp; rfl)); (case hp => exact (Reps.one (show Kd.M Kd.string _ _ _ (rdOf ByteArray.empty l0 0) [.string (rdOf ByteArray.empty l0 0)] from rfl) (Reps.one (show Kd.M Kd.string _ _ _ (rdOf ByteArray.empty l0 1) [.string (rdOf ByteArray.empty l0 1)] from rfl) (Reps.one (show Kd.M Kd.string _ _ _ (rdOf ByteArray.empty l0 3) [.string (rdOf ByteArray.empty l0 3)] from rfl) (Reps.none _ _)))))
        intro v137 w18 ho19 hb hg_ hnew_
        clear hg_ hnew_;(first | rw [← Ny136.out] at ho19 | (simp only [Int.reduceToNat] at ho19; rw [← Ny136.out] at ho19))
        have HO138 := Aside0.mk (Kd.R_lower ho19 (below_size (bel HB)))
        replace BK127 := Aside0.mk (bb BK127.out hb);replace BK132 := Aside0.mk (bb BK132.out hb)
        replace HB := Aside0.mk (below_step (bel HB) hb)
        clear hb ho19
        refine hK.out _ _ ⟨((HB.out.cell (World.block_lt_of_cell? w _ hw133_0)).trans hw133_0), ((HB.out.cell (World.block_lt_of_cell? w _ hw134_0)).trans hw134_0), ((HB.out.cell (World.block_lt_of_cell? w _ hw135_0)).trans hw135_0)⟩ (fun hHeld => ?_)
        clear hK K
        refine nput ?_
        refine pu 10 (some 6) #[T,T,T,T,T,T,T,T,T,T,T] (any_of HT_.out (by kernel_rfl)) ?_
        refine done_ (done_of HT_.out (by kernel_rfl)) ?_
        have p139 : 0 ≤ (4 : Int) := (by omega)
        have q139 : 4 < (l0.length : Int) := of_decide_eq_true (by first | (with_reducible assumption) | assumption)
        obtain ⟨ad139, e139, hx139_0⟩ := Kd.at_string HR0.out 4 p139 q139
        obtain rfl : ad128 = ad139 := (by injection e139)
        (try simp only [show (4 : Int).toNat = 4 from rfl, Nat.reduceMul, Nat.reduceEqDiff, Go.Addr.add, ↓reduceIte] at hx139_0)
        have qi139 : (4 < l0.length) = True := eq_true (by omega)
        (try rw [show ((4 : Int)).toNat = 4 from rfl] at hx139_0);replace hx139_0 := mv HB hx139_0;replace p139 := eq_true p139;replace q139 := eq_true q139;go_upto_if 37 with (fail)
        go_cut [6] (fun v6 wc => ∃ (kq : Nat) (x6_9 : List ByteArray), Aside0 (script_rule.j0 kq x6_9 (-1) t129 t130 = some (r1, r2, r3, r4, r5, r6, r7)) ∧ Aside0 (kq ≤ k) ∧ Aside0 (Kd.R Kd.string 9 wc w.heap.size (fun _ => True) v6 x6_9) ∧ Aside0 (wc.heap[gb127]? = some (.cells #[.int .i64 0, .int .i64 0, .int .u32 0, .int .i64 0, .int .i64 0, .int .i64 0] 44 (0, 0))) ∧ Aside0 (wc.heap[gb132]? = some (.cells #[.int .u32 t129, .int .i64 t130] 42 (0, 0))) ∧ Aside0 (Below w.heap.size w wc))
        case first =>
         have H := HC10.out;clear HC10
         by_cases c20 : (rdOf ByteArray.empty l0 4).toList = ([100, 114, 111, 112] : List UInt8)
         ·rw [if_pos c20] at H
          have c20b0 : ((rdOf ByteArray.empty l0 4).toList == ([100, 114, 111, 112] : List UInt8)) = true := beq_iff_eq.mpr c20;have c20b1 : ((rdOf ByteArray.empty l0 4).toList != ([100, 114, 111, 112] : List UInt8)) = false := bne_eq_false_iff_eq.mpr c20;clear c20;(first | rw [c20b0] | (simp only [i64_w, i32_w]; rw [c20b0]) | skip);have H' := Aside0.mk H;clear H;go_wp2;go_meet
          case rel => exact ⟨_, (y136), H', ⟨by first | omega | exact Nat.le_refl _⟩, ⟨rp HO138⟩, ⟨bkp⟩, ⟨bkp⟩, ⟨by repeat (first | (with_reducible first | exact HB.out | apply below_alloc | apply pw_below_drewN | apply below_drew1 | refine below_set ?_ GE127.out | refine below_set ?_ GE132.out) | exact HB.out)⟩⟩
         ·rw [if_neg c20] at H
          have c20b0 : ((rdOf ByteArray.empty l0 4).toList == ([100, 114, 111, 112] : List UInt8)) = false := beq_eq_false_iff_ne.mpr c20;have c20b1 : ((rdOf ByteArray.empty l0 4).toList != ([100, 114, 111, 112] : List UInt8)) = true := bne_iff_ne.mpr c20;(first | rw [c20b0] | (simp only [i64_w, i32_w]; rw [c20b0]) | skip)
          by_cases c21 : y136.length < 8796093022208
          ·rw [if_pos c21] at H
           have LMc21 := Aside0.mk c21;clear c21;obtain ⟨y141, hy141⟩ : ∃ y_ : List ByteArray, y_ = (y136 ++ [rdOf ByteArray.empty l0 4]) := ⟨_, rfl⟩
           replace H : (script_rule.j0 k y141 (-1) t129 t130) = some (r1, r2, r3, r4, r5, r6, r7) := by first | (rw [hy141]; with_reducible exact H) | (have H2_ := (Option.bind_some _ _).symm.trans H; rw [hy141]; with_reducible exact H2_) | (have H2_ := (Option.bind_some _ _).symm.trans H; with_reducible exact H2_) | with_reducible exact H | (rw [hy141]; exact H) | exact H
           have Ny141 := Aside0.mk hy141;clear hy141;have H' := Aside0.mk H;clear H
           have p140 : 0 ≤ (4 : Int) := (by omega)
           have q140 : 4 < (l0.length : Int) := of_decide_eq_true (by first | (with_reducible assumption) | assumption)
           obtain ⟨ad140, e140, hx140_0⟩ := Kd.at_string HR0.out 4 p140 q140
           obtain rfl : ad128 = ad140 := (by injection e140)
           (try simp only [show (4 : Int).toNat = 4 from rfl, Nat.reduceMul, Nat.reduceEqDiff, Go.Addr.add, ↓reduceIte] at hx140_0)
           have qi140 : (4 < l0.length) = True := eq_true (by omega)
           (try rw [show ((4 : Int)).toNat = 4 from rfl] at hx140_0);replace hx140_0 := mv HB hx140_0;replace p140 := eq_true p140;replace q140 := eq_true q140
           go_wp2_with (first | ((with_reducible refine gate_builtin (b := .append) (xs := #[.tmp 38, .tmp 42]) rfl ?_); at_builtin; refine Kd.R_append Kd.string (w0 := w) w.heap.size rfl (.tmp 38) (.tmp 42) 30 9 (.string ⟨#[]⟩) 16 rfl Tryd.underlying30 info9 rfl (by decide) (by omega) v137 y136 (rdOf ByteArray.empty l0 4) [.string (rdOf ByteArray.empty l0 4)] (fun _ => True) (fun _ => False) rfl rfl ?aP (fun _ hk => hk.elim) ?aF ?aO ?aB ?aS ?aL ?_; (case aP => exact rfl); (case aB => exact (bel HB)); (case aF => exact (fun _ _ => trivial)); (case aO => exact (rp HO138)); (case aS => exact (below_size (bel HB))); (case aL => have := LMc21.out; omega); intro v142 w22 ho hb hg hat; rw [← Ny141.out] at ho; have n0_ := Aside0.mk (blk_grown (g := gb127) (o := .cells #[.int .i64 0, .int .i64 0, .int .u32 0, .int .i64 0, .int .i64 0, .int .i64 0] 44 (0, 0)) bkp hg (Kd.R_ne HO138.out BK127.out (by decide))); have n1_ := Aside0.mk (blk_grown (g := gb132) (o := .cells #[.int .u32 t129, .int .i64 t130] 42 (0, 0)) bkp hg (Kd.R_ne HO138.out BK132.out (by decide))); have n2_ := Aside0.mk (hb); have n3_ := Aside0.mk (ho); clear BK127; clear BK132; clear HB; clear HO138; have BK127 := n0_; have BK132 := n1_; have HB := n2_; have HO143 := n3_; clear n0_ n1_ n2_ n3_; clear ho hb hg hat))
           go_meet
           case rel => exact ⟨_, (y141), H', ⟨by first | omega | exact Nat.le_refl _⟩, ⟨rp HO143⟩, ⟨bkp⟩, ⟨bkp⟩, ⟨by repeat (first | (with_reducible first | exact HB.out | apply below_alloc | apply pw_below_drewN | apply below_drew1 | refine below_set ?_ GE127.out | refine below_set ?_ GE132.out) | exact HB.out)⟩⟩
          ·rw [if_neg c21] at H
           exact absurd H (by simp)
        case rest =>
         clear HC10
         try clear c1
         try clear p1
         try clear q1
         try clear hx1
         try clear qi1
         try clear c2
         try clear c2b0
         try clear c2b1
         try clear p2
         try clear c3
         try clear c3b0
         try clear c3b1
         try clear c5
         try clear c5b0
         try clear c5b1
         try clear c6
         try clear c6b0
         try clear c6b1
         try clear c7
         try clear c7b0
         try clear c7b1
         try clear c8
         try clear c8b0
         try clear c8b1
         try clear c9
         try clear c9b0
         try clear c9b1
         try clear p12
         try clear q12
         try clear hx12
         try clear qi12
         try clear p13
         try clear q13
         try clear hx13
         try clear qi13
         try clear c14
         try clear p14
         try clear q14
         try clear hx14
         try clear qi14
         try clear c20
         try clear c20b0
         try clear c20b1
         try clear c21
         try clear hcz15
         try clear hx128_0
         try clear hx133_0
         try clear hx134_0
         try clear hx135_0
         try clear hx139_0
         try clear hx140_0
         try clear p128
         try clear p133
         try clear p134
         try clear p135
         try clear p139
         try clear p140
         try clear q128
         try clear q133
         try clear q134
         try clear q135
         try clear q139
         try clear q140
         obtain ⟨kq, x6_9, HA, HJ9, HO_6, BK127, BK132, HB⟩ := hcut
         cases kq with
         | zero => exact absurd HA.out (by simp [script_rule.j0])
         | succ kj9 =>
          have H := HA.out;clear HA;simp only [script_rule.j0] at H;replace H := Option.bind_eq_some_iff.mp H;obtain ⟨⟨t144, t145⟩, A230, H⟩ := H;replace H : (if t145 = 0 then (if (t144.length : Int) = 4 then (if 3 < (t144.length : Int) then (if 0 < (t144.length : Int) then (if 1 < (t144.length : Int) then (if 2 < (t144.length : Int) then (some (rd t144 0, rd t144 1, t129, t130, rd t144 2, rd t144 3, 0)) else (none)) else (none)) else (none)) else (none)) else (if 0 < (t144.length : Int) then (if 1 < (t144.length : Int) then (if 2 < (t144.length : Int) then (some (rd t144 0, rd t144 1, t129, t130, rd t144 2, (-1), 0)) else (none)) else (none)) else (none))) else (some (0, 0, 0, 0, 0, 0, t145))) = some (r1, r2, r3, r4, r5, r6, r7) := H;have A23 := Aside0.mk A230;clear A230
          by_cases c24 : t145 = 0
          ·rw [if_pos c24] at H
           have c24b0 : (t145 == 0) = true := beq_iff_eq.mpr c24;have c24b1 : (t145 != 0) = false := bne_eq_false_iff_eq.mpr c24;clear c24
           by_cases c25 : (t144.length : Int) = 4
           ·rw [if_pos c25] at H
            have c25b0 : ((t144.length : Int) == 4) = true := beq_iff_eq.mpr c25;have c25b1 : ((t144.length : Int) != 4) = false := bne_eq_false_iff_eq.mpr c25;clear c25
            by_cases c26 : 3 < (t144.length : Int)
            ·rw [if_pos c26] at H
             have c26b0 : decide (3 < (t144.length : Int)) = true := decide_eq_true c26
             have c26b1 : decide (3 < t144.length) = true := decide_eq_true (by omega)
             clear c26
             by_cases c27 : 0 < (t144.length : Int)
             ·rw [if_pos c27] at H
              have c27b0 : decide (0 < (t144.length : Int)) = true := decide_eq_true c27
              have c27b1 : decide (0 < t144.length) = true := decide_eq_true (by omega)
              clear c27
              by_cases c28 : 1 < (t144.length : Int)
              ·rw [if_pos c28] at H
               have c28b0 : decide (1 < (t144.length : Int)) = true := decide_eq_true c28
               have c28b1 : decide (1 < t144.length) = true := decide_eq_true (by omega)
               clear c28
               by_cases c29 : 2 < (t144.length : Int)
               ·rw [if_pos c29] at H
                have c29b0 : decide (2 < (t144.length : Int)) = true := decide_eq_true c29
                have c29b1 : decide (2 < t144.length) = true := decide_eq_true (by omega)
                clear c29;simp only [Option.some.injEq, Prod.mk.injEq] at H;obtain ⟨rfl, rfl, rfl, rfl, rfl, rfl, rfl⟩ := H;obtain ⟨Ao30, co30, eo30⟩ := Kd.R_slice HO_6.out;subst eo30
                try go_wp2_with (first | ((with_reducible refine gate_callee (f := 108) rfl ?_); refine goesL_ (some 46) rfl rfl Tryd.func108 (by kernel_rfl) rfl #[.slice Ao30 x6_9.length co30] rfl aok ?_; (with_reducible refine (script_numbers.calls kj9 _ _ x6_9 t144 t145 _ ?side1 ?side2 A23.out).mono ?_); (case side1 => repeat (first | exact (Kd.R_reads' HO_6.out).2.2 | (with_reducible refine Kd.C_alloc ?_ _) | (with_reducible refine Kd.C_drewN ?_ _) | (with_reducible refine Kd.C_drew ?_))); (case side2 => exact (Kd.R_reads' HO_6.out).2.1); rintro e w31 ⟨v146, rfl, ho0, hb⟩; refine ⟨_, rfl, ?_⟩; have n0_ := Aside0.mk (Kd.R_below (rp HO_6) hb); have n1_ := Aside0.mk (Kd.R_lower ho0 (below_size (bel HB))); have n2_ := Aside0.mk (bb BK127.out hb); have n3_ := Aside0.mk (bb BK132.out hb); have n4_ := Aside0.mk (below_step (bel HB) hb); clear HO_6; clear BK127; clear BK132; clear HB; have HO_6 := n0_; have HO147 := n1_; have BK127 := n2_; have BK132 := n3_; have HB := n4_; clear n0_ n1_ n2_ n3_ n4_; (try clear hb); (try clear hb2); (try clear hk); (try clear hi); (try clear ho0); obtain ⟨Ao32, co32, eo32⟩ := Kd.R_slice HO147.out; subst eo32; have p148 : 0 ≤ (3 : Int) := (by omega); have q148 : 3 < (t144.length : Int) := of_decide_eq_true (by first | (with_reducible assumption) | assumption); obtain ⟨ad148, e148, hx148_0⟩ := Kd.at_int (Kd.R_reads' HO147.out).2.2 3 p148 q148; cases e148; (try simp only [show (3 : Int).toNat = 3 from rfl, Nat.reduceMul, Nat.reduceEqDiff, Go.Addr.add, ↓reduceIte] at hx148_0); have qi148 : (3 < t144.length) = True := eq_true (by omega); (try rw [show ((3 : Int)).toNat = 3 from rfl] at hx148_0); replace p148 := eq_true p148; replace q148 := eq_true q148))
                replace HO_6 := Aside0.mk (Kd.R_drew HO_6.out);replace HO147 := Aside0.mk (Kd.R_drew HO147.out);replace BK127 := Aside0.mk (blk_drew BK127.out);replace BK132 := Aside0.mk (blk_drew BK132.out);replace HB := Aside0.mk (below_drew1 HB.out)
                have p149 : 0 ≤ (0 : Int) := (by omega)
                have q149 : 0 < (t144.length : Int) := of_decide_eq_true (by first | (with_reducible assumption) | assumption)
                obtain ⟨ad149, e149, hx149_0⟩ := Kd.at_int (Kd.R_reads' HO147.out).2.2 0 p149 q149
                obtain rfl : ad148 = ad149 := (by injection e149)
                have qi149 : (0 < t144.length) = True := eq_true (by omega)
                (try rw [show ((0 : Int)).toNat = 0 from rfl] at hx149_0);(try rw [Addr.add_zero'] at hx149_0);replace p149 := eq_true p149;replace q149 := eq_true q149
                have p150 : 0 ≤ (1 : Int) := (by omega)
                have q150 : 1 < (t144.length : Int) := of_decide_eq_true (by first | (with_reducible assumption) | assumption)
                obtain ⟨ad150, e150, hx150_0⟩ := Kd.at_int (Kd.R_reads' HO147.out).2.2 1 p150 q150
                obtain rfl : ad148 = ad150 := (by injection e150)
                (try simp only [show (1 : Int).toNat = 1 from rfl, Nat.reduceMul, Nat.reduceEqDiff, Go.Addr.add, ↓reduceIte] at hx150_0)
                have qi150 : (1 < t144.length) = True := eq_true (by omega)
                (try rw [show ((1 : Int)).toNat = 1 from rfl] at hx150_0);replace p150 := eq_true p150;replace q150 := eq_true q150
                have p151 : 0 ≤ (2 : Int) := (by omega)
                have q151 : 2 < (t144.length : Int) := of_decide_eq_true (by first | (with_reducible assumption) | assumption)
                obtain ⟨ad151, e151, hx151_0⟩ := Kd.at_int (Kd.R_reads' HO147.out).2.2 2 p151 q151
                obtain rfl : ad148 = ad151 := (by injection e151)
                (try simp only [show (2 : Int).toNat = 2 from rfl, Nat.reduceMul, Nat.reduceEqDiff, Go.Addr.add, ↓reduceIte] at hx151_0)
                have qi151 : (2 < t144.length) = True := eq_true (by omega)
                (try rw [show ((2 : Int)).toNat = 2 from rfl] at hx151_0);replace p151 := eq_true p151;replace q151 := eq_true q151
                refine start_ (n := 14) (S := fun w' => w'.cell? ⟨gb132, 0, none⟩ = some (.int .u32 t129) ∧ w'.cell? ⟨gb132, 1, none⟩ = some (.int .i64 t130) ∧ w'.cell? ad148 = some (.int .i64 (rd t144 0)) ∧ w'.cell? ⟨ad148.block, ad148.off + 1, none⟩ = some (.int .i64 (rd t144 1)) ∧ w'.cell? ⟨ad148.block, ad148.off + 2, none⟩ = some (.int .i64 (rd t144 2))) (ds := []) #[F,F,F,F,F,F,F,F,F,F,F,F,F,F] (by kernel_rfl) rfl rfl ⟨(blk_cell BK132.out 0).trans rfl, (blk_cell BK132.out 1).trans rfl, hx149_0, hx150_0, hx151_0⟩ (fun hHeld => ?_); refine with_tabW script_rule.tab15 script_rule.bits15 (fun HT_ HW_ => ?_)
                generalize w31.drew = w33 at HO_6 HO147 BK127 BK132 HB hx149_0 hx150_0 hx151_0 hHeld ⊢
                refine pu 0 (some 59) #[T,F,F,F,F,F,F,F,F,F,F,F,F,F] (any_of HT_.out (by kernel_rfl)) ?_
                refine pu 1 (some 60) #[T,T,F,F,F,F,F,F,F,F,F,F,F,F] (any_of HT_.out (by kernel_rfl)) ?_
                refine pu 3 (some 62) #[T,T,F,T,F,F,F,F,F,F,F,F,F,F] (any_of HT_.out (by kernel_rfl)) ?_
                refine pu 4 (some 63) #[T,T,F,T,T,F,F,F,F,F,F,F,F,F] (any_of HT_.out (by kernel_rfl)) ?_
                refine pu 7 (some 66) #[T,T,F,T,T,F,F,T,F,F,F,F,F,F] (any_of HT_.out (by kernel_rfl)) ?_
                refine pu 8 (some 67) #[T,T,F,T,T,F,F,T,T,F,F,F,F,F] (any_of HT_.out (by kernel_rfl)) ?_
                refine pu 10 (some 69) #[T,T,F,T,T,F,F,T,T,F,T,F,F,F] (any_of HT_.out (by kernel_rfl)) ?_
                refine take_ (i := 2) (N := some 61) (v := ?_) (a' := ?_) #[T,T,T,T,T,F,F,T,T,F,T,F,F,F] rfl rfl (take_ofW HT_.out HW_.out (by kernel_rfl)) (fun _ _ _ h => h) (Or.inl ⟨by rfl, ?_⟩) hHeld ?_ ?_
                rotate_left
                ·rintro w' ⟨s0, s1, s2, s3, s4⟩
                 go_simp;with_reducible rfl
                rotate_left;·simp only [Act.put, setIfInBounds_toArray, set_cons_zero, set_cons_succ, i64_w, i32_w];rfl
                refine take_ (i := 5) (N := some 64) (v := ?_) (a' := ?_) #[T,T,T,T,T,T,F,T,T,F,T,F,F,F] rfl rfl (take_ofW HT_.out HW_.out (by kernel_rfl)) (fun _ _ _ h => h) (Or.inl ⟨by rfl, ?_⟩) hHeld ?_ ?_
                rotate_left
                ·rintro w' ⟨s0, s1, s2, s3, s4⟩
                 go_simp;with_reducible rfl
                rotate_left;·simp only [Act.put, setIfInBounds_toArray, set_cons_zero, set_cons_succ, i64_w, i32_w];rfl
                refine take_ (i := 6) (N := some 65) (v := ?_) (a' := ?_) #[T,T,T,T,T,T,T,T,T,F,T,F,F,F] rfl rfl (take_ofW HT_.out HW_.out (by kernel_rfl)) (fun _ _ _ h => h) (Or.inl ⟨by rfl, ?_⟩) hHeld ?_ ?_
                rotate_left
                ·rintro w' ⟨s0, s1, s2, s3, s4⟩
                 go_simp;with_reducible rfl
                rotate_left;·simp only [Act.put, setIfInBounds_toArray, set_cons_zero, set_cons_succ, i64_w, i32_w];rfl
                refine take_ (i := 9) (N := some 68) (v := ?_) (a' := ?_) #[T,T,T,T,T,T,T,T,T,T,T,F,F,F] rfl rfl (take_ofW HT_.out HW_.out (by kernel_rfl)) (fun _ _ _ h => h) (Or.inl ⟨by rfl, ?_⟩) hHeld ?_ ?_
                rotate_left
                ·rintro w' ⟨s0, s1, s2, s3, s4⟩
                 go_simp;with_reducible rfl
                rotate_left;·simp only [Act.put, setIfInBounds_toArray, set_cons_zero, set_cons_succ, i64_w, i32_w];rfl
                refine pu 11 (some 70) #[T,T,T,T,T,T,T,T,T,T,T,T,F,F] (any_of HT_.out (by kernel_rfl)) ?_
                refine one_ (i := 12) (N := none) #[T,T,T,T,T,T,T,T,T,T,T,T,T,F] rfl rfl (one_of HT_.out (by kernel_rfl)) (by decide) (fun K hK => ?_)
                have hs34 : w33.cell? ⟨gb127, 0, none⟩ = some (.int .i64 0) := (blk_cell BK127.out 0).trans rfl;have hfs34 := blk_frozen BK127.out 0;have hns34_1 := NB132_127.out;have hms34_1 := NB127_132.out;have hs35 : w33.cell? ⟨gb127, 1, none⟩ = some (.int .i64 0) := (blk_cell BK127.out 1).trans rfl;have hfs35 := blk_frozen BK127.out 1;have hns35_1 := NB132_127.out;have hms35_1 := NB127_132.out;have hs36 : w33.cell? ⟨gb127, 2, none⟩ = some (.int .u32 0) := (blk_cell BK127.out 2).trans rfl;have hfs36 := blk_frozen BK127.out 2;have hns36_1 := NB132_127.out;have hms36_1 := NB127_132.out;have hs37 : w33.cell? ⟨gb127, 3, none⟩ = some (.int .i64 0) := (blk_cell BK127.out 3).trans rfl;have hfs37 := blk_frozen BK127.out 3;have hns37_1 := NB132_127.out;have hms37_1 := NB127_132.out;have hs38 : w33.cell? ⟨gb127, 4, none⟩ = some (.int .i64 0) := (blk_cell BK127.out 4).trans rfl;have hfs38 := blk_frozen BK127.out 4;have hns38_1 := NB132_127.out;have hms38_1 := NB127_132.out;have hs39 : w33.cell? ⟨gb127, 5, none⟩ = some (.int .i64 0) := (blk_cell BK127.out 5).trans rfl;have hfs39 := blk_frozen BK127.out 5;have hns39_1 := NB132_127.out;have hms39_1 := NB127_132.out
                refine skip_ (w1 := ?_) (by rfl) rfl ?_ ?_
                rotate_left
                ·go_simp
                 rfl
                have FB0_ := Aside0.mk (Kd.own_blk (Kd.R_ne HO147.out BK127.out (by decide)))
                refine hK.out _ _ ⟨((cell_far (p := ⟨gb127, _, none⟩) NB132_127.out _).trans (((cell_far (p := ⟨gb127, _, none⟩) NB132_127.out _).trans (((cell_far (p := ⟨gb127, _, none⟩) NB132_127.out _).trans (((cell_far (p := ⟨gb127, _, none⟩) NB132_127.out _).trans (((cell_far (p := ⟨gb127, _, none⟩) NB132_127.out _).trans (((cell_far (p := ⟨gb127, _, none⟩) NB132_127.out _).trans (hHeld.1)))))))))))), ((cell_far (p := ⟨gb127, _, none⟩) NB132_127.out _).trans (((cell_far (p := ⟨gb127, _, none⟩) NB132_127.out _).trans (((cell_far (p := ⟨gb127, _, none⟩) NB132_127.out _).trans (((cell_far (p := ⟨gb127, _, none⟩) NB132_127.out _).trans (((cell_far (p := ⟨gb127, _, none⟩) NB132_127.out _).trans (((cell_far (p := ⟨gb127, _, none⟩) NB132_127.out _).trans (hHeld.2.1)))))))))))), ((cell_far (p := ⟨gb127, _, none⟩) (by first | exact FB0_.out | (rw [add_block]; exact FB0_.out) | (show (Addr.add _ _).block ≠ _; rw [add_block]; exact FB0_.out)) _).trans (((cell_far (p := ⟨gb127, _, none⟩) (by first | exact FB0_.out | (rw [add_block]; exact FB0_.out) | (show (Addr.add _ _).block ≠ _; rw [add_block]; exact FB0_.out)) _).trans (((cell_far (p := ⟨gb127, _, none⟩) (by first | exact FB0_.out | (rw [add_block]; exact FB0_.out) | (show (Addr.add _ _).block ≠ _; rw [add_block]; exact FB0_.out)) _).trans (((cell_far (p := ⟨gb127, _, none⟩) (by first | exact FB0_.out | (rw [add_block]; exact FB0_.out) | (show (Addr.add _ _).block ≠ _; rw [add_block]; exact FB0_.out)) _).trans (((cell_far (p := ⟨gb127, _, none⟩) (by first | exact FB0_.out | (rw [add_block]; exact FB0_.out) | (show (Addr.add _ _).block ≠ _; rw [add_block]; exact FB0_.out)) _).trans (((cell_far (p := ⟨gb127, _, none⟩) (by first | exact FB0_.out | (rw [add_block]; exact FB0_.out) | (show (Addr.add _ _).block ≠ _; rw [add_block]; exact FB0_.out)) _).trans (hHeld.2.2.1)))))))))))), ((cell_far (p := ⟨gb127, _, none⟩) (by first | exact FB0_.out | (rw [add_block]; exact FB0_.out) | (show (Addr.add _ _).block ≠ _; rw [add_block]; exact FB0_.out)) _).trans (((cell_far (p := ⟨gb127, _, none⟩) (by first | exact FB0_.out | (rw [add_block]; exact FB0_.out) | (show (Addr.add _ _).block ≠ _; rw [add_block]; exact FB0_.out)) _).trans (((cell_far (p := ⟨gb127, _, none⟩) (by first | exact FB0_.out | (rw [add_block]; exact FB0_.out) | (show (Addr.add _ _).block ≠ _; rw [add_block]; exact FB0_.out)) _).trans (((cell_far (p := ⟨gb127, _, none⟩) (by first | exact FB0_.out | (rw [add_block]; exact FB0_.out) | (show (Addr.add _ _).block ≠ _; rw [add_block]; exact FB0_.out)) _).trans (((cell_far (p := ⟨gb127, _, none⟩) (by first | exact FB0_.out | (rw [add_block]; exact FB0_.out) | (show (Addr.add _ _).block ≠ _; rw [add_block]; exact FB0_.out)) _).trans (((cell_far (p := ⟨gb127, _, none⟩) (by first | exact FB0_.out | (rw [add_block]; exact FB0_.out) | (show (Addr.add _ _).block ≠ _; rw [add_block]; exact FB0_.out)) _).trans (hHeld.2.2.2.1)))))))))))), ((cell_far (p := ⟨gb127, _, none⟩) (by first | exact FB0_.out | (rw [add_block]; exact FB0_.out) | (show (Addr.add _ _).block ≠ _; rw [add_block]; exact FB0_.out)) _).trans (((cell_far (p := ⟨gb127, _, none⟩) (by first | exact FB0_.out | (rw [add_block]; exact FB0_.out) | (show (Addr.add _ _).block ≠ _; rw [add_block]; exact FB0_.out)) _).trans (((cell_far (p := ⟨gb127, _, none⟩) (by first | exact FB0_.out | (rw [add_block]; exact FB0_.out) | (show (Addr.add _ _).block ≠ _; rw [add_block]; exact FB0_.out)) _).trans (((cell_far (p := ⟨gb127, _, none⟩) (by first | exact FB0_.out | (rw [add_block]; exact FB0_.out) | (show (Addr.add _ _).block ≠ _; rw [add_block]; exact FB0_.out)) _).trans (((cell_far (p := ⟨gb127, _, none⟩) (by first | exact FB0_.out | (rw [add_block]; exact FB0_.out) | (show (Addr.add _ _).block ≠ _; rw [add_block]; exact FB0_.out)) _).trans (((cell_far (p := ⟨gb127, _, none⟩) (by first | exact FB0_.out | (rw [add_block]; exact FB0_.out) | (show (Addr.add _ _).block ≠ _; rw [add_block]; exact FB0_.out)) _).trans (hHeld.2.2.2.2))))))))))))⟩ (fun hHeld => ?_)
                clear hK K
                refine pu 13 (some 3) #[T,T,T,T,T,T,T,T,T,T,T,T,T,T] (any_of HT_.out (by kernel_rfl)) ?_
                refine done_ (done_of HT_.out (by kernel_rfl)) ?_
                try go_wp2
                refine bodyPost_ret (results_ct rfl _ _ gb127 44 #[.int .i64 (rd t144 0), .int .i64 (rd t144 1), .int .u32 t129, .int .i64 t130, .int .i64 (rd t144 2), .int .i64 (rd t144 3)] (0, 0) _ rfl bkp Tryd.underlying44 rfl (by kernel_rfl)) rfl ?_
                exact ⟨fin, bel HB⟩
               ·rw [if_neg c29] at H
                exact absurd H (by simp)
              ·rw [if_neg c28] at H
               exact absurd H (by simp)
             ·rw [if_neg c27] at H
              exact absurd H (by simp)
            ·rw [if_neg c26] at H
             exact absurd H (by simp)
           ·rw [if_neg c25] at H
            have c25b0 : ((t144.length : Int) == 4) = false := beq_eq_false_iff_ne.mpr c25;have c25b1 : ((t144.length : Int) != 4) = true := bne_iff_ne.mpr c25
            by_cases c40 : 0 < (t144.length : Int)
            ·rw [if_pos c40] at H
             have c40b0 : decide (0 < (t144.length : Int)) = true := decide_eq_true c40
             have c40b1 : decide (0 < t144.length) = true := decide_eq_true (by omega)
             clear c40
             by_cases c41 : 1 < (t144.length : Int)
             ·rw [if_pos c41] at H
              have c41b0 : decide (1 < (t144.length : Int)) = true := decide_eq_true c41
              have c41b1 : decide (1 < t144.length) = true := decide_eq_true (by omega)
              clear c41
              by_cases c42 : 2 < (t144.length : Int)
              ·rw [if_pos c42] at H
               have c42b0 : decide (2 < (t144.length : Int)) = true := decide_eq_true c42
               have c42b1 : decide (2 < t144.length) = true := decide_eq_true (by omega)
               clear c42;simp only [Option.some.injEq, Prod.mk.injEq] at H;obtain ⟨rfl, rfl, rfl, rfl, rfl, rfl, rfl⟩ := H;obtain ⟨Ao43, co43, eo43⟩ := Kd.R_slice HO_6.out;subst eo43
               try go_wp2_with (first | ((with_reducible refine gate_callee (f := 108) rfl ?_); refine goesL_ (some 46) rfl rfl Tryd.func108 (by kernel_rfl) rfl #[.slice Ao43 x6_9.length co43] rfl aok ?_; (with_reducible refine (script_numbers.calls kj9 _ _ x6_9 t144 t145 _ ?side1 ?side2 A23.out).mono ?_); (case side1 => repeat (first | exact (Kd.R_reads' HO_6.out).2.2 | (with_reducible refine Kd.C_alloc ?_ _) | (with_reducible refine Kd.C_drewN ?_ _) | (with_reducible refine Kd.C_drew ?_))); (case side2 => exact (Kd.R_reads' HO_6.out).2.1); rintro e w44 ⟨v146, rfl, ho0, hb⟩; refine ⟨_, rfl, ?_⟩; have n0_ := Aside0.mk (Kd.R_below (rp HO_6) hb); have n1_ := Aside0.mk (Kd.R_lower ho0 (below_size (bel HB))); have n2_ := Aside0.mk (bb BK127.out hb); have n3_ := Aside0.mk (bb BK132.out hb); have n4_ := Aside0.mk (below_step (bel HB) hb); clear HO_6; clear BK127; clear BK132; clear HB; have HO_6 := n0_; have HO147 := n1_; have BK127 := n2_; have BK132 := n3_; have HB := n4_; clear n0_ n1_ n2_ n3_ n4_; (try clear hb); (try clear hb2); (try clear hk); (try clear hi); (try clear ho0); obtain ⟨Ao45, co45, eo45⟩ := Kd.R_slice HO147.out; subst eo45))
               replace HO_6 := Aside0.mk (Kd.R_drew HO_6.out);replace HO147 := Aside0.mk (Kd.R_drew HO147.out);replace BK127 := Aside0.mk (blk_drew BK127.out);replace BK132 := Aside0.mk (blk_drew BK132.out);replace HB := Aside0.mk (below_drew1 HB.out)
               have p152 : 0 ≤ (0 : Int) := (by omega)
               have q152 : 0 < (t144.length : Int) := of_decide_eq_true (by first | (with_reducible assumption) | assumption)
               obtain ⟨ad152, e152, hx152_0⟩ := Kd.at_int (Kd.R_reads' HO147.out).2.2 0 p152 q152
               cases e152
               have qi152 : (0 < t144.length) = True := eq_true (by omega)
               (try rw [show ((0 : Int)).toNat = 0 from rfl] at hx152_0);(try rw [Addr.add_zero'] at hx152_0);replace p152 := eq_true p152;replace q152 := eq_true q152
               have p153 : 0 ≤ (1 : Int) := (by omega)
               have q153 : 1 < (t144.length : Int) := of_decide_eq_true (by first | (with_reducible assumption) | assumption)
               obtain ⟨ad153, e153, hx153_0⟩ := Kd.at_int (Kd.R_reads' HO147.out).2.2 1 p153 q153
               obtain rfl : ad152 = ad153 := (by injection e153)
               (try simp only [show (1 : Int).toNat = 1 from rfl, Nat.reduceMul, Nat.reduceEqDiff, Go.Addr.add, ↓reduceIte] at hx153_0)
               have qi153 : (1 < t144.length) = True := eq_true (by omega)
               (try rw [show ((1 : Int)).toNat = 1 from rfl] at hx153_0);replace p153 := eq_true p153;replace q153 := eq_true q153
               have p154 : 0 ≤ (2 : Int) := (by omega)
               have q154 : 2 < (t144.length : Int) := of_decide_eq_true (by first | (with_reducible assumption) | assumption)
               obtain ⟨ad154, e154, hx154_0⟩ := Kd.at_int (Kd.R_reads' HO147.out).2.2 2 p154 q154
               obtain rfl : ad152 = ad154 := (by injection e154)
               (try simp only [show (2 : Int).toNat = 2 from rfl, Nat.reduceMul, Nat.reduceEqDiff, Go.Addr.add, ↓reduceIte] at hx154_0)
               have qi154 : (2 < t144.length) = True := eq_true (by omega)
               (try rw [show ((2 : Int)).toNat = 2 from rfl] at hx154_0);replace p154 := eq_true p154;replace q154 := eq_true q154
               refine start_ (n := 14) (S := fun w' => w'.cell? ⟨gb132, 0, none⟩ = some (.int .u32 t129) ∧ w'.cell? ⟨gb132, 1, none⟩ = some (.int .i64 t130) ∧ w'.cell? ad152 = some (.int .i64 (rd t144 0)) ∧ w'.cell? ⟨ad152.block, ad152.off + 1, none⟩ = some (.int .i64 (rd t144 1)) ∧ w'.cell? ⟨ad152.block, ad152.off + 2, none⟩ = some (.int .i64 (rd t144 2))) (ds := []) #[F,F,F,F,F,F,F,F,F,F,F,F,F,F] (by kernel_rfl) rfl rfl ⟨(blk_cell BK132.out 0).trans rfl, (blk_cell BK132.out 1).trans rfl, hx152_0, hx153_0, hx154_0⟩ (fun hHeld => ?_); refine with_tabW script_rule.tab15 script_rule.bits15 (fun HT_ HW_ => ?_)
               generalize w44.drew = w46 at HO_6 HO147 BK127 BK132 HB hx152_0 hx153_0 hx154_0 hHeld ⊢
               refine pu 0 (some 59) #[T,F,F,F,F,F,F,F,F,F,F,F,F,F] (any_of HT_.out (by kernel_rfl)) ?_
               refine pu 1 (some 60) #[T,T,F,F,F,F,F,F,F,F,F,F,F,F] (any_of HT_.out (by kernel_rfl)) ?_
               refine pu 3 (some 62) #[T,T,F,T,F,F,F,F,F,F,F,F,F,F] (any_of HT_.out (by kernel_rfl)) ?_
               refine pu 4 (some 63) #[T,T,F,T,T,F,F,F,F,F,F,F,F,F] (any_of HT_.out (by kernel_rfl)) ?_
               refine pu 7 (some 66) #[T,T,F,T,T,F,F,T,F,F,F,F,F,F] (any_of HT_.out (by kernel_rfl)) ?_
               refine pu 8 (some 67) #[T,T,F,T,T,F,F,T,T,F,F,F,F,F] (any_of HT_.out (by kernel_rfl)) ?_
               refine pu 10 (some 69) #[T,T,F,T,T,F,F,T,T,F,T,F,F,F] (any_of HT_.out (by kernel_rfl)) ?_
               refine take_ (i := 2) (N := some 61) (v := ?_) (a' := ?_) #[T,T,T,T,T,F,F,T,T,F,T,F,F,F] rfl rfl (take_ofW HT_.out HW_.out (by kernel_rfl)) (fun _ _ _ h => h) (Or.inl ⟨by rfl, ?_⟩) hHeld ?_ ?_
               rotate_left
               ·rintro w' ⟨s0, s1, s2, s3, s4⟩
                go_simp;with_reducible rfl
               rotate_left;·simp only [Act.put, setIfInBounds_toArray, set_cons_zero, set_cons_succ, i64_w, i32_w];rfl
               refine take_ (i := 5) (N := some 64) (v := ?_) (a' := ?_) #[T,T,T,T,T,T,F,T,T,F,T,F,F,F] rfl rfl (take_ofW HT_.out HW_.out (by kernel_rfl)) (fun _ _ _ h => h) (Or.inl ⟨by rfl, ?_⟩) hHeld ?_ ?_
               rotate_left
               ·rintro w' ⟨s0, s1, s2, s3, s4⟩
                go_simp;with_reducible rfl
               rotate_left;·simp only [Act.put, setIfInBounds_toArray, set_cons_zero, set_cons_succ, i64_w, i32_w];rfl
               refine take_ (i := 6) (N := some 65) (v := ?_) (a' := ?_) #[T,T,T,T,T,T,T,T,T,F,T,F,F,F] rfl rfl (take_ofW HT_.out HW_.out (by kernel_rfl)) (fun _ _ _ h => h) (Or.inl ⟨by rfl, ?_⟩) hHeld ?_ ?_
               rotate_left
               ·rintro w' ⟨s0, s1, s2, s3, s4⟩
                go_simp;with_reducible rfl
               rotate_left;·simp only [Act.put, setIfInBounds_toArray, set_cons_zero, set_cons_succ, i64_w, i32_w];rfl
               refine take_ (i := 9) (N := some 68) (v := ?_) (a' := ?_) #[T,T,T,T,T,T,T,T,T,T,T,F,F,F] rfl rfl (take_ofW HT_.out HW_.out (by kernel_rfl)) (fun _ _ _ h => h) (Or.inl ⟨by rfl, ?_⟩) hHeld ?_ ?_
               rotate_left
               ·rintro w' ⟨s0, s1, s2, s3, s4⟩
                go_simp;with_reducible rfl
               rotate_left;·simp only [Act.put, setIfInBounds_toArray, set_cons_zero, set_cons_succ, i64_w, i32_w];rfl
               refine pu 11 (some 70) #[T,T,T,T,T,T,T,T,T,T,T,T,F,F] (any_of HT_.out (by kernel_rfl)) ?_
               refine one_ (i := 12) (N := none) #[T,T,T,T,T,T,T,T,T,T,T,T,T,F] rfl rfl (one_of HT_.out (by kernel_rfl)) (by decide) (fun K hK => ?_)
               have hs47 : w46.cell? ⟨gb127, 0, none⟩ = some (.int .i64 0) := (blk_cell BK127.out 0).trans rfl;have hfs47 := blk_frozen BK127.out 0;have hns47_1 := NB132_127.out;have hms47_1 := NB127_132.out;have hs48 : w46.cell? ⟨gb127, 1, none⟩ = some (.int .i64 0) := (blk_cell BK127.out 1).trans rfl;have hfs48 := blk_frozen BK127.out 1;have hns48_1 := NB132_127.out;have hms48_1 := NB127_132.out;have hs49 : w46.cell? ⟨gb127, 2, none⟩ = some (.int .u32 0) := (blk_cell BK127.out 2).trans rfl;have hfs49 := blk_frozen BK127.out 2;have hns49_1 := NB132_127.out;have hms49_1 := NB127_132.out;have hs50 : w46.cell? ⟨gb127, 3, none⟩ = some (.int .i64 0) := (blk_cell BK127.out 3).trans rfl;have hfs50 := blk_frozen BK127.out 3;have hns50_1 := NB132_127.out;have hms50_1 := NB127_132.out;have hs51 : w46.cell? ⟨gb127, 4, none⟩ = some (.int .i64 0) := (blk_cell BK127.out 4).trans rfl;have hfs51 := blk_frozen BK127.out 4;have hns51_1 := NB132_127.out;have hms51_1 := NB127_132.out;have hs52 : w46.cell? ⟨gb127, 5, none⟩ = some (.int .i64 0) := (blk_cell BK127.out 5).trans rfl;have hfs52 := blk_frozen BK127.out 5;have hns52_1 := NB132_127.out;have hms52_1 := NB127_132.out
               refine skip_ (w1 := ?_) (by rfl) rfl ?_ ?_
               rotate_left
               ·go_simp
                rfl
               have FB0_ := Aside0.mk (Kd.own_blk (Kd.R_ne HO147.out BK127.out (by decide)))
               refine hK.out _ _ ⟨((cell_far (p := ⟨gb127, _, none⟩) NB132_127.out _).trans (((cell_far (p := ⟨gb127, _, none⟩) NB132_127.out _).trans (((cell_far (p := ⟨gb127, _, none⟩) NB132_127.out _).trans (((cell_far (p := ⟨gb127, _, none⟩) NB132_127.out _).trans (((cell_far (p := ⟨gb127, _, none⟩) NB132_127.out _).trans (((cell_far (p := ⟨gb127, _, none⟩) NB132_127.out _).trans (hHeld.1)))))))))))), ((cell_far (p := ⟨gb127, _, none⟩) NB132_127.out _).trans (((cell_far (p := ⟨gb127, _, none⟩) NB132_127.out _).trans (((cell_far (p := ⟨gb127, _, none⟩) NB132_127.out _).trans (((cell_far (p := ⟨gb127, _, none⟩) NB132_127.out _).trans (((cell_far (p := ⟨gb127, _, none⟩) NB132_127.out _).trans (((cell_far (p := ⟨gb127, _, none⟩) NB132_127.out _).trans (hHeld.2.1)))))))))))), ((cell_far (p := ⟨gb127, _, none⟩) (by first | exact FB0_.out | (rw [add_block]; exact FB0_.out) | (show (Addr.add _ _).block ≠ _; rw [add_block]; exact FB0_.out)) _).trans (((cell_far (p := ⟨gb127, _, none⟩) (by first | exact FB0_.out | (rw [add_block]; exact FB0_.out) | (show (Addr.add _ _).block ≠ _; rw [add_block]; exact FB0_.out)) _).trans (((cell_far (p := ⟨gb127, _, none⟩) (by first | exact FB0_.out | (rw [add_block]; exact FB0_.out) | (show (Addr.add _ _).block ≠ _; rw [add_block]; exact FB0_.out)) _).trans (((cell_far (p := ⟨gb127, _, none⟩) (by first | exact FB0_.out | (rw [add_block]; exact FB0_.out) | (show (Addr.add _ _).block ≠ _; rw [add_block]; exact FB0_.out)) _).trans (((cell_far (p := ⟨gb127, _, none⟩) (by first | exact FB0_.out | (rw [add_block]; exact FB0_.out) | (show (Addr.add _ _).block ≠ _; rw [add_block]; exact FB0_.out)) _).trans (((cell_far (p := ⟨gb127, _, none⟩) (by first | exact FB0_.out | (rw [add_block]; exact FB0_.out) | (show (Addr.add _ _).block ≠ _; rw [add_block]; exact FB0_.out)) _).trans (hHeld.2.2.1)))))))))))), ((cell_far (p := ⟨gb127, _, none⟩) (by first | exact FB0_.out | (rw [add_block]; exact FB0_.out) | (show (Addr.add _ _).block ≠ _; rw [add_block]; exact FB0_.out)) _).trans (((cell_far (p := ⟨gb127, _, none⟩) (by first | exact FB0_.out | (rw [add_block]; exact FB0_.out) | (show (Addr.add _ _).block ≠ _; rw [add_block]; exact FB0_.out)) _).trans (((cell_far (p := ⟨gb127, _, none⟩) (by first | exact FB0_.out | (rw [add_block]; exact FB0_.out) | (show (Addr.add _ _).block ≠ _; rw [add_block]; exact FB0_.out)) _).trans (((cell_far (p := ⟨gb127, _, none⟩) (by first | exact FB0_.out | (rw [add_block]; exact FB0_.out) | (show (Addr.add _ _).block ≠ _; rw [add_block]; exact FB0_.out)) _).trans (((cell_far (p := ⟨gb127, _, none⟩) (by first | exact FB0_.out | (rw [add_block]; exact FB0_.out) | (show (Addr.add _ _).block ≠ _; rw [add_block]; exact FB0_.out)) _).trans (((cell_far (p := ⟨gb127, _, none⟩) (by first | exact FB0_.out | (rw [add_block]; exact FB0_.out) | (show (Addr.add _ _).block ≠ _; rw [add_block]; exact FB0_.out)) _).trans (hHeld.2.2.2.1)))))))))))), ((cell_far (p := ⟨gb127, _, none⟩) (by first | exact FB0_.out | (rw [add_block]; exact FB0_.out) | (show (Addr.add _ _).block ≠ _; rw [add_block]; exact FB0_.out)) _).trans (((cell_far (p := ⟨gb127, _, none⟩) (by first | exact FB0_.out | (rw [add_block]; exact FB0_.out) | (show (Addr.add _ _).block ≠ _; rw [add_block]; exact FB0_.out)) _).trans (((cell_far (p := ⟨gb127, _, none⟩) (by first | exact FB0_.out | (rw [add_block]; exact FB0_.out) | (show (Addr.add _ _).block ≠ _; rw [add_block]; exact FB0_.out)) _).trans (((cell_far (p := ⟨gb127, _, none⟩) (by first | exact FB0_.out | (rw [add_block]; exact FB0_.out) | (show (Addr.add _ _).block ≠ _; rw [add_block]; exact FB0_.out)) _).trans (((cell_far (p := ⟨gb127, _, none⟩) (by first | exact FB0_.out | (rw [add_block]; exact FB0_.out) | (show (Addr.add _ _).block ≠ _; rw [add_block]; exact FB0_.out)) _).trans (((cell_far (p := ⟨gb127, _, none⟩) (by first | exact FB0_.out | (rw [add_block]; exact FB0_.out) | (show (Addr.add _ _).block ≠ _; rw [add_block]; exact FB0_.out)) _).trans (hHeld.2.2.2.2))))))))))))⟩ (fun hHeld => ?_)
               clear hK K
               refine pu 13 (some 3) #[T,T,T,T,T,T,T,T,T,T,T,T,T,T] (any_of HT_.out (by kernel_rfl)) ?_
               refine done_ (done_of HT_.out (by kernel_rfl)) ?_
               try go_wp2
               refine bodyPost_ret (results_ct rfl _ _ gb127 44 #[.int .i64 (rd t144 0), .int .i64 (rd t144 1), .int .u32 t129, .int .i64 t130, .int .i64 (rd t144 2), .int .i64 (-1)] (0, 0) _ rfl bkp Tryd.underlying44 rfl (by kernel_rfl)) rfl ?_
               exact ⟨fin, bel HB⟩
              ·rw [if_neg c42] at H
               exact absurd H (by simp)
             ·rw [if_neg c41] at H
              exact absurd H (by simp)
            ·rw [if_neg c40] at H
             exact absurd H (by simp)
          ·rw [if_neg c24] at H
           have c24b0 : (t145 == 0) = false := beq_eq_false_iff_ne.mpr c24;have c24b1 : (t145 != 0) = true := bne_iff_ne.mpr c24;simp only [Option.some.injEq, Prod.mk.injEq] at H;obtain ⟨rfl, rfl, rfl, rfl, rfl, rfl, rfl⟩ := H;obtain ⟨Ao53, co53, eo53⟩ := Kd.R_slice HO_6.out;subst eo53
           go_wp2_with (first | ((with_reducible refine gate_callee (f := 108) rfl ?_); refine goesL_ (some 46) rfl rfl Tryd.func108 (by kernel_rfl) rfl #[.slice Ao53 x6_9.length co53] rfl aok ?_; (with_reducible refine (script_numbers.calls kj9 _ _ x6_9 t144 t145 _ ?side1 ?side2 A23.out).mono ?_); (case side1 => repeat (first | exact (Kd.R_reads' HO_6.out).2.2 | (with_reducible refine Kd.C_alloc ?_ _) | (with_reducible refine Kd.C_drewN ?_ _) | (with_reducible refine Kd.C_drew ?_))); (case side2 => exact (Kd.R_reads' HO_6.out).2.1); rintro e w54 ⟨v146, rfl, ho0, hb⟩; refine ⟨_, rfl, ?_⟩; have n0_ := Aside0.mk (Kd.R_below (rp HO_6) hb); have n1_ := Aside0.mk (Kd.R_lower ho0 (below_size (bel HB))); have n2_ := Aside0.mk (bb BK127.out hb); have n3_ := Aside0.mk (bb BK132.out hb); have n4_ := Aside0.mk (below_step (bel HB) hb); clear HO_6; clear BK127; clear BK132; clear HB; have HO_6 := n0_; have HO147 := n1_; have BK127 := n2_; have BK132 := n3_; have HB := n4_; clear n0_ n1_ n2_ n3_ n4_; (try clear hb); (try clear hb2); (try clear hk); (try clear hi); (try clear ho0); have hnb55 := NB127_132.out; have hnc55 := NB132_127.out; have hcz56 := cz6 BK127.out))
           refine bodyPost_ret (results_ct rfl _ _ gb127 44 #[.int .i64 0, .int .i64 0, .int .u32 0, .int .i64 0, .int .i64 0, .int .i64 0] (0, 0) _ rfl bkp Tryd.underlying44 rfl (by kernel_rfl)) rfl ?_
           exact ⟨fin, bel HB⟩
       ·rw [if_neg c9] at H
        exact absurd H (by simp)
      ·rw [if_neg c8] at H
       exact absurd H (by simp)
     ·rw [if_neg c7] at H
      exact absurd H (by simp)
    ·rw [if_neg c6] at H
     exact absurd H (by simp)
   ·rw [if_neg c5] at H
    have c5b0 : (t131 == 0) = false := beq_eq_false_iff_ne.mpr c5;have c5b1 : (t131 != 0) = true := bne_iff_ne.mpr c5;simp only [Option.some.injEq, Prod.mk.injEq] at H;obtain ⟨rfl, rfl, rfl, rfl, rfl, rfl, rfl⟩ := H;go_enter Tryd.func83, Tryd.ntmps83
    go_wp2_with (first | ((with_reducible refine gate_dst (N := 2) rfl ?_); refine box_event rfl (N := 2) rfl (cs := #[.int .i64 0, .int .i64 0, .int .u32 0, .int .i64 0, .int .i64 0, .int .i64 0]) (t := 44) gs ?_; intro gb127 hg w57 hbox hb; have n0_ := Aside0.mk (below_step (bel HB) hb); have n1_ := Aside0.mk (hbox); have n2_ := gew HB hg; have n3_ := gew HB hg; clear HB; have HB := n0_; have BK127 := n1_; have GW127 := n2_; have GE127 := n3_; clear n0_ n1_ n2_ n3_; clear hb hbox hg; have p128 : 0 ≤ (2 : Int) := (by omega); have q128 : 2 < (l0.length : Int) := of_decide_eq_true (by first | (with_reducible assumption) | assumption); obtain ⟨ad128, e128, hx128_0⟩ := Kd.at_string HR0.out 2 p128 q128; cases e128; (try simp only [show (2 : Int).toNat = 2 from rfl, Nat.reduceMul, Nat.reduceEqDiff, Go.Addr.add, ↓reduceIte] at hx128_0); have qi128 : (2 < l0.length) = True := eq_true (by omega); (try rw [show ((2 : Int)).toNat = 2 from rfl] at hx128_0); replace hx128_0 := mv HB hx128_0; replace p128 := eq_true p128; replace q128 := eq_true q128) | ((with_reducible refine gate_callee (f := 33) rfl ?_); refine goesL_ (some 17) rfl rfl Tryd.func33 (by kernel_rfl) rfl #[.string (rdOf ByteArray.empty l0 2)] rfl aok ?_; (with_reducible refine (cidr_Parse.calls k (rdOf ByteArray.empty l0 2) t129 t130 t131 _ (Hand.Good.below true false hGG.out (bel HB) rfl rfl) A4.out).mono ?_); rintro e w58 ⟨rfl, hb⟩; refine ⟨_, rfl, ?_⟩; have n0_ := Aside0.mk (bb BK127.out hb); have n1_ := Aside0.mk (below_step (bel HB) hb); clear BK127; clear HB; have BK127 := n0_; have HB := n1_; clear n0_ n1_; (try clear hb); (try clear hb2); (try clear hk); (try clear hi)) | ((with_reducible refine gate_dst (N := 4) rfl ?_); refine box_event rfl (N := 4) rfl (cs := #[.int .u32 0, .int .i64 0]) (t := 42) gs ?_; intro gb132 hg w59 hbox hb; have n0_ := Aside0.mk (bb BK127.out hb); have n1_ := Aside0.mk (below_step (bel HB) hb); have n2_ := Aside0.mk (hbox); have n3_ := gew HB hg; have n4_ := gew HB hg; have n5_ := Aside0.mk ((ne1 BK127.out hg : gb127 ≠ gb132)); have n6_ := Aside0.mk ((ne2 BK127.out hg : gb132 ≠ gb127)); clear BK127; clear HB; have BK127 := n0_; have HB := n1_; have BK132 := n2_; have GW132 := n3_; have GE132 := n4_; have NB127_132 := n5_; have NB132_127 := n6_; clear n0_ n1_ n2_ n3_ n4_ n5_ n6_; clear hb hbox hg; have hnb60 := NB132_127.out; have hnc60 := NB127_132.out; have hcz61 := cz2 BK132.out; have hcz62 := cz6 BK127.out))
    refine bodyPost_ret (results_ct rfl _ _ gb127 44 #[.int .i64 0, .int .i64 0, .int .u32 0, .int .i64 0, .int .i64 0, .int .i64 0] (0, 0) _ rfl bkp Tryd.underlying44 rfl (by kernel_rfl)) rfl ?_
    exact ⟨fin, bel HB⟩
  ·rw [if_neg c3] at H
   exact absurd H (by simp)
 ·rw [if_neg c2] at H
  have c2b0 : ((l0.length : Int) == 5) = false := beq_eq_false_iff_ne.mpr c2;have c2b1 : ((l0.length : Int) != 5) = true := bne_iff_ne.mpr c2;simp only [Option.some.injEq, Prod.mk.injEq] at H;obtain ⟨rfl, rfl, rfl, rfl, rfl, rfl, rfl⟩ := H;go_enter Tryd.func83, Tryd.ntmps83
  go_wp2_with (first | ((with_reducible refine gate_dst (N := 2) rfl ?_); refine box_event rfl (N := 2) rfl (cs := #[.int .i64 0, .int .i64 0, .int .u32 0, .int .i64 0, .int .i64 0, .int .i64 0]) (t := 44) gs ?_; intro gb127 hg w63 hbox hb; have n0_ := Aside0.mk (below_step (bel HB) hb); have n1_ := Aside0.mk (hbox); have n2_ := gew HB hg; have n3_ := gew HB hg; clear HB; have HB := n0_; have BK127 := n1_; have GW127 := n2_; have GE127 := n3_; clear n0_ n1_ n2_ n3_; clear hb hbox hg; have hcz64 := cz6 BK127.out))
  refine bodyPost_ret (results_ct rfl _ _ gb127 44 #[.int .i64 0, .int .i64 0, .int .u32 0, .int .i64 0, .int .i64 0, .int .i64 0] (0, 0) _ rfl bkp Tryd.underlying44 rfl (by kernel_rfl)) rfl ?_
  exact ⟨fin, bel HB⟩

end Go.Proofs.YtloclimoffhbhaaDoor.PSto
