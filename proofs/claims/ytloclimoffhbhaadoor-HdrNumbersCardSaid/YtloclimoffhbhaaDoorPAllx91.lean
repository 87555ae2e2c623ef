-- Written by wip/myprint.py (this session's own driver); Lean checks it.
import Derived.Test.YtloclimoffhbhaaDoorPAllx0
import Derived.Test.YtloclimoffhbhaaDoorPAllx15
import Derived.Test.YtloclimoffhbhaaDoorPAllx90
namespace Go.Proofs.YtloclimoffhbhaaDoor.PAll
open Go.RowKit Go.Proofs.YtloclimoffhbhaaDoorW.PrintWords Go.Proofs.YtloclimoffhbhaaDoorW.PrintLast Go.Proofs.YtloclimoffhbhaaDoorW.PrintMore
attribute [local go_sem] max2_int min2_int max_two min_two max_three min_three max_four min_four   -- for this text's walks alone
set_option linter.unusedVariables false
set_option linter.unusedSimpArgs false

/-! ### crossbucklaw02_HdrNumbers: function 5 -/
def crossbucklaw02_HdrNumbers.l0 : Nat → Int → Int → ByteArray → Int → Option (Bool)
  | 0, _, _, _, _ => none
  | k + 1, x0, x1, x5, x6 => (some (([(wrap64 (48 + (Int.tmod x6 10))) % 256] : List Int) : List Int)).bind fun y391 => (if (strOfNums y391).size + x5.size ≤ 9223372036854775807 then (if x6 < 10 then ((hdr_Number.f ((strOfNums y391) ++ x5) (wrap64 (x1))).bind fun bt394 => (if 1 + ((strOfNums y391) ++ x5).size ≤ 9223372036854775807 then ((hdr_Number.f ((⟨#[48]⟩ : ByteArray) ++ ((strOfNums y391) ++ x5)) 1048576).bind fun bt396 => (if ((strOfNums y391) ++ x5).size + 1 ≤ 9223372036854775807 then ((hdr_Number.f (((strOfNums y391) ++ x5) ++ (⟨#[32]⟩ : ByteArray)) 1048576).bind fun bt398 => ((hdr_Number.f ((⟨#[45]⟩ : ByteArray) ++ ((strOfNums y391) ++ x5)) 1048576).bind fun bt400 => (if x0 > x1 then ((crossbucklaw02_awake.f k).bind fun t402 => (if t402 = true then (if bt394.2 = 5 then (if bt394.1 = 0 then (if bt396.2 = 6 then (some (bt400.2 == 6)) else (some false)) else (some false)) else (some false)) else (some false))) else ((crossbucklaw02_awake.f k).bind fun t403 => (if t403 = true then (if bt394.2 = 0 then (if bt394.1 = (wrap64 (x0)) then (if bt396.2 = 6 then (if bt398.2 = 6 then (some (bt400.2 == 6)) else (some false)) else (some false)) else (some false)) else (some false)) else (some false)))))) else (none))) else (none))) else (crossbucklaw02_HdrNumbers.l0 k x0 x1 ((strOfNums y391) ++ x5) (wrap64 (Int.tdiv x6 10)))) else (none))
def crossbucklaw02_HdrNumbers.f (k : Nat) (a0 : Int) (a1 : Int) : Option (Bool) := crossbucklaw02_HdrNumbers.l0 k a0 a1 (⟨#[]⟩ : ByteArray) (wrap64 (a0))
theorem crossbucklaw02_HdrNumbers.mono_l : ∀ k, (∀ y0 y1 y2 y3, LeO (crossbucklaw02_HdrNumbers.l0 k y0 y1 y2 y3) (crossbucklaw02_HdrNumbers.l0 (k + 1) y0 y1 y2 y3))
  | 0 => fun _ _ _ _ r h => by simp [crossbucklaw02_HdrNumbers.l0] at h
  | k + 1 => by
    have ih0 := crossbucklaw02_HdrNumbers.mono_l k
    · intro y0 y1 y2 y3
      unfold crossbucklaw02_HdrNumbers.l0
      repeat' first
      | (with_reducible exact ih0 _ _ _ _)
      | (with_reducible exact crossbucklaw02_awake.mono _)
      | (with_reducible exact LeO.refl _)
      | (with_reducible exact LeO.none _)
      | (with_reducible refine LeO.ite ?_ ?_)
      | (with_reducible refine LeO.bind ?_ (fun _ => ?_))
      | exact ih0 _ _ _ _
      | exact crossbucklaw02_awake.mono _
      | exact LeO.none _
      | refine LeO.ite ?_ ?_
      | refine LeO.bind ?_ (fun _ => ?_)
theorem crossbucklaw02_HdrNumbers.mono : ∀ a0 a1 k, LeO (crossbucklaw02_HdrNumbers.f k a0 a1) (crossbucklaw02_HdrNumbers.f (k + 1) a0 a1) := by
  intro a0 a1 k
  have ih0 := crossbucklaw02_HdrNumbers.mono_l k
  unfold crossbucklaw02_HdrNumbers.f
  repeat' first
      | (with_reducible exact ih0 _ _ _ _)
      | (with_reducible exact crossbucklaw02_awake.mono _)
      | (with_reducible exact LeO.refl _)
      | (with_reducible exact LeO.none _)
      | (with_reducible refine LeO.ite ?_ ?_)
      | (with_reducible refine LeO.bind ?_ (fun _ => ?_))
      | exact ih0 _ _ _ _
      | exact crossbucklaw02_awake.mono _
      | exact LeO.none _
      | refine LeO.ite ?_ ?_
      | refine LeO.bind ?_ (fun _ => ?_)
set_option maxHeartbeats 8000000 in
set_option maxRecDepth 100000 in
theorem crossbucklaw02_HdrNumbers.calls (k : Nat) (a0 : Int) (a1 : Int) (r : Bool) (w : World) (hG : Hand.Good false true w) (h : crossbucklaw02_HdrNumbers.f k a0 a1 = some r) (hT : Aside0 (r = true)) :
    Calls Tryd.prog 5 #[.int .u16 a0, .int .u16 a1] w fun e w' => e = .returned (.bool r) ∧ Below w.heap.size w w' := by
  have HB := Aside0.mk (Below.refl w.heap.size w)
  have hGG := Aside0.mk hG
  clear hG
  have H : (crossbucklaw02_HdrNumbers.l0 k a0 a1 (⟨#[]⟩ : ByteArray) (wrap64 (a0))) = some r := h
  clear h
  have H' := Aside0.mk H
  clear H
  go_enter Tryd.func5, Tryd.ntmps5
  go_wp2
  go_loopg [5, 6] k (fun kq v5 v6 w' => ∃ (x5_1 : ByteArray) (x6_1 : Int), v5 = .string x5_1 ∧ v6 = .int .i64 x6_1 ∧ Aside0 (crossbucklaw02_HdrNumbers.l0 kq a0 a1 x5_1 x6_1 = some r) ∧ Aside0 (kq ≤ k) ∧ Aside0 (Below w.heap.size w w'))
  case atStart => exact ⟨((⟨#[]⟩ : ByteArray)), (wrap64 (a0)), (by first | rfl | (simp; done) | (simp [*]; done)), (by first | rfl | (simp; done) | (simp [*]; done)), H', ⟨Nat.le_refl _⟩, ⟨by repeat (first | (with_reducible first | exact HB.out | apply below_alloc | apply pw_below_drewN | apply below_drew1) | exact HB.out)⟩⟩
  case round =>
    clear H'
    try clear p2
    obtain ⟨x5_1, x6_1, rfl, rfl, HA, HK1, HB⟩ := hrel
    cases gk with
    | zero => exact absurd HA.out (by simp [crossbucklaw02_HdrNumbers.l0])
    | succ k1 =>
      have H := HA.out
      clear HA
      simp only [crossbucklaw02_HdrNumbers.l0] at H
      obtain ⟨y391, hy391⟩ : ∃ y_ : List Int, y_ = (([(wrap64 (48 + (Int.tmod x6_1 10))) % 256] : List Int)) := ⟨_, rfl⟩
      replace H : (if (strOfNums y391).size + x5_1.size ≤ 9223372036854775807 then (if x6_1 < 10 then ((hdr_Number.f ((strOfNums y391) ++ x5_1) (wrap64 (a1))).bind fun bt394 => (if 1 + ((strOfNums y391) ++ x5_1).size ≤ 9223372036854775807 then ((hdr_Number.f ((⟨#[48]⟩ : ByteArray) ++ ((strOfNums y391) ++ x5_1)) 1048576).bind fun bt396 => (if ((strOfNums y391) ++ x5_1).size + 1 ≤ 9223372036854775807 then ((hdr_Number.f (((strOfNums y391) ++ x5_1) ++ (⟨#[32]⟩ : ByteArray)) 1048576).bind fun bt398 => ((hdr_Number.f ((⟨#[45]⟩ : ByteArray) ++ ((strOfNums y391) ++ x5_1)) 1048576).bind fun bt400 => (if a0 > a1 then ((crossbucklaw02_awake.f k1).bind fun t402 => (if t402 = true then (if bt394.2 = 5 then (if bt394.1 = 0 then (if bt396.2 = 6 then (some (bt400.2 == 6)) else (some false)) else (some false)) else (some false)) else (some false))) else ((crossbucklaw02_awake.f k1).bind fun t403 => (if t403 = true then (if bt394.2 = 0 then (if bt394.1 = (wrap64 (a0)) then (if bt396.2 = 6 then (if bt398.2 = 6 then (some (bt400.2 == 6)) else (some false)) else (some false)) else (some false)) else (some false)) else (some false)))))) else (none))) else (none))) else (crossbucklaw02_HdrNumbers.l0 k1 a0 a1 ((strOfNums y391) ++ x5_1) (wrap64 (Int.tdiv x6_1 10)))) else (none)) = some r := by first | (rw [hy391]; with_reducible exact H) | (have H2_ := (Option.bind_some _ _).symm.trans H; rw [hy391]; with_reducible exact H2_) | (have H2_ := (Option.bind_some _ _).symm.trans H; with_reducible exact H2_) | with_reducible exact H | (rw [hy391]; exact H) | exact H
      have Ny391 := Aside0.mk hy391
      clear hy391
      by_cases c3 : (strOfNums y391).size + x5_1.size ≤ 9223372036854775807
      · rw [if_pos c3] at H
        have c3b0 := eq_true c3
        have c3b1 : decide ((strOfNums y391).size + x5_1.size ≤ 9223372036854775807) = true := decide_eq_true c3
        try have c3b2 : (9223372036854775807 < (strOfNums y391).size + x5_1.size) = False := eq_false (Nat.not_lt.2 c3)
        by_cases c4 : x6_1 < 10
        · rw [if_pos c4] at H
          have c4b0 : decide (x6_1 < 10) = true := decide_eq_true c4
          clear c4
          replace H := Option.bind_eq_some_iff.mp H
          obtain ⟨⟨t394, t395⟩, A50, H⟩ := H
          replace H : (if 1 + ((strOfNums y391) ++ x5_1).size ≤ 9223372036854775807 then ((hdr_Number.f ((⟨#[48]⟩ : ByteArray) ++ ((strOfNums y391) ++ x5_1)) 1048576).bind fun bt396 => (if ((strOfNums y391) ++ x5_1).size + 1 ≤ 9223372036854775807 then ((hdr_Number.f (((strOfNums y391) ++ x5_1) ++ (⟨#[32]⟩ : ByteArray)) 1048576).bind fun bt398 => ((hdr_Number.f ((⟨#[45]⟩ : ByteArray) ++ ((strOfNums y391) ++ x5_1)) 1048576).bind fun bt400 => (if a0 > a1 then ((crossbucklaw02_awake.f k1).bind fun t402 => (if t402 = true then (if t395 = 5 then (if t394 = 0 then (if bt396.2 = 6 then (some (bt400.2 == 6)) else (some false)) else (some false)) else (some false)) else (some false))) else ((crossbucklaw02_awake.f k1).bind fun t403 => (if t403 = true then (if t395 = 0 then (if t394 = (wrap64 (a0)) then (if bt396.2 = 6 then (if bt398.2 = 6 then (some (bt400.2 == 6)) else (some false)) else (some false)) else (some false)) else (some false)) else (some false)))))) else (none))) else (none)) = some r := H
          have A5 := Aside0.mk A50
          clear A50
          by_cases c6 : 1 + ((strOfNums y391) ++ x5_1).size ≤ 9223372036854775807
          · rw [if_pos c6] at H
            have c6b0 := eq_true c6
            have c6b1 : decide (1 + ((strOfNums y391) ++ x5_1).size ≤ 9223372036854775807) = true := decide_eq_true c6
            try have c6b2 : (9223372036854775807 < 1 + ((strOfNums y391) ++ x5_1).size) = False := eq_false (Nat.not_lt.2 c6)
            try have c6b3 := c6b2
            try simp only [ByteArray.size_append, Hand.lit_size, List.length_cons, List.length_nil, Nat.zero_add, Nat.reduceAdd] at c6b3
            replace H := Option.bind_eq_some_iff.mp H
            obtain ⟨⟨t396, t397⟩, A70, H⟩ := H
            replace H : (if ((strOfNums y391) ++ x5_1).size + 1 ≤ 9223372036854775807 then ((hdr_Number.f (((strOfNums y391) ++ x5_1) ++ (⟨#[32]⟩ : ByteArray)) 1048576).bind fun bt398 => ((hdr_Number.f ((⟨#[45]⟩ : ByteArray) ++ ((strOfNums y391) ++ x5_1)) 1048576).bind fun bt400 => (if a0 > a1 then ((crossbucklaw02_awake.f k1).bind fun t402 => (if t402 = true then (if t395 = 5 then (if t394 = 0 then (if t397 = 6 then (some (bt400.2 == 6)) else (some false)) else (some false)) else (some false)) else (some false))) else ((crossbucklaw02_awake.f k1).bind fun t403 => (if t403 = true then (if t395 = 0 then (if t394 = (wrap64 (a0)) then (if t397 = 6 then (if bt398.2 = 6 then (some (bt400.2 == 6)) else (some false)) else (some false)) else (some false)) else (some false)) else (some false)))))) else (none)) = some r := H
            have A7 := Aside0.mk A70
            clear A70
            by_cases c8 : ((strOfNums y391) ++ x5_1).size + 1 ≤ 9223372036854775807
            · rw [if_pos c8] at H
              have c8b0 := eq_true c8
              have c8b1 : decide (((strOfNums y391) ++ x5_1).size + 1 ≤ 9223372036854775807) = true := decide_eq_true c8
              try have c8b2 : (9223372036854775807 < ((strOfNums y391) ++ x5_1).size + 1) = False := eq_false (Nat.not_lt.2 c8)
              try have c8b3 := c8b2
              try simp only [ByteArray.size_append, Hand.lit_size, List.length_cons, List.length_nil, Nat.zero_add, Nat.reduceAdd] at c8b3
              replace H := Option.bind_eq_some_iff.mp H
              obtain ⟨⟨t398, t399⟩, A90, H⟩ := H
              replace H : ((hdr_Number.f ((⟨#[45]⟩ : ByteArray) ++ ((strOfNums y391) ++ x5_1)) 1048576).bind fun bt400 => (if a0 > a1 then ((crossbucklaw02_awake.f k1).bind fun t402 => (if t402 = true then (if t395 = 5 then (if t394 = 0 then (if t397 = 6 then (some (bt400.2 == 6)) else (some false)) else (some false)) else (some false)) else (some false))) else ((crossbucklaw02_awake.f k1).bind fun t403 => (if t403 = true then (if t395 = 0 then (if t394 = (wrap64 (a0)) then (if t397 = 6 then (if t399 = 6 then (some (bt400.2 == 6)) else (some false)) else (some false)) else (some false)) else (some false)) else (some false))))) = some r := H
              have A9 := Aside0.mk A90
              clear A90
              replace H := Option.bind_eq_some_iff.mp H
              obtain ⟨⟨t400, t401⟩, A100, H⟩ := H
              replace H : (if a0 > a1 then ((crossbucklaw02_awake.f k1).bind fun t402 => (if t402 = true then (if t395 = 5 then (if t394 = 0 then (if t397 = 6 then (some (t401 == 6)) else (some false)) else (some false)) else (some false)) else (some false))) else ((crossbucklaw02_awake.f k1).bind fun t403 => (if t403 = true then (if t395 = 0 then (if t394 = (wrap64 (a0)) then (if t397 = 6 then (if t399 = 6 then (some (t401 == 6)) else (some false)) else (some false)) else (some false)) else (some false)) else (some false)))) = some r := H
              have A10 := Aside0.mk A100
              clear A100
              by_cases c11 : a0 > a1
              · rw [if_pos c11] at H
                have c11b0 : decide (a1 < a0) = true := decide_eq_true c11
                clear c11
                replace H := Option.bind_eq_some_iff.mp H
                obtain ⟨t402, A120, H⟩ := H
                replace H : (if t402 = true then (if t395 = 5 then (if t394 = 0 then (if t397 = 6 then (some (t401 == 6)) else (some false)) else (some false)) else (some false)) else (some false)) = some r := H
                have A12 := Aside0.mk A120
                clear A120
                by_cases c13 : t402 = true
                · subst c13
                  have H1 : (if t395 = 5 then (if t394 = 0 then (if t397 = 6 then (some (t401 == 6)) else (some false)) else (some false)) else (some false)) = some r := by rw [if_pos rfl] at H; exact H
                  clear H
                  have H := H1
                  clear H1
                  by_cases c14 : t395 = 5
                  · rw [if_pos c14] at H
                    have c14b0 : (t395 == 5) = true := beq_iff_eq.mpr c14
                    have c14b1 : (t395 != 5) = false := bne_eq_false_iff_eq.mpr c14
                    clear c14
                    by_cases c15 : t394 = 0
                    · rw [if_pos c15] at H
                      have c15b0 : (t394 == 0) = true := beq_iff_eq.mpr c15
                      have c15b1 : (t394 != 0) = false := bne_eq_false_iff_eq.mpr c15
                      clear c15
                      by_cases c16 : t397 = 6
                      · rw [if_pos c16] at H
                        have c16b0 : (t397 == 6) = true := beq_iff_eq.mpr c16
                        have c16b1 : (t397 != 6) = false := bne_eq_false_iff_eq.mpr c16
                        clear c16
                        obtain rfl := Option.some.inj H
                        go_wp2_with (first | ((with_reducible refine gate_dst (N := 23) rfl ?_); refine Kd.R_lit (Kd.int .u8) _ 5 ?hg (N := 23) ?hd (xs := ([(wrap64 (48 + (Int.tmod x6_1 10))) % 256] : List Int)) (inner := [.int .u8 ((wrap64 (48 + (Int.tmod x6_1 10))) % 256)]) (ok := fun _ => True) (okp := fun _ => True) ?hr ?hp (fun _ hk => hk) trivial (Below.refl _ _) (Nat.le_refl _) (by simp) ?_; (case hd => rfl); (case hg => rfl); (case hr => first | (go_simp; done) | (go_simp; rfl)); (case hp => exact (Reps.one (show Kd.M (Kd.int .u8) _ _ _ ((wrap64 (48 + (Int.tmod x6_1 10))) % 256) [.int .u8 ((wrap64 (48 + (Int.tmod x6_1 10))) % 256)] from rfl) (Reps.none _ _))); intro v392 w17 ho18 hb hg_ hnew_; clear hg_ hnew_; (first | rw [← Ny391.out] at ho18 | (simp only [Int.reduceToNat] at ho18; rw [← Ny391.out] at ho18)); have n0_ := Aside0.mk (Kd.R_lower ho18 (below_size (by repeat (first | (with_reducible first | exact HB.out | apply below_alloc | apply pw_below_drewN | apply below_drew1) | exact HB.out)))); have n1_ := Aside0.mk (below_step (by repeat (first | (with_reducible first | exact HB.out | apply below_alloc | apply pw_below_drewN | apply below_drew1) | exact HB.out)) hb); clear HB; have HO393 := n0_; have HB := n1_; clear n0_ n1_; clear hb ho18; have hcv19 := own_string (P := Tryd.prog) Tryd.underlying52 Tryd.underlying5 Tryd.underlying9 (Kd.own_of_R HO393.out)) | ((with_reducible refine gate_callee (f := 30) rfl ?_); refine goesL_ (some 33) rfl rfl Tryd.func30 (by kernel_rfl) rfl #[.string ((strOfNums y391) ++ x5_1), .int .i64 (wrap64 (a1))] rfl (by (try simp only [List.map_toArray, List.map_cons, List.map_nil]); first | done | rfl | (simp only [List.length_drop, List.length_take]; rfl)) ?_; (with_reducible refine (hdr_Number.calls ((strOfNums y391) ++ x5_1) (wrap64 (a1)) t394 t395 _ A5.out).mono ?_); rintro e w20 ⟨rfl, hb⟩; refine ⟨_, rfl, ?_⟩; have n0_ := Aside0.mk (Kd.R_below (by (with_reducible repeat (first | apply Kd.R_alloc | apply Kd.R_drewN | apply Kd.R_drew)); exact HO393.out) hb); have n1_ := Aside0.mk (below_step (by repeat (first | (with_reducible first | exact HB.out | apply below_alloc | apply pw_below_drewN | apply below_drew1) | exact HB.out)) hb); clear HO393; clear HB; have HO393 := n0_; have HB := n1_; clear n0_ n1_; (try clear hb); (try clear hb2); (try clear hk); (try clear hi)) | ((with_reducible refine gate_callee (f := 30) rfl ?_); refine goesL_ (some 39) rfl rfl Tryd.func30 (by kernel_rfl) rfl #[.string ((⟨#[48]⟩ : ByteArray) ++ ((strOfNums y391) ++ x5_1)), .int .i64 1048576] rfl (by (try simp only [List.map_toArray, List.map_cons, List.map_nil]); first | done | rfl | (simp only [List.length_drop, List.length_take]; rfl)) ?_; (with_reducible refine (hdr_Number.calls ((⟨#[48]⟩ : ByteArray) ++ ((strOfNums y391) ++ x5_1)) 1048576 t396 t397 _ A7.out).mono ?_); rintro e w21 ⟨rfl, hb⟩; refine ⟨_, rfl, ?_⟩; have n0_ := Aside0.mk (Kd.R_below (by (with_reducible repeat (first | apply Kd.R_alloc | apply Kd.R_drewN | apply Kd.R_drew)); exact HO393.out) hb); have n1_ := Aside0.mk (below_step (by repeat (first | (with_reducible first | exact HB.out | apply below_alloc | apply pw_below_drewN | apply below_drew1) | exact HB.out)) hb); clear HO393; clear HB; have HO393 := n0_; have HB := n1_; clear n0_ n1_; (try clear hb); (try clear hb2); (try clear hk); (try clear hi)) | ((with_reducible refine gate_callee (f := 30) rfl ?_); refine goesL_ (some 45) rfl rfl Tryd.func30 (by kernel_rfl) rfl #[.string (((strOfNums y391) ++ x5_1) ++ (⟨#[32]⟩ : ByteArray)), .int .i64 1048576] rfl (by (try simp only [List.map_toArray, List.map_cons, List.map_nil]); first | done | rfl | (simp only [List.length_drop, List.length_take]; rfl)) ?_; (with_reducible refine (hdr_Number.calls (((strOfNums y391) ++ x5_1) ++ (⟨#[32]⟩ : ByteArray)) 1048576 t398 t399 _ A9.out).mono ?_); rintro e w22 ⟨rfl, hb⟩; refine ⟨_, rfl, ?_⟩; have n0_ := Aside0.mk (Kd.R_below (by (with_reducible repeat (first | apply Kd.R_alloc | apply Kd.R_drewN | apply Kd.R_drew)); exact HO393.out) hb); have n1_ := Aside0.mk (below_step (by repeat (first | (with_reducible first | exact HB.out | apply below_alloc | apply pw_below_drewN | apply below_drew1) | exact HB.out)) hb); clear HO393; clear HB; have HO393 := n0_; have HB := n1_; clear n0_ n1_; (try clear hb); (try clear hb2); (try clear hk); (try clear hi)) | ((with_reducible refine gate_callee (f := 30) rfl ?_); refine goesL_ (some 51) rfl rfl Tryd.func30 (by kernel_rfl) rfl #[.string ((⟨#[45]⟩ : ByteArray) ++ ((strOfNums y391) ++ x5_1)), .int .i64 1048576] rfl (by (try simp only [List.map_toArray, List.map_cons, List.map_nil]); first | done | rfl | (simp only [List.length_drop, List.length_take]; rfl)) ?_; (with_reducible refine (hdr_Number.calls ((⟨#[45]⟩ : ByteArray) ++ ((strOfNums y391) ++ x5_1)) 1048576 t400 t401 _ A10.out).mono ?_); rintro e w23 ⟨rfl, hb⟩; refine ⟨_, rfl, ?_⟩; have n0_ := Aside0.mk (Kd.R_below (by (with_reducible repeat (first | apply Kd.R_alloc | apply Kd.R_drewN | apply Kd.R_drew)); exact HO393.out) hb); have n1_ := Aside0.mk (below_step (by repeat (first | (with_reducible first | exact HB.out | apply below_alloc | apply pw_below_drewN | apply below_drew1) | exact HB.out)) hb); clear HO393; clear HB; have HO393 := n0_; have HB := n1_; clear n0_ n1_; (try clear hb); (try clear hb2); (try clear hk); (try clear hi)) | ((with_reducible refine gate_callee (f := 31) rfl ?_); refine goesL_ (some 57) rfl rfl Tryd.func31 (by kernel_rfl) rfl #[] rfl (by (try simp only [List.map_toArray, List.map_cons, List.map_nil]); first | done | rfl | (simp only [List.length_drop, List.length_take]; rfl)) ?_; (with_reducible refine (crossbucklaw02_awake.calls k1  true _ (Hand.Good.below false true hGG.out (by repeat (first | (with_reducible first | exact HB.out | apply below_alloc | apply pw_below_drewN | apply below_drew1) | exact HB.out)) rfl rfl) A12.out).mono ?_); rintro e w24 ⟨rfl, hb⟩; refine ⟨_, rfl, ?_⟩; have n0_ := Aside0.mk (Kd.R_below (by (with_reducible repeat (first | apply Kd.R_alloc | apply Kd.R_drewN | apply Kd.R_drew)); exact HO393.out) hb); have n1_ := Aside0.mk (below_step (by repeat (first | (with_reducible first | exact HB.out | apply below_alloc | apply pw_below_drewN | apply below_drew1) | exact HB.out)) hb); clear HO393; clear HB; have HO393 := n0_; have HB := n1_; clear n0_ n1_; (try clear hb); (try clear hb2); (try clear hk); (try clear hi)))
                        go_ret
                        exact ⟨by first | rfl | (simp [errW_none, errW_some] <;> rfl) | (simp [*, errW_none, errW_some] <;> rfl), by repeat (first | (with_reducible first | exact HB.out | apply below_alloc | apply pw_below_drewN | apply below_drew1) | exact HB.out)⟩
                      · rw [if_neg c16] at H
                        have c16b0 : (t397 == 6) = false := beq_eq_false_iff_ne.mpr c16
                        have c16b1 : (t397 != 6) = true := bne_iff_ne.mpr c16
                        exact absurd ((Option.some.inj H).trans hT.out) (by decide)
                    · rw [if_neg c15] at H
                      have c15b0 : (t394 == 0) = false := beq_eq_false_iff_ne.mpr c15
                      have c15b1 : (t394 != 0) = true := bne_iff_ne.mpr c15
                      exact absurd ((Option.some.inj H).trans hT.out) (by decide)
                  · rw [if_neg c14] at H
                    have c14b0 : (t395 == 5) = false := beq_eq_false_iff_ne.mpr c14
                    have c14b1 : (t395 != 5) = true := bne_iff_ne.mpr c14
                    exact absurd ((Option.some.inj H).trans hT.out) (by decide)
                · replace c13 := Bool.eq_false_iff.mpr c13
                  subst c13
                  have H1 : (some false) = some r := by rw [if_neg (show ¬ (false = true) by decide)] at H; exact H
                  clear H
                  have H := H1
                  clear H1
                  exact absurd ((Option.some.inj H).trans hT.out) (by decide)
              · rw [if_neg c11] at H
                have c11b0 : decide (a1 < a0) = false := decide_eq_false c11
                clear c11
                replace H := Option.bind_eq_some_iff.mp H
                obtain ⟨t403, A250, H⟩ := H
                replace H : (if t403 = true then (if t395 = 0 then (if t394 = (wrap64 (a0)) then (if t397 = 6 then (if t399 = 6 then (some (t401 == 6)) else (some false)) else (some false)) else (some false)) else (some false)) else (some false)) = some r := H
                have A25 := Aside0.mk A250
                clear A250
                by_cases c26 : t403 = true
                · subst c26
                  have H1 : (if t395 = 0 then (if t394 = (wrap64 (a0)) then (if t397 = 6 then (if t399 = 6 then (some (t401 == 6)) else (some false)) else (some false)) else (some false)) else (some false)) = some r := by rw [if_pos rfl] at H; exact H
                  clear H
                  have H := H1
                  clear H1
                  by_cases c27 : t395 = 0
                  · rw [if_pos c27] at H
                    have c27b0 : (t395 == 0) = true := beq_iff_eq.mpr c27
                    have c27b1 : (t395 != 0) = false := bne_eq_false_iff_eq.mpr c27
                    clear c27
                    by_cases c28 : t394 = (wrap64 (a0))
                    · rw [if_pos c28] at H
                      have c28b0 : (t394 == (wrap64 (a0))) = true := beq_iff_eq.mpr c28
                      have c28b1 : (t394 != (wrap64 (a0))) = false := bne_eq_false_iff_eq.mpr c28
                      clear c28
                      by_cases c29 : t397 = 6
                      · rw [if_pos c29] at H
                        have c29b0 : (t397 == 6) = true := beq_iff_eq.mpr c29
                        have c29b1 : (t397 != 6) = false := bne_eq_false_iff_eq.mpr c29
                        clear c29
                        by_cases c30 : t399 = 6
                        · rw [if_pos c30] at H
                          have c30b0 : (t399 == 6) = true := beq_iff_eq.mpr c30
                          have c30b1 : (t399 != 6) = false := bne_eq_false_iff_eq.mpr c30
                          clear c30
                          obtain rfl := Option.some.inj H
                          go_wp2_with (first | ((with_reducible refine gate_dst (N := 23) rfl ?_); refine Kd.R_lit (Kd.int .u8) _ 5 ?hg (N := 23) ?hd (xs := ([(wrap64 (48 + (Int.tmod x6_1 10))) % 256] : List Int)) (inner := [.int .u8 ((wrap64 (48 + (Int.tmod x6_1 10))) % 256)]) (ok := fun _ => True) (okp := fun _ => True) ?hr ?hp (fun _ hk => hk) trivial (Below.refl _ _) (Nat.le_refl _) (by simp) ?_; (case hd => rfl); (case hg => rfl); (case hr => first | (go_simp; done) | (go_simp; rfl)); (case hp => exact (Reps.one (show Kd.M (Kd.int .u8) _ _ _ ((wrap64 (48 + (Int.tmod x6_1 10))) % 256) [.int .u8 ((wrap64 (48 + (Int.tmod x6_1 10))) % 256)] from rfl) (Reps.none _ _))); intro v392 w31 ho32 hb hg_ hnew_; clear hg_ hnew_; (first | rw [← Ny391.out] at ho32 | (simp only [Int.reduceToNat] at ho32; rw [← Ny391.out] at ho32)); have n0_ := Aside0.mk (Kd.R_lower ho32 (below_size (by repeat (first | (with_reducible first | exact HB.out | apply below_alloc | apply pw_below_drewN | apply below_drew1) | exact HB.out)))); have n1_ := Aside0.mk (below_step (by repeat (first | (with_reducible first | exact HB.out | apply below_alloc | apply pw_below_drewN | apply below_drew1) | exact HB.out)) hb); clear HB; have HO393 := n0_; have HB := n1_; clear n0_ n1_; clear hb ho32; have hcv33 := own_string (P := Tryd.prog) Tryd.underlying52 Tryd.underlying5 Tryd.underlying9 (Kd.own_of_R HO393.out)) | ((with_reducible refine gate_callee (f := 30) rfl ?_); refine goesL_ (some 33) rfl rfl Tryd.func30 (by kernel_rfl) rfl #[.string ((strOfNums y391) ++ x5_1), .int .i64 (wrap64 (a1))] rfl (by (try simp only [List.map_toArray, List.map_cons, List.map_nil]); first | done | rfl | (simp only [List.length_drop, List.length_take]; rfl)) ?_; (with_reducible refine (hdr_Number.calls ((strOfNums y391) ++ x5_1) (wrap64 (a1)) t394 t395 _ A5.out).mono ?_); rintro e w34 ⟨rfl, hb⟩; refine ⟨_, rfl, ?_⟩; have n0_ := Aside0.mk (Kd.R_below (by (with_reducible repeat (first | apply Kd.R_alloc | apply Kd.R_drewN | apply Kd.R_drew)); exact HO393.out) hb); have n1_ := Aside0.mk (below_step (by repeat (first | (with_reducible first | exact HB.out | apply below_alloc | apply pw_below_drewN | apply below_drew1) | exact HB.out)) hb); clear HO393; clear HB; have HO393 := n0_; have HB := n1_; clear n0_ n1_; (try clear hb); (try clear hb2); (try clear hk); (try clear hi)) | ((with_reducible refine gate_callee (f := 30) rfl ?_); refine goesL_ (some 39) rfl rfl Tryd.func30 (by kernel_rfl) rfl #[.string ((⟨#[48]⟩ : ByteArray) ++ ((strOfNums y391) ++ x5_1)), .int .i64 1048576] rfl (by (try simp only [List.map_toArray, List.map_cons, List.map_nil]); first | done | rfl | (simp only [List.length_drop, List.length_take]; rfl)) ?_; (with_reducible refine (hdr_Number.calls ((⟨#[48]⟩ : ByteArray) ++ ((strOfNums y391) ++ x5_1)) 1048576 t396 t397 _ A7.out).mono ?_); rintro e w35 ⟨rfl, hb⟩; refine ⟨_, rfl, ?_⟩; have n0_ := Aside0.mk (Kd.R_below (by (with_reducible repeat (first | apply Kd.R_alloc | apply Kd.R_drewN | apply Kd.R_drew)); exact HO393.out) hb); have n1_ := Aside0.mk (below_step (by repeat (first | (with_reducible first | exact HB.out | apply below_alloc | apply pw_below_drewN | apply below_drew1) | exact HB.out)) hb); clear HO393; clear HB; have HO393 := n0_; have HB := n1_; clear n0_ n1_; (try clear hb); (try clear hb2); (try clear hk); (try clear hi)) | ((with_reducible refine gate_callee (f := 30) rfl ?_); refine goesL_ (some 45) rfl rfl Tryd.func30 (by kernel_rfl) rfl #[.string (((strOfNums y391) ++ x5_1) ++ (⟨#[32]⟩ : ByteArray)), .int .i64 1048576] rfl (by (try simp only [List.map_toArray, List.map_cons, List.map_nil]); first | done | rfl | (simp only [List.length_drop, List.length_take]; rfl)) ?_; (with_reducible refine (hdr_Number.calls (((strOfNums y391) ++ x5_1) ++ (⟨#[32]⟩ : ByteArray)) 1048576 t398 t399 _ A9.out).mono ?_); rintro e w36 ⟨rfl, hb⟩; refine ⟨_, rfl, ?_⟩; have n0_ := Aside0.mk (Kd.R_below (by (with_reducible repeat (first | apply Kd.R_alloc | apply Kd.R_drewN | apply Kd.R_drew)); exact HO393.out) hb); have n1_ := Aside0.mk (below_step (by repeat (first | (with_reducible first | exact HB.out | apply below_alloc | apply pw_below_drewN | apply below_drew1) | exact HB.out)) hb); clear HO393; clear HB; have HO393 := n0_; have HB := n1_; clear n0_ n1_; (try clear hb); (try clear hb2); (try clear hk); (try clear hi)) | ((with_reducible refine gate_callee (f := 30) rfl ?_); refine goesL_ (some 51) rfl rfl Tryd.func30 (by kernel_rfl) rfl #[.string ((⟨#[45]⟩ : ByteArray) ++ ((strOfNums y391) ++ x5_1)), .int .i64 1048576] rfl (by (try simp only [List.map_toArray, List.map_cons, List.map_nil]); first | done | rfl | (simp only [List.length_drop, List.length_take]; rfl)) ?_; (with_reducible refine (hdr_Number.calls ((⟨#[45]⟩ : ByteArray) ++ ((strOfNums y391) ++ x5_1)) 1048576 t400 t401 _ A10.out).mono ?_); rintro e w37 ⟨rfl, hb⟩; refine ⟨_, rfl, ?_⟩; have n0_ := Aside0.mk (Kd.R_below (by (with_reducible repeat (first | apply Kd.R_alloc | apply Kd.R_drewN | apply Kd.R_drew)); exact HO393.out) hb); have n1_ := Aside0.mk (below_step (by repeat (first | (with_reducible first | exact HB.out | apply below_alloc | apply pw_below_drewN | apply below_drew1) | exact HB.out)) hb); clear HO393; clear HB; have HO393 := n0_; have HB := n1_; clear n0_ n1_; (try clear hb); (try clear hb2); (try clear hk); (try clear hi)) | ((with_reducible refine gate_callee (f := 31) rfl ?_); refine goesL_ (some 74) rfl rfl Tryd.func31 (by kernel_rfl) rfl #[] rfl (by (try simp only [List.map_toArray, List.map_cons, List.map_nil]); first | done | rfl | (simp only [List.length_drop, List.length_take]; rfl)) ?_; (with_reducible refine (crossbucklaw02_awake.calls k1  true _ (Hand.Good.below false true hGG.out (by repeat (first | (with_reducible first | exact HB.out | apply below_alloc | apply pw_below_drewN | apply below_drew1) | exact HB.out)) rfl rfl) A25.out).mono ?_); rintro e w38 ⟨rfl, hb⟩; refine ⟨_, rfl, ?_⟩; have n0_ := Aside0.mk (Kd.R_below (by (with_reducible repeat (first | apply Kd.R_alloc | apply Kd.R_drewN | apply Kd.R_drew)); exact HO393.out) hb); have n1_ := Aside0.mk (below_step (by repeat (first | (with_reducible first | exact HB.out | apply below_alloc | apply pw_below_drewN | apply below_drew1) | exact HB.out)) hb); clear HO393; clear HB; have HO393 := n0_; have HB := n1_; clear n0_ n1_; (try clear hb); (try clear hb2); (try clear hk); (try clear hi)))
                          go_ret
                          exact ⟨by first | rfl | (simp [errW_none, errW_some] <;> rfl) | (simp [*, errW_none, errW_some] <;> rfl), by repeat (first | (with_reducible first | exact HB.out | apply below_alloc | apply pw_below_drewN | apply below_drew1) | exact HB.out)⟩
                        · rw [if_neg c30] at H
                          have c30b0 : (t399 == 6) = false := beq_eq_false_iff_ne.mpr c30
                          have c30b1 : (t399 != 6) = true := bne_iff_ne.mpr c30
                          exact absurd ((Option.some.inj H).trans hT.out) (by decide)
                      · rw [if_neg c29] at H
                        have c29b0 : (t397 == 6) = false := beq_eq_false_iff_ne.mpr c29
                        have c29b1 : (t397 != 6) = true := bne_iff_ne.mpr c29
                        exact absurd ((Option.some.inj H).trans hT.out) (by decide)
                    · rw [if_neg c28] at H
                      have c28b0 : (t394 == (wrap64 (a0))) = false := beq_eq_false_iff_ne.mpr c28
                      have c28b1 : (t394 != (wrap64 (a0))) = true := bne_iff_ne.mpr c28
                      exact absurd ((Option.some.inj H).trans hT.out) (by decide)
                  · rw [if_neg c27] at H
                    have c27b0 : (t395 == 0) = false := beq_eq_false_iff_ne.mpr c27
                    have c27b1 : (t395 != 0) = true := bne_iff_ne.mpr c27
                    exact absurd ((Option.some.inj H).trans hT.out) (by decide)
                · replace c26 := Bool.eq_false_iff.mpr c26
                  subst c26
                  have H1 : (some false) = some r := by rw [if_neg (show ¬ (false = true) by decide)] at H; exact H
                  clear H
                  have H := H1
                  clear H1
                  exact absurd ((Option.some.inj H).trans hT.out) (by decide)
            · rw [if_neg c8] at H
              exact absurd H (by simp)
          · rw [if_neg c6] at H
            exact absurd H (by simp)
        · rw [if_neg c4] at H
          have c4b0 : decide (x6_1 < 10) = false := decide_eq_false c4
          clear c4
          have H' := Aside0.mk H
          clear H
          go_wp2_with (first | ((with_reducible refine gate_dst (N := 23) rfl ?_); refine Kd.R_lit (Kd.int .u8) _ 5 ?hg (N := 23) ?hd (xs := ([(wrap64 (48 + (Int.tmod x6_1 10))) % 256] : List Int)) (inner := [.int .u8 ((wrap64 (48 + (Int.tmod x6_1 10))) % 256)]) (ok := fun _ => True) (okp := fun _ => True) ?hr ?hp (fun _ hk => hk) trivial (Below.refl _ _) (Nat.le_refl _) (by simp) ?_; (case hd => rfl); (case hg => rfl); (case hr => first | (go_simp; done) | (go_simp; rfl)); (case hp => exact (Reps.one (show Kd.M (Kd.int .u8) _ _ _ ((wrap64 (48 + (Int.tmod x6_1 10))) % 256) [.int .u8 ((wrap64 (48 + (Int.tmod x6_1 10))) % 256)] from rfl) (Reps.none _ _))); intro v392 w39 ho40 hb hg_ hnew_; clear hg_ hnew_; (first | rw [← Ny391.out] at ho40 | (simp only [Int.reduceToNat] at ho40; rw [← Ny391.out] at ho40)); have n0_ := Aside0.mk (Kd.R_lower ho40 (below_size (by repeat (first | (with_reducible first | exact HB.out | apply below_alloc | apply pw_below_drewN | apply below_drew1) | exact HB.out)))); have n1_ := Aside0.mk (below_step (by repeat (first | (with_reducible first | exact HB.out | apply below_alloc | apply pw_below_drewN | apply below_drew1) | exact HB.out)) hb); clear HB; have HO393 := n0_; have HB := n1_; clear n0_ n1_; clear hb ho40; have hcv41 := own_string (P := Tryd.prog) Tryd.underlying52 Tryd.underlying5 Tryd.underlying9 (Kd.own_of_R HO393.out)))
          go_roundg k1
          case measure => have := HK1.out; omega
          case rel => exact ⟨((strOfNums y391) ++ x5_1), (wrap64 (Int.tdiv x6_1 10)), (by first | rfl | (simp; done) | (simp [*]; done)), (by first | rfl | (simp; done) | (simp [*]; done)), H', ⟨by have := HK1.out; omega⟩, ⟨by repeat (first | (with_reducible first | exact HB.out | apply below_alloc | apply pw_below_drewN | apply below_drew1) | exact HB.out)⟩⟩
      · rw [if_neg c3] at H
        exact absurd H (by simp)

/-- THE ONE PURE STATEMENT of crossbucklaw02_HdrNumbers: yours. -/
def crossbucklaw02_HdrNumbers.Pure : Prop := ∀ (a0 : Int) (a1 : Int), (Lit.int .u16 a0).wf = true → (Lit.int .u16 a1).wf = true → ∃ k, crossbucklaw02_HdrNumbers.f k a0 a1 = some true
theorem crossbucklaw02_HdrNumbers.walk (P : crossbucklaw02_HdrNumbers.Pure) (a0 : Int) (a1 : Int) (w : World) (hG : Hand.Good false true w) (w0 : (Lit.int .u16 a0).wf = true) (w1 : (Lit.int .u16 a1).wf = true) :
    Calls Tryd.prog 5 #[.int .u16 a0, .int .u16 a1] w fun e w' => e = .returned (.bool true) ∧ Below w.heap.size w w' := by
  obtain ⟨k, h⟩ := P a0 a1 w0 w1
  refine (crossbucklaw02_HdrNumbers.calls k a0 a1 true w hG h (Aside0.mk rfl)).mono ?_
  rintro e w' ⟨rfl, hd⟩
  exact ⟨rfl, hd⟩

end Go.Proofs.YtloclimoffhbhaaDoor.PAll
