-- The walks of the chain's functions (version), by hand; the library's few by the print.
import Derived.Test.YtdemogdagemagaaPVcx3
namespace Go.Proofs.Ytdemogdagemagaa.PVc
open Go.RowKit Go.Proofs.YtdemogdagemagaaW.PrintWords Go.Proofs.YtdemogdagemagaaW.PrintLast Go.Proofs.YtdemogdagemagaaW.PrintMore
attribute [local go_sem] max2_int min2_int max_two min_two max_three min_three max_four min_four   -- for this text's walks alone
set_option linter.unusedVariables false
set_option linter.unusedSimpArgs false


/-! ### crossbuckref18_Unpin: function 32 -/
def crossbuckref18_Unpin.l0 : Nat → Int → List Int → Bool → Int → List Int → List Int → List Int → Option (List Int × List Int × List Int × Int)
  | 0, _, _, _, _, _, _, _ => none
  | k + 1, x1, x6, x7, x8, x149000, x149001, x149002 => if x8 < (x149002.length : Int) then (if 0 ≤ x8 then (if (rd x149002 x8) = x1 then (if x7 = true then (if x6.length < 17592186044416 then (crossbuckref18_Unpin.l0 k x1 (x6 ++ [rd x149002 x8]) x7 (wrap64 (x8 + 1)) x149000 x149001 x149002) else (none)) else (crossbuckref18_Unpin.l0 k x1 x6 true (wrap64 (x8 + 1)) x149000 x149001 x149002)) else (if x6.length < 17592186044416 then (crossbuckref18_Unpin.l0 k x1 (x6 ++ [rd x149002 x8]) x7 (wrap64 (x8 + 1)) x149000 x149001 x149002) else (none))) else (none)) else (some (x149000, x149001, x6, 0))
def crossbuckref18_Unpin.f (k : Nat) (l0_0 : List Int) (l0_1 : List Int) (l0_2 : List Int) (a1 : Int) : Option (List Int × List Int × List Int × Int) := (crossbuckref18_Pinned.f k l0_0 l0_1 l0_2 a1).bind fun t150 => (if t150 = 0 then (some (l0_0, l0_1, l0_2, 23)) else (crossbuckref18_Unpin.l0 k a1 ([] : List Int) false 0 l0_0 l0_1 l0_2))
theorem crossbuckref18_Unpin.mono_l : ∀ k, (∀ y0 y1 y2 y3 y4 y5 y6, LeO (crossbuckref18_Unpin.l0 k y0 y1 y2 y3 y4 y5 y6) (crossbuckref18_Unpin.l0 (k + 1) y0 y1 y2 y3 y4 y5 y6))
  | 0 => fun _ _ _ _ _ _ _ r h => by simp [crossbuckref18_Unpin.l0] at h
  | k + 1 => by
    have ih0 := crossbuckref18_Unpin.mono_l k
    · intro y0 y1 y2 y3 y4 y5 y6
      unfold crossbuckref18_Unpin.l0
      repeat' first
      | (with_reducible exact ih0 _ _ _ _ _ _ _)
      | (with_reducible exact crossbuckref18_Pinned.mono _ _ _ _ _)
      | (with_reducible exact LeO.refl _)
      | (with_reducible exact LeO.none _)
      | (with_reducible refine LeO.ite ?_ ?_)
      | (with_reducible refine LeO.bind ?_ (fun _ => ?_))
      | exact ih0 _ _ _ _ _ _ _
      | exact crossbuckref18_Pinned.mono _ _ _ _ _
      | exact LeO.none _
      | refine LeO.ite ?_ ?_
      | refine LeO.bind ?_ (fun _ => ?_)
theorem crossbuckref18_Unpin.mono : ∀ a0 a1 a2 a3 k, LeO (crossbuckref18_Unpin.f k a0 a1 a2 a3) (crossbuckref18_Unpin.f (k + 1) a0 a1 a2 a3) := by
  intro a0 a1 a2 a3 k
  have ih0 := crossbuckref18_Unpin.mono_l k
  unfold crossbuckref18_Unpin.f
  repeat' first
      | (with_reducible exact ih0 _ _ _ _ _ _ _)
      | (with_reducible exact crossbuckref18_Pinned.mono _ _ _ _ _)
      | (with_reducible exact LeO.refl _)
      | (with_reducible exact LeO.none _)
      | (with_reducible refine LeO.ite ?_ ?_)
      | (with_reducible refine LeO.bind ?_ (fun _ => ?_))
      | exact ih0 _ _ _ _ _ _ _
      | exact crossbuckref18_Pinned.mono _ _ _ _ _
      | exact LeO.none _
      | refine LeO.ite ?_ ?_
      | refine LeO.bind ?_ (fun _ => ?_)
set_option maxHeartbeats 8000000 in
set_option maxRecDepth 100000 in
theorem crossbuckref18_Unpin.calls (k : Nat) (P0_0_ : Nat → Prop) (u9000_ : Value) (l0_0 : List Int) (P0_1_ : Nat → Prop) (u9001_ : Value) (l0_1 : List Int) (P0_2_ : Nat → Prop) (u9002_ : Value) (l0_2 : List Int) (a1 : Int) (r1 : List Int) (r2 : List Int) (r3 : List Int) (r4 : Int) (w0 w : World) (hB : Below w0.heap.size w0 w) (ho0_0 : Kd.R (Kd.int .i64) 3 w w0.heap.size P0_0_ u9000_ l0_0) (hp0_0_0_1 : ∀ k_, P0_0_ k_ → ¬ P0_1_ k_) (hp0_0_0_2 : ∀ k_, P0_0_ k_ → ¬ P0_2_ k_) (ho0_1 : Kd.R (Kd.int .i64) 3 w w0.heap.size P0_1_ u9001_ l0_1) (hp0_1_0_0 : ∀ k_, P0_1_ k_ → ¬ P0_0_ k_) (hp0_1_0_2 : ∀ k_, P0_1_ k_ → ¬ P0_2_ k_) (ho0_2 : Kd.R (Kd.int .i64) 3 w w0.heap.size P0_2_ u9002_ l0_2) (hp0_2_0_0 : ∀ k_, P0_2_ k_ → ¬ P0_0_ k_) (hp0_2_0_1 : ∀ k_, P0_2_ k_ → ¬ P0_1_ k_) (h : crossbuckref18_Unpin.f k l0_0 l0_1 l0_2 a1 = some (r1, r2, r3, r4)) :
    Calls Try.prog 32 #[.agg #[u9000_, u9001_, u9002_], .int .i64 a1] w fun e w' => ∃ v0_ v1_ v2_ : Value, e = .returned (.tuple #[.agg #[v0_, v1_, v2_], .int .i64 r4]) ∧ Kd.R (Kd.int .i64) 3 w' w0.heap.size (fun k_ => ((P0_0_ k_ ∨ P0_1_ k_ ∨ P0_2_ k_) ∨ w.heap.size ≤ k_) ∧ some k_ ≠ (v1_ : Value).ownBlock ∧ some k_ ≠ (v2_ : Value).ownBlock) v0_ r1 ∧ Kd.R (Kd.int .i64) 3 w' w0.heap.size (fun k_ => ((P0_0_ k_ ∨ P0_1_ k_ ∨ P0_2_ k_) ∨ w.heap.size ≤ k_) ∧ some k_ ≠ (v0_ : Value).ownBlock ∧ some k_ ≠ (v2_ : Value).ownBlock) v1_ r2 ∧ Kd.R (Kd.int .i64) 3 w' w0.heap.size (fun k_ => ((P0_0_ k_ ∨ P0_1_ k_ ∨ P0_2_ k_) ∨ w.heap.size ≤ k_) ∧ some k_ ≠ (v0_ : Value).ownBlock ∧ some k_ ≠ (v1_ : Value).ownBlock) v2_ r3 ∧ Below w0.heap.size w0 w' ∧ Kept w w' (fun k_ => P0_0_ k_ ∨ P0_1_ k_ ∨ P0_2_ k_) := by
  have hu60 := Try.underlying60
  have HO0_0 := Aside0.mk (show Kd.R (Kd.int .i64) 3 w w0.heap.size (fun k_ => ((P0_0_ k_ ∨ P0_1_ k_ ∨ P0_2_ k_) ∨ w.heap.size ≤ k_) ∧ some k_ ≠ (u9001_ : Value).ownBlock ∧ some k_ ≠ (u9002_ : Value).ownBlock) u9000_ l0_0 from Kd.R_mono ho0_0 (fun k_ hk => ⟨(.inl (.inl hk)), fun e_ => hp0_0_0_1 k_ hk (ho0_1.1 k_ e_.symm), fun e_ => hp0_0_0_2 k_ hk (ho0_2.1 k_ e_.symm)⟩))
  have HO0_1 := Aside0.mk (show Kd.R (Kd.int .i64) 3 w w0.heap.size (fun k_ => ((P0_0_ k_ ∨ P0_1_ k_ ∨ P0_2_ k_) ∨ w.heap.size ≤ k_) ∧ some k_ ≠ (u9000_ : Value).ownBlock ∧ some k_ ≠ (u9002_ : Value).ownBlock) u9001_ l0_1 from Kd.R_mono ho0_1 (fun k_ hk => ⟨(.inl (.inr (.inl hk))), fun e_ => hp0_1_0_0 k_ hk (ho0_0.1 k_ e_.symm), fun e_ => hp0_1_0_2 k_ hk (ho0_2.1 k_ e_.symm)⟩))
  have HO0_2 := Aside0.mk (show Kd.R (Kd.int .i64) 3 w w0.heap.size (fun k_ => ((P0_0_ k_ ∨ P0_1_ k_ ∨ P0_2_ k_) ∨ w.heap.size ≤ k_) ∧ some k_ ≠ (u9000_ : Value).ownBlock ∧ some k_ ≠ (u9001_ : Value).ownBlock) u9002_ l0_2 from Kd.R_mono ho0_2 (fun k_ hk => ⟨(.inl (.inr (.inr hk))), fun e_ => hp0_2_0_0 k_ hk (ho0_0.1 k_ e_.symm), fun e_ => hp0_2_0_1 k_ hk (ho0_1.1 k_ e_.symm)⟩))
  have HK := Aside0.mk (Kept.refl w (fun k_ => P0_0_ k_ ∨ P0_1_ k_ ∨ P0_2_ k_))
  have HW0 := Aside0.mk hB.size
  have HB := Aside0.mk hB
  clear hB
  have H : ((crossbuckref18_Pinned.f k l0_0 l0_1 l0_2 a1).bind fun t150 => (if t150 = 0 then (some (l0_0, l0_1, l0_2, 23)) else (crossbuckref18_Unpin.l0 k a1 ([] : List Int) false 0 l0_0 l0_1 l0_2))) = some (r1, r2, r3, r4) := h
  clear h
  replace H := Option.bind_eq_some_iff.mp H
  obtain ⟨t150, A30, H⟩ := H
  replace H : (if t150 = 0 then (some (l0_0, l0_1, l0_2, 23)) else (crossbuckref18_Unpin.l0 k a1 ([] : List Int) false 0 l0_0 l0_1 l0_2)) = some (r1, r2, r3, r4) := H
  have A3 := Aside0.mk A30
  clear A30
  by_cases c4 : t150 = 0
  · rw [if_pos c4] at H
    have c4b0 : (t150 == 0) = true := beq_iff_eq.mpr c4
    have c4b1 : (t150 != 0) = false := bne_eq_false_iff_eq.mpr c4
    clear c4
    simp only [Option.some.injEq, Prod.mk.injEq] at H
    obtain ⟨rfl, rfl, rfl, rfl⟩ := H
    obtain ⟨Ao5, co5, eo5⟩ := Kd.R_slice HO0_0.out
    subst eo5
    obtain ⟨Ao6, co6, eo6⟩ := Kd.R_slice HO0_1.out
    subst eo6
    obtain ⟨Ao7, co7, eo7⟩ := Kd.R_slice HO0_2.out
    subst eo7
    go_enter Try.func32, Try.ntmps32
    go_wp2_with (first | ((with_reducible refine gate_dst (N := 2) rfl ?_); refine box_event ?hg (N := 2) ?hd (cs := #[.slice Ao5 l0_0.length co5, .slice Ao6 l0_1.length co6, .slice Ao7 l0_2.length co7]) (t := 60) ?hr ?_; (case hd => rfl); (case hg => rfl); (case hr => first | (go_simp; done) | (go_simp; rfl)); intro gb148 hg w8 hbox hb; have n0_ := Aside0.mk (Kd.R_below (by (with_reducible repeat (first | apply Kd.R_alloc | apply Kd.R_drewN | apply Kd.R_drew)); exact HO0_0.out) hb); have n1_ := Aside0.mk (Kd.R_below (by (with_reducible repeat (first | apply Kd.R_alloc | apply Kd.R_drewN | apply Kd.R_drew)); exact HO0_1.out) hb); have n2_ := Aside0.mk (Kd.R_below (by (with_reducible repeat (first | apply Kd.R_alloc | apply Kd.R_drewN | apply Kd.R_drew)); exact HO0_2.out) hb); have n3_ := Aside0.mk (Kept.below (S := (fun k_ => P0_0_ k_ ∨ P0_1_ k_ ∨ P0_2_ k_)) (by repeat (first | (with_reducible first | exact HK.out | apply Kept.alloc | apply Kept.drewN | apply Kept.drew) | exact HK.out)) hb); have n4_ := Aside0.mk (below_step (by repeat (first | (with_reducible first | exact HB.out | apply below_alloc | apply pw_below_drewN | apply below_drew1) | exact HB.out)) hb); have n5_ := Aside0.mk (hbox); have n6_ := Aside0.mk ((by rw [hg]; exact (by first | exact HK.out.1 | exact (show Kept w _ (fun k_ => P0_0_ k_ ∨ P0_1_ k_ ∨ P0_2_ k_) from by repeat (first | (with_reducible first | exact HK.out | apply Kept.alloc | apply Kept.drewN | apply Kept.drew) | exact HK.out)).1) : w.heap.size ≤ gb148)); have n7_ := Aside0.mk ((by rw [hg]; exact (below_size (by repeat (first | (with_reducible first | exact HB.out | apply below_alloc | apply pw_below_drewN | apply below_drew1) | exact HB.out))) : w0.heap.size ≤ gb148)); clear HO0_0; clear HO0_1; clear HO0_2; clear HK; clear HB; have HO0_0 := n0_; have HO0_1 := n1_; have HO0_2 := n2_; have HK := n3_; have HB := n4_; have BK148 := n5_; have GW148 := n6_; have GE148 := n7_; clear n0_ n1_ n2_ n3_ n4_ n5_ n6_ n7_; clear hb hbox hg) | ((with_reducible refine gate_dst (N := 4) rfl ?_); refine box_event ?hg (N := 4) ?hd (cs := #[.slice none 0 0, .slice none 0 0, .slice none 0 0]) (t := 60) ?hr ?_; (case hd => rfl); (case hg => rfl); (case hr => first | (go_simp; done) | (go_simp; rfl)); intro gb149 hg w9 hbox hb; have n0_ := Aside0.mk (Kd.R_below (by (with_reducible repeat (first | apply Kd.R_alloc | apply Kd.R_drewN | apply Kd.R_drew)); exact HO0_0.out) hb); have n1_ := Aside0.mk (Kd.R_below (by (with_reducible repeat (first | apply Kd.R_alloc | apply Kd.R_drewN | apply Kd.R_drew)); exact HO0_1.out) hb); have n2_ := Aside0.mk (Kd.R_below (by (with_reducible repeat (first | apply Kd.R_alloc | apply Kd.R_drewN | apply Kd.R_drew)); exact HO0_2.out) hb); have n3_ := Aside0.mk (blk_below (g := gb148) (o := .cells #[.slice Ao5 l0_0.length co5, .slice Ao6 l0_1.length co6, .slice Ao7 l0_2.length co7] 60 (0, 0)) (by (with_reducible repeat (first | refine blk_drewN ?_ _ | refine blk_drew ?_ | refine blk_alloc ?_ _)); exact BK148.out) hb); have n4_ := Aside0.mk (Kept.below (S := (fun k_ => P0_0_ k_ ∨ P0_1_ k_ ∨ P0_2_ k_)) (by repeat (first | (with_reducible first | exact HK.out | apply Kept.alloc | apply Kept.drewN | apply Kept.drew | refine Kept.setCell ?_ (.inr GW148.out) _) | exact HK.out)) hb); have n5_ := Aside0.mk (below_step (by repeat (first | (with_reducible first | exact HB.out | apply below_alloc | apply pw_below_drewN | apply below_drew1 | refine below_set ?_ GE148.out) | exact HB.out)) hb); have n6_ := Aside0.mk (hbox); have n7_ := Aside0.mk ((by rw [hg]; exact (by first | exact HK.out.1 | exact (show Kept w _ (fun k_ => P0_0_ k_ ∨ P0_1_ k_ ∨ P0_2_ k_) from by repeat (first | (with_reducible first | exact HK.out | apply Kept.alloc | apply Kept.drewN | apply Kept.drew | refine Kept.setCell ?_ (.inr GW148.out) _) | exact HK.out)).1) : w.heap.size ≤ gb149)); have n8_ := Aside0.mk ((by rw [hg]; exact (below_size (by repeat (first | (with_reducible first | exact HB.out | apply below_alloc | apply pw_below_drewN | apply below_drew1 | refine below_set ?_ GE148.out) | exact HB.out))) : w0.heap.size ≤ gb149)); have n9_ := Aside0.mk ((by rw [hg]; exact Nat.ne_of_lt (blk_lt (g := gb148) (o := .cells #[.slice Ao5 l0_0.length co5, .slice Ao6 l0_1.length co6, .slice Ao7 l0_2.length co7] 60 (0, 0)) (by (with_reducible repeat (first | refine blk_drewN ?_ _ | refine blk_drew ?_ | refine blk_alloc ?_ _)); exact BK148.out)) : gb148 ≠ gb149)); have n10_ := Aside0.mk ((by rw [hg]; exact Nat.ne_of_gt (blk_lt (g := gb148) (o := .cells #[.slice Ao5 l0_0.length co5, .slice Ao6 l0_1.length co6, .slice Ao7 l0_2.length co7] 60 (0, 0)) (by (with_reducible repeat (first | refine blk_drewN ?_ _ | refine blk_drew ?_ | refine blk_alloc ?_ _)); exact BK148.out)) : gb149 ≠ gb148)); clear HO0_0; clear HO0_1; clear HO0_2; clear BK148; clear HK; clear HB; have HO0_0 := n0_; have HO0_1 := n1_; have HO0_2 := n2_; have BK148 := n3_; have HK := n4_; have HB := n5_; have BK149 := n6_; have GW149 := n7_; have GE149 := n8_; have NB148_149 := n9_; have NB149_148 := n10_; clear n0_ n1_ n2_ n3_ n4_ n5_ n6_ n7_ n8_ n9_ n10_; clear hb hbox hg; have hnb10 := NB148_149.out; have hnc10 := NB149_148.out; have hcz11_0 : w9.cell? ⟨gb148, 0, none⟩ = some (.slice Ao5 l0_0.length co5) := (blk_cell BK148.out 0).trans rfl; have hcz11_1 : w9.cell? ⟨gb148, 1, none⟩ = some (.slice Ao6 l0_1.length co6) := (blk_cell BK148.out 1).trans rfl; have hcz11_2 : w9.cell? ⟨gb148, 2, none⟩ = some (.slice Ao7 l0_2.length co7) := (blk_cell BK148.out 2).trans rfl; have hfz11_0 := blk_frozen BK148.out 0; have hfz11_1 := blk_frozen BK148.out 1; have hfz11_2 := blk_frozen BK148.out 2) | ((with_reducible refine gate_callee (f := 56) rfl ?_); refine goesL_ (some 11) rfl rfl Try.func56 (by kernel_rfl) rfl #[.agg #[.slice Ao5 l0_0.length co5, .slice Ao6 l0_1.length co6, .slice Ao7 l0_2.length co7], .int .i64 a1] rfl (by (try simp only [List.map_toArray, List.map_cons, List.map_nil]); first | done | rfl | (simp only [List.length_drop, List.length_take]; rfl)) ?_; (with_reducible refine (crossbuckref18_Pinned.calls k _ _ l0_0 _ _ l0_1 _ _ l0_2 a1 t150 _ ?side1 ?side2 ?side3 ?side4 ?side5 ?side6 A3.out).mono ?_); (case side1 => repeat (first | exact (Kd.R_reads' HO0_0.out).2.2 | (with_reducible refine Kd.C_alloc ?_ _) | (with_reducible refine Kd.C_drewN ?_ _) | (with_reducible refine Kd.C_drew ?_))); (case side2 => exact (Kd.R_reads' HO0_0.out).2.1); (case side3 => repeat (first | exact (Kd.R_reads' HO0_1.out).2.2 | (with_reducible refine Kd.C_alloc ?_ _) | (with_reducible refine Kd.C_drewN ?_ _) | (with_reducible refine Kd.C_drew ?_))); (case side4 => exact (Kd.R_reads' HO0_1.out).2.1); (case side5 => repeat (first | exact (Kd.R_reads' HO0_2.out).2.2 | (with_reducible refine Kd.C_alloc ?_ _) | (with_reducible refine Kd.C_drewN ?_ _) | (with_reducible refine Kd.C_drew ?_))); (case side6 => exact (Kd.R_reads' HO0_2.out).2.1); rintro e w12 ⟨rfl, hb⟩; refine ⟨_, rfl, ?_⟩; have n0_ := Aside0.mk (Kd.R_below (by (with_reducible repeat (first | apply Kd.R_alloc | apply Kd.R_drewN | apply Kd.R_drew)); exact HO0_0.out) hb); have n1_ := Aside0.mk (Kd.R_below (by (with_reducible repeat (first | apply Kd.R_alloc | apply Kd.R_drewN | apply Kd.R_drew)); exact HO0_1.out) hb); have n2_ := Aside0.mk (Kd.R_below (by (with_reducible repeat (first | apply Kd.R_alloc | apply Kd.R_drewN | apply Kd.R_drew)); exact HO0_2.out) hb); have n3_ := Aside0.mk (blk_below (g := gb148) (o := .cells #[.slice Ao5 l0_0.length co5, .slice Ao6 l0_1.length co6, .slice Ao7 l0_2.length co7] 60 (0, 0)) (by (with_reducible repeat (first | refine blk_drewN ?_ _ | refine blk_drew ?_ | refine blk_alloc ?_ _)); exact BK148.out) hb); have n4_ := Aside0.mk (blk_below (g := gb149) (o := .cells #[.slice none 0 0, .slice none 0 0, .slice none 0 0] 60 (0, 0)) (by (with_reducible repeat (first | refine blk_drewN ?_ _ | refine blk_drew ?_ | refine blk_alloc ?_ _)); exact BK149.out) hb); have n5_ := Aside0.mk (Kept.below (S := (fun k_ => P0_0_ k_ ∨ P0_1_ k_ ∨ P0_2_ k_)) (by repeat (first | (with_reducible first | exact HK.out | apply Kept.alloc | apply Kept.drewN | apply Kept.drew | refine Kept.setCell ?_ (.inr GW148.out) _ | refine Kept.setCell ?_ (.inr GW149.out) _) | exact HK.out)) hb); have n6_ := Aside0.mk (below_step (by repeat (first | (with_reducible first | exact HB.out | apply below_alloc | apply pw_below_drewN | apply below_drew1 | refine below_set ?_ GE148.out | refine below_set ?_ GE149.out) | exact HB.out)) hb); clear HO0_0; clear HO0_1; clear HO0_2; clear BK148; clear BK149; clear HK; clear HB; have HO0_0 := n0_; have HO0_1 := n1_; have HO0_2 := n2_; have BK148 := n3_; have BK149 := n4_; have HK := n5_; have HB := n6_; clear n0_ n1_ n2_ n3_ n4_ n5_ n6_; (try clear hb); (try clear hb2); (try clear hk); (try clear hi); have hcz13_0 : w12.cell? ⟨gb148, 0, none⟩ = some (.slice Ao5 l0_0.length co5) := (blk_cell BK148.out 0).trans rfl; have hcz13_1 : w12.cell? ⟨gb148, 1, none⟩ = some (.slice Ao6 l0_1.length co6) := (blk_cell BK148.out 1).trans rfl; have hcz13_2 : w12.cell? ⟨gb148, 2, none⟩ = some (.slice Ao7 l0_2.length co7) := (blk_cell BK148.out 2).trans rfl; have hfz13_0 := blk_frozen BK148.out 0; have hfz13_1 := blk_frozen BK148.out 1; have hfz13_2 := blk_frozen BK148.out 2; have hcz14_0 : w12.cell? ⟨gb149, 0, none⟩ = some (.slice none 0 0) := (blk_cell BK149.out 0).trans rfl; have hcz14_1 : w12.cell? ⟨gb149, 1, none⟩ = some (.slice none 0 0) := (blk_cell BK149.out 1).trans rfl; have hcz14_2 : w12.cell? ⟨gb149, 2, none⟩ = some (.slice none 0 0) := (blk_cell BK149.out 2).trans rfl; have hfz14_0 := blk_frozen BK149.out 0; have hfz14_1 := blk_frozen BK149.out 1; have hfz14_2 := blk_frozen BK149.out 2))
    refine bodyPost_ret (results_ct rfl _ _ gb149 60 #[.slice Ao5 l0_0.length co5, .slice Ao6 l0_1.length co6, .slice Ao7 l0_2.length co7] (0, 0) _ rfl (by (with_reducible repeat (first | refine blk_drewN ?_ _ | refine blk_drew ?_ | refine blk_alloc ?_ _)); refine blk_put (cs := #[.slice Ao5 l0_0.length co5, .slice Ao6 l0_1.length co6, .slice none 0 0]) ?_ 2 _ rfl; (with_reducible repeat (first | refine blk_drewN ?_ _ | refine blk_drew ?_ | refine blk_alloc ?_ _)); refine blk_put (cs := #[.slice Ao5 l0_0.length co5, .slice none 0 0, .slice none 0 0]) ?_ 1 _ rfl; (with_reducible repeat (first | refine blk_drewN ?_ _ | refine blk_drew ?_ | refine blk_alloc ?_ _)); refine blk_put (cs := #[.slice none 0 0, .slice none 0 0, .slice none 0 0]) ?_ 0 _ rfl; (with_reducible repeat (first | refine blk_drewN ?_ _ | refine blk_drew ?_ | refine blk_alloc ?_ _)); exact BK149.out) Try.underlying60 rfl (by kernel_rfl)) rfl ?_
    exact ⟨_, _, _, by first | rfl | (simp [errW_none, errW_some] <;> rfl) | (simp [*, errW_none, errW_some] <;> rfl), by (with_reducible repeat (first | apply Kd.R_alloc | apply Kd.R_drewN | apply Kd.R_drew)); exact Kd.R_mono (Kd.R_far (p := ⟨gb149, 2, none⟩) (Kd.R_far (p := ⟨gb149, 1, none⟩) (Kd.R_far (p := ⟨gb149, 0, none⟩) (Kd.R_types HO0_0.out BK149.out (by decide)) (fun _ hk => hk.2) (.slice Ao5 l0_0.length co5)) (fun _ hk => hk.2) (.slice Ao6 l0_1.length co6)) (fun _ hk => hk.2) (.slice Ao7 l0_2.length co7)) (fun _ hk => ⟨hk.1.1, ⟨hk.1.2.1, hk.1.2.2⟩⟩), by (with_reducible repeat (first | apply Kd.R_alloc | apply Kd.R_drewN | apply Kd.R_drew)); exact Kd.R_mono (Kd.R_far (p := ⟨gb149, 2, none⟩) (Kd.R_far (p := ⟨gb149, 1, none⟩) (Kd.R_far (p := ⟨gb149, 0, none⟩) (Kd.R_types HO0_1.out BK149.out (by decide)) (fun _ hk => hk.2) (.slice Ao5 l0_0.length co5)) (fun _ hk => hk.2) (.slice Ao6 l0_1.length co6)) (fun _ hk => hk.2) (.slice Ao7 l0_2.length co7)) (fun _ hk => ⟨hk.1.1, ⟨hk.1.2.1, hk.1.2.2⟩⟩), by (with_reducible repeat (first | apply Kd.R_alloc | apply Kd.R_drewN | apply Kd.R_drew)); exact Kd.R_mono (Kd.R_far (p := ⟨gb149, 2, none⟩) (Kd.R_far (p := ⟨gb149, 1, none⟩) (Kd.R_far (p := ⟨gb149, 0, none⟩) (Kd.R_types HO0_2.out BK149.out (by decide)) (fun _ hk => hk.2) (.slice Ao5 l0_0.length co5)) (fun _ hk => hk.2) (.slice Ao6 l0_1.length co6)) (fun _ hk => hk.2) (.slice Ao7 l0_2.length co7)) (fun _ hk => ⟨hk.1.1, ⟨hk.1.2.1, hk.1.2.2⟩⟩), by repeat (first | (with_reducible first | exact HB.out | apply below_alloc | apply pw_below_drewN | apply below_drew1 | refine below_set ?_ GE148.out | refine below_set ?_ GE149.out) | exact HB.out), by repeat (first | (with_reducible first | exact HK.out | apply Kept.alloc | apply Kept.drewN | apply Kept.drew | refine Kept.setCell ?_ (.inr GW148.out) _ | refine Kept.setCell ?_ (.inr GW149.out) _) | exact HK.out)⟩
  · rw [if_neg c4] at H
    have c4b0 : (t150 == 0) = false := beq_eq_false_iff_ne.mpr c4
    have c4b1 : (t150 != 0) = true := bne_iff_ne.mpr c4
    have H' := Aside0.mk H
    clear H
    obtain ⟨Ao15, co15, eo15⟩ := Kd.R_slice HO0_0.out
    subst eo15
    obtain ⟨Ao16, co16, eo16⟩ := Kd.R_slice HO0_1.out
    subst eo16
    obtain ⟨Ao17, co17, eo17⟩ := Kd.R_slice HO0_2.out
    subst eo17
    go_enter Try.func32, Try.ntmps32
    go_wp2_with (first | ((with_reducible refine gate_dst (N := 2) rfl ?_); refine box_event ?hg (N := 2) ?hd (cs := #[.slice Ao15 l0_0.length co15, .slice Ao16 l0_1.length co16, .slice Ao17 l0_2.length co17]) (t := 60) ?hr ?_; (case hd => rfl); (case hg => rfl); (case hr => first | (go_simp; done) | (go_simp; rfl)); intro gb148 hg w18 hbox hb; have n0_ := Aside0.mk (Kd.R_below (by (with_reducible repeat (first | apply Kd.R_alloc | apply Kd.R_drewN | apply Kd.R_drew)); exact HO0_0.out) hb); have n1_ := Aside0.mk (Kd.R_below (by (with_reducible repeat (first | apply Kd.R_alloc | apply Kd.R_drewN | apply Kd.R_drew)); exact HO0_1.out) hb); have n2_ := Aside0.mk (Kd.R_below (by (with_reducible repeat (first | apply Kd.R_alloc | apply Kd.R_drewN | apply Kd.R_drew)); exact HO0_2.out) hb); have n3_ := Aside0.mk (Kept.below (S := (fun k_ => P0_0_ k_ ∨ P0_1_ k_ ∨ P0_2_ k_)) (by repeat (first | (with_reducible first | exact HK.out | apply Kept.alloc | apply Kept.drewN | apply Kept.drew) | exact HK.out)) hb); have n4_ := Aside0.mk (below_step (by repeat (first | (with_reducible first | exact HB.out | apply below_alloc | apply pw_below_drewN | apply below_drew1) | exact HB.out)) hb); have n5_ := Aside0.mk (hbox); have n6_ := Aside0.mk ((by rw [hg]; exact (by first | exact HK.out.1 | exact (show Kept w _ (fun k_ => P0_0_ k_ ∨ P0_1_ k_ ∨ P0_2_ k_) from by repeat (first | (with_reducible first | exact HK.out | apply Kept.alloc | apply Kept.drewN | apply Kept.drew) | exact HK.out)).1) : w.heap.size ≤ gb148)); have n7_ := Aside0.mk ((by rw [hg]; exact (below_size (by repeat (first | (with_reducible first | exact HB.out | apply below_alloc | apply pw_below_drewN | apply below_drew1) | exact HB.out))) : w0.heap.size ≤ gb148)); clear HO0_0; clear HO0_1; clear HO0_2; clear HK; clear HB; have HO0_0 := n0_; have HO0_1 := n1_; have HO0_2 := n2_; have HK := n3_; have HB := n4_; have BK148 := n5_; have GW148 := n6_; have GE148 := n7_; clear n0_ n1_ n2_ n3_ n4_ n5_ n6_ n7_; clear hb hbox hg) | ((with_reducible refine gate_dst (N := 4) rfl ?_); refine box_event ?hg (N := 4) ?hd (cs := #[.slice none 0 0, .slice none 0 0, .slice none 0 0]) (t := 60) ?hr ?_; (case hd => rfl); (case hg => rfl); (case hr => first | (go_simp; done) | (go_simp; rfl)); intro gb149 hg w19 hbox hb; have n0_ := Aside0.mk (Kd.R_below (by (with_reducible repeat (first | apply Kd.R_alloc | apply Kd.R_drewN | apply Kd.R_drew)); exact HO0_0.out) hb); have n1_ := Aside0.mk (Kd.R_below (by (with_reducible repeat (first | apply Kd.R_alloc | apply Kd.R_drewN | apply Kd.R_drew)); exact HO0_1.out) hb); have n2_ := Aside0.mk (Kd.R_below (by (with_reducible repeat (first | apply Kd.R_alloc | apply Kd.R_drewN | apply Kd.R_drew)); exact HO0_2.out) hb); have n3_ := Aside0.mk (blk_below (g := gb148) (o := .cells #[.slice Ao15 l0_0.length co15, .slice Ao16 l0_1.length co16, .slice Ao17 l0_2.length co17] 60 (0, 0)) (by (with_reducible repeat (first | refine blk_drewN ?_ _ | refine blk_drew ?_ | refine blk_alloc ?_ _)); exact BK148.out) hb); have n4_ := Aside0.mk (Kept.below (S := (fun k_ => P0_0_ k_ ∨ P0_1_ k_ ∨ P0_2_ k_)) (by repeat (first | (with_reducible first | exact HK.out | apply Kept.alloc | apply Kept.drewN | apply Kept.drew | refine Kept.setCell ?_ (.inr GW148.out) _) | exact HK.out)) hb); have n5_ := Aside0.mk (below_step (by repeat (first | (with_reducible first | exact HB.out | apply below_alloc | apply pw_below_drewN | apply below_drew1 | refine below_set ?_ GE148.out) | exact HB.out)) hb); have n6_ := Aside0.mk (hbox); have n7_ := Aside0.mk ((by rw [hg]; exact (by first | exact HK.out.1 | exact (show Kept w _ (fun k_ => P0_0_ k_ ∨ P0_1_ k_ ∨ P0_2_ k_) from by repeat (first | (with_reducible first | exact HK.out | apply Kept.alloc | apply Kept.drewN | apply Kept.drew | refine Kept.setCell ?_ (.inr GW148.out) _) | exact HK.out)).1) : w.heap.size ≤ gb149)); have n8_ := Aside0.mk ((by rw [hg]; exact (below_size (by repeat (first | (with_reducible first | exact HB.out | apply below_alloc | apply pw_below_drewN | apply below_drew1 | refine below_set ?_ GE148.out) | exact HB.out))) : w0.heap.size ≤ gb149)); have n9_ := Aside0.mk ((by rw [hg]; exact Nat.ne_of_lt (blk_lt (g := gb148) (o := .cells #[.slice Ao15 l0_0.length co15, .slice Ao16 l0_1.length co16, .slice Ao17 l0_2.length co17] 60 (0, 0)) (by (with_reducible repeat (first | refine blk_drewN ?_ _ | refine blk_drew ?_ | refine blk_alloc ?_ _)); exact BK148.out)) : gb148 ≠ gb149)); have n10_ := Aside0.mk ((by rw [hg]; exact Nat.ne_of_gt (blk_lt (g := gb148) (o := .cells #[.slice Ao15 l0_0.length co15, .slice Ao16 l0_1.length co16, .slice Ao17 l0_2.length co17] 60 (0, 0)) (by (with_reducible repeat (first | refine blk_drewN ?_ _ | refine blk_drew ?_ | refine blk_alloc ?_ _)); exact BK148.out)) : gb149 ≠ gb148)); clear HO0_0; clear HO0_1; clear HO0_2; clear BK148; clear HK; clear HB; have HO0_0 := n0_; have HO0_1 := n1_; have HO0_2 := n2_; have BK148 := n3_; have HK := n4_; have HB := n5_; have BK149 := n6_; have GW149 := n7_; have GE149 := n8_; have NB148_149 := n9_; have NB149_148 := n10_; clear n0_ n1_ n2_ n3_ n4_ n5_ n6_ n7_ n8_ n9_ n10_; clear hb hbox hg; have hnb20 := NB148_149.out; have hnc20 := NB149_148.out; have hcz21_0 : w19.cell? ⟨gb148, 0, none⟩ = some (.slice Ao15 l0_0.length co15) := (blk_cell BK148.out 0).trans rfl; have hcz21_1 : w19.cell? ⟨gb148, 1, none⟩ = some (.slice Ao16 l0_1.length co16) := (blk_cell BK148.out 1).trans rfl; have hcz21_2 : w19.cell? ⟨gb148, 2, none⟩ = some (.slice Ao17 l0_2.length co17) := (blk_cell BK148.out 2).trans rfl; have hfz21_0 := blk_frozen BK148.out 0; have hfz21_1 := blk_frozen BK148.out 1; have hfz21_2 := blk_frozen BK148.out 2) | ((with_reducible refine gate_callee (f := 56) rfl ?_); refine goesL_ (some 11) rfl rfl Try.func56 (by kernel_rfl) rfl #[.agg #[.slice Ao15 l0_0.length co15, .slice Ao16 l0_1.length co16, .slice Ao17 l0_2.length co17], .int .i64 a1] rfl (by (try simp only [List.map_toArray, List.map_cons, List.map_nil]); first | done | rfl | (simp only [List.length_drop, List.length_take]; rfl)) ?_; (with_reducible refine (crossbuckref18_Pinned.calls k _ _ l0_0 _ _ l0_1 _ _ l0_2 a1 t150 _ ?side1 ?side2 ?side3 ?side4 ?side5 ?side6 A3.out).mono ?_); (case side1 => repeat (first | exact (Kd.R_reads' HO0_0.out).2.2 | (with_reducible refine Kd.C_alloc ?_ _) | (with_reducible refine Kd.C_drewN ?_ _) | (with_reducible refine Kd.C_drew ?_))); (case side2 => exact (Kd.R_reads' HO0_0.out).2.1); (case side3 => repeat (first | exact (Kd.R_reads' HO0_1.out).2.2 | (with_reducible refine Kd.C_alloc ?_ _) | (with_reducible refine Kd.C_drewN ?_ _) | (with_reducible refine Kd.C_drew ?_))); (case side4 => exact (Kd.R_reads' HO0_1.out).2.1); (case side5 => repeat (first | exact (Kd.R_reads' HO0_2.out).2.2 | (with_reducible refine Kd.C_alloc ?_ _) | (with_reducible refine Kd.C_drewN ?_ _) | (with_reducible refine Kd.C_drew ?_))); (case side6 => exact (Kd.R_reads' HO0_2.out).2.1); rintro e w22 ⟨rfl, hb⟩; refine ⟨_, rfl, ?_⟩; have n0_ := Aside0.mk (Kd.R_below (by (with_reducible repeat (first | apply Kd.R_alloc | apply Kd.R_drewN | apply Kd.R_drew)); exact HO0_0.out) hb); have n1_ := Aside0.mk (Kd.R_below (by (with_reducible repeat (first | apply Kd.R_alloc | apply Kd.R_drewN | apply Kd.R_drew)); exact HO0_1.out) hb); have n2_ := Aside0.mk (Kd.R_below (by (with_reducible repeat (first | apply Kd.R_alloc | apply Kd.R_drewN | apply Kd.R_drew)); exact HO0_2.out) hb); have n3_ := Aside0.mk (blk_below (g := gb148) (o := .cells #[.slice Ao15 l0_0.length co15, .slice Ao16 l0_1.length co16, .slice Ao17 l0_2.length co17] 60 (0, 0)) (by (with_reducible repeat (first | refine blk_drewN ?_ _ | refine blk_drew ?_ | refine blk_alloc ?_ _)); exact BK148.out) hb); have n4_ := Aside0.mk (blk_below (g := gb149) (o := .cells #[.slice none 0 0, .slice none 0 0, .slice none 0 0] 60 (0, 0)) (by (with_reducible repeat (first | refine blk_drewN ?_ _ | refine blk_drew ?_ | refine blk_alloc ?_ _)); exact BK149.out) hb); have n5_ := Aside0.mk (Kept.below (S := (fun k_ => P0_0_ k_ ∨ P0_1_ k_ ∨ P0_2_ k_)) (by repeat (first | (with_reducible first | exact HK.out | apply Kept.alloc | apply Kept.drewN | apply Kept.drew | refine Kept.setCell ?_ (.inr GW148.out) _ | refine Kept.setCell ?_ (.inr GW149.out) _) | exact HK.out)) hb); have n6_ := Aside0.mk (below_step (by repeat (first | (with_reducible first | exact HB.out | apply below_alloc | apply pw_below_drewN | apply below_drew1 | refine below_set ?_ GE148.out | refine below_set ?_ GE149.out) | exact HB.out)) hb); clear HO0_0; clear HO0_1; clear HO0_2; clear BK148; clear BK149; clear HK; clear HB; have HO0_0 := n0_; have HO0_1 := n1_; have HO0_2 := n2_; have BK148 := n3_; have BK149 := n4_; have HK := n5_; have HB := n6_; clear n0_ n1_ n2_ n3_ n4_ n5_ n6_; (try clear hb); (try clear hb2); (try clear hk); (try clear hi)))
    go_loopg [6, 7, 8] k (fun kq v6 v7 v8 w' => ∃ (x6_1 : List Int) (x7_1 : Bool) (x8_1 : Int), v7 = .bool x7_1 ∧ v8 = .int .i64 x8_1 ∧ Aside0 (crossbuckref18_Unpin.l0 kq a1 x6_1 x7_1 x8_1 l0_0 l0_1 l0_2 = some (r1, r2, r3, r4)) ∧ Aside0 (kq ≤ k) ∧ Aside0 (Kd.R (Kd.int .i64) 3 w' w0.heap.size (fun k_ => ((P0_0_ k_ ∨ P0_1_ k_ ∨ P0_2_ k_) ∨ w.heap.size ≤ k_) ∧ some k_ ≠ ((.slice Ao15 l0_0.length co15) : Value).ownBlock ∧ some k_ ≠ ((.slice Ao16 l0_1.length co16) : Value).ownBlock ∧ some k_ ≠ ((.slice Ao17 l0_2.length co17) : Value).ownBlock) v6 x6_1) ∧ Aside0 (Kd.R (Kd.int .i64) 3 w' w0.heap.size (fun k_ => ((P0_0_ k_ ∨ P0_1_ k_ ∨ P0_2_ k_) ∨ w.heap.size ≤ k_) ∧ some k_ ≠ (v6 : Value).ownBlock ∧ some k_ ≠ ((.slice Ao16 l0_1.length co16) : Value).ownBlock ∧ some k_ ≠ ((.slice Ao17 l0_2.length co17) : Value).ownBlock) (.slice Ao15 l0_0.length co15) l0_0) ∧ Aside0 (Kd.R (Kd.int .i64) 3 w' w0.heap.size (fun k_ => ((P0_0_ k_ ∨ P0_1_ k_ ∨ P0_2_ k_) ∨ w.heap.size ≤ k_) ∧ some k_ ≠ (v6 : Value).ownBlock ∧ some k_ ≠ ((.slice Ao15 l0_0.length co15) : Value).ownBlock ∧ some k_ ≠ ((.slice Ao17 l0_2.length co17) : Value).ownBlock) (.slice Ao16 l0_1.length co16) l0_1) ∧ Aside0 (Kd.R (Kd.int .i64) 3 w' w0.heap.size (fun k_ => ((P0_0_ k_ ∨ P0_1_ k_ ∨ P0_2_ k_) ∨ w.heap.size ≤ k_) ∧ some k_ ≠ (v6 : Value).ownBlock ∧ some k_ ≠ ((.slice Ao15 l0_0.length co15) : Value).ownBlock ∧ some k_ ≠ ((.slice Ao16 l0_1.length co16) : Value).ownBlock) (.slice Ao17 l0_2.length co17) l0_2) ∧ Aside0 (w'.heap[gb148]? = some (.cells #[(.slice Ao15 l0_0.length co15), (.slice Ao16 l0_1.length co16), (.slice Ao17 l0_2.length co17)] 60 (0, 0))) ∧ Aside0 (w'.heap[gb149]? = some (.cells #[(.slice none 0 0), (.slice none 0 0), (.slice none 0 0)] 60 (0, 0))) ∧ Aside0 (Kept w w' (fun k_ => P0_0_ k_ ∨ P0_1_ k_ ∨ P0_2_ k_)) ∧ Aside0 (Below w0.heap.size w0 w'))
    case atStart => exact ⟨(([] : List Int)), (false), (0), (by first | rfl | (simp; done) | (simp [*]; done)), (by first | rfl | (simp; done) | (simp [*]; done)), H', ⟨Nat.le_refl _⟩, ⟨by first | exact Kd.R_nil _ _ _ _ _ | exact Kd.N_nil _ _ _ _ _ | exact Kd.V_nil _ _ _ _ _ | exact Kd.Q_nil _ _ _ _ _ | exact Kd.S_nil _ _ _ _ _⟩, ⟨by (with_reducible repeat (first | apply Kd.R_alloc | apply Kd.R_drewN | apply Kd.R_drew)); exact Kd.R_mono HO0_0.out (fun _ hk => ⟨hk.1, ⟨(by simp [Value.ownBlock]), ⟨hk.2.1, hk.2.2⟩⟩⟩)⟩, ⟨by (with_reducible repeat (first | apply Kd.R_alloc | apply Kd.R_drewN | apply Kd.R_drew)); exact Kd.R_mono HO0_1.out (fun _ hk => ⟨hk.1, ⟨(by simp [Value.ownBlock]), ⟨hk.2.1, hk.2.2⟩⟩⟩)⟩, ⟨by (with_reducible repeat (first | apply Kd.R_alloc | apply Kd.R_drewN | apply Kd.R_drew)); exact Kd.R_mono HO0_2.out (fun _ hk => ⟨hk.1, ⟨(by simp [Value.ownBlock]), ⟨hk.2.1, hk.2.2⟩⟩⟩)⟩, ⟨by (with_reducible repeat (first | refine blk_drewN ?_ _ | refine blk_drew ?_ | refine blk_alloc ?_ _)); exact BK148.out⟩, ⟨by (with_reducible repeat (first | refine blk_drewN ?_ _ | refine blk_drew ?_ | refine blk_alloc ?_ _)); exact BK149.out⟩, ⟨by repeat (first | (with_reducible first | exact HK.out | apply Kept.alloc | apply Kept.drewN | apply Kept.drew | refine Kept.setCell ?_ (.inr GW148.out) _ | refine Kept.setCell ?_ (.inr GW149.out) _) | exact HK.out)⟩, ⟨by repeat (first | (with_reducible first | exact HB.out | apply below_alloc | apply pw_below_drewN | apply below_drew1 | refine below_set ?_ GE148.out | refine below_set ?_ GE149.out) | exact HB.out)⟩⟩
    case round =>
      clear H'
      try clear c1
      try clear c2
      try clear p2
      try clear c3
      try clear c4
      try clear c4b0
      try clear c4b1
      try clear c5
      try clear c10
      try clear c20
      try clear hcz11_0
      try clear hcz11_1
      try clear hcz11_2
      try clear hcz13_0
      try clear hcz13_1
      try clear hcz13_2
      try clear hcz14_0
      try clear hcz14_1
      try clear hcz14_2
      try clear hcz21_0
      try clear hcz21_1
      try clear hcz21_2
      try clear hfz11_0
      try clear hfz11_1
      try clear hfz11_2
      try clear hfz13_0
      try clear hfz13_1
      try clear hfz13_2
      try clear hfz14_0
      try clear hfz14_1
      try clear hfz14_2
      try clear hfz21_0
      try clear hfz21_1
      try clear hfz21_2
      obtain ⟨x6_1, x7_1, x8_1, rfl, rfl, HA, HK1, HO_6, HO_149000, HO_149001, HO_149002, BK148, BK149, HK, HB⟩ := hrel
      cases gk with
      | zero => exact absurd HA.out (by simp [crossbuckref18_Unpin.l0])
      | succ k1 =>
        have H := HA.out
        clear HA
        simp only [crossbuckref18_Unpin.l0] at H
        by_cases c23 : x8_1 < (l0_2.length : Int)
        · rw [if_pos c23] at H
          have c23b0 : decide (x8_1 < (l0_2.length : Int)) = true := decide_eq_true c23
          clear c23
          by_cases c24 : 0 ≤ x8_1
          · rw [if_pos c24] at H
            have c24b0 : decide (0 ≤ x8_1) = true := decide_eq_true c24
            clear c24
            by_cases c25 : (rd l0_2 x8_1) = a1
            · rw [if_pos c25] at H
              have c25b0 : ((rd l0_2 x8_1) == a1) = true := beq_iff_eq.mpr c25
              have c25b1 : ((rd l0_2 x8_1) != a1) = false := bne_eq_false_iff_eq.mpr c25
              clear c25
              by_cases c26 : x7_1 = true
              · subst c26
                have H1 : (if x6_1.length < 17592186044416 then (crossbuckref18_Unpin.l0 k1 a1 (x6_1 ++ [rd l0_2 x8_1]) true (wrap64 (x8_1 + 1)) l0_0 l0_1 l0_2) else (none)) = some (r1, r2, r3, r4) := by rw [if_pos rfl] at H; exact H
                clear H
                have H := H1
                clear H1
                by_cases c27 : x6_1.length < 17592186044416
                · rw [if_pos c27] at H
                  have LMc27 := Aside0.mk c27
                  clear c27
                  obtain ⟨y153, hy153⟩ : ∃ y_ : List Int, y_ = (x6_1 ++ [rd l0_2 x8_1]) := ⟨_, rfl⟩
                  replace H : (crossbuckref18_Unpin.l0 k1 a1 y153 true (wrap64 (x8_1 + 1)) l0_0 l0_1 l0_2) = some (r1, r2, r3, r4) := by first | (rw [hy153]; with_reducible exact H) | (have H2_ := (Option.bind_some _ _).symm.trans H; rw [hy153]; with_reducible exact H2_) | (have H2_ := (Option.bind_some _ _).symm.trans H; with_reducible exact H2_) | with_reducible exact H | (rw [hy153]; exact H) | exact H
                  have Ny153 := Aside0.mk hy153
                  clear hy153
                  have H' := Aside0.mk H
                  clear H
                  have hnb28 := NB148_149.out
                  have hnc28 := NB149_148.out
                  have hcz29_0 : wr.cell? ⟨gb148, 0, none⟩ = some (.slice Ao15 l0_0.length co15) := (blk_cell BK148.out 0).trans rfl
                  have hcz29_1 : wr.cell? ⟨gb148, 1, none⟩ = some (.slice Ao16 l0_1.length co16) := (blk_cell BK148.out 1).trans rfl
                  have hcz29_2 : wr.cell? ⟨gb148, 2, none⟩ = some (.slice Ao17 l0_2.length co17) := (blk_cell BK148.out 2).trans rfl
                  have hfz29_0 := blk_frozen BK148.out 0
                  have hfz29_1 := blk_frozen BK148.out 1
                  have hfz29_2 := blk_frozen BK148.out 2
                  have p151 : 0 ≤ (x8_1 : Int) := of_decide_eq_true (by first | (with_reducible assumption) | assumption)
                  have q151 : x8_1 < (l0_2.length : Int) := of_decide_eq_true (by first | (with_reducible assumption) | assumption)
                  obtain ⟨ad151, e151, hx151_0⟩ := Kd.at_int (Kd.R_reads' HO_149002.out).2.2 x8_1 p151 q151
                  cases e151
                  replace p151 := eq_true p151
                  replace q151 := eq_true q151
                  have p152 : 0 ≤ (x8_1 : Int) := of_decide_eq_true (by first | (with_reducible assumption) | assumption)
                  have q152 : x8_1 < (l0_2.length : Int) := of_decide_eq_true (by first | (with_reducible assumption) | assumption)
                  obtain ⟨ad152, e152, hx152_0⟩ := Kd.at_int (Kd.R_reads' HO_149002.out).2.2 x8_1 p152 q152
                  obtain rfl : ad151 = ad152 := (by injection e152)
                  replace p152 := eq_true p152
                  replace q152 := eq_true q152
                  go_wp2_with (first | ((with_reducible refine gate_builtin (b := .append) (xs := #[.tmp 32, .tmp 38]) rfl ?_); at_builtin; refine Kd.R_append (Kd.int .i64) (w0 := w0) w0.heap.size rfl (.tmp 32) (.tmp 38) 22 3 (.int .i64 0) 8 rfl Try.underlying22 info3 rfl (by decide) (by omega) u6 x6_1 (rd l0_2 x8_1) [.int .i64 (rd l0_2 x8_1)] (fun k_ => ((P0_0_ k_ ∨ P0_1_ k_ ∨ P0_2_ k_) ∨ w.heap.size ≤ k_) ∧ some k_ ≠ (.slice Ao15 l0_0.length co15 : Value).ownBlock ∧ some k_ ≠ (.slice Ao16 l0_1.length co16 : Value).ownBlock ∧ some k_ ≠ (.slice (some ad151) l0_2.length co17 : Value).ownBlock) (fun _ => False) rfl rfl ?aP (fun _ hk => hk.elim) ?aF ?aO ?aB ?aS ?aL ?_; (case aP => exact rfl); (case aB => exact (by repeat (first | (with_reducible first | exact HB.out | apply below_alloc | apply pw_below_drewN | apply below_drew1 | refine below_set ?_ GE148.out | refine below_set ?_ GE149.out) | exact HB.out))); (case aF => exact (fun k_ hk => ⟨(.inr (Nat.le_trans (by first | exact HK.out.1 | exact (show Kept w _ (fun k_ => P0_0_ k_ ∨ P0_1_ k_ ∨ P0_2_ k_) from by repeat (first | (with_reducible first | exact HK.out | apply Kept.alloc | apply Kept.drewN | apply Kept.drew | refine Kept.setCell ?_ (.inr GW148.out) _ | refine Kept.setCell ?_ (.inr GW149.out) _) | exact HK.out)).1) hk)), Kd.fresh' (Kd.R_lt (by (with_reducible repeat (first | apply Kd.R_alloc | apply Kd.R_drewN | apply Kd.R_drew)); exact HO_149000.out)) k_ hk, Kd.fresh' (Kd.R_lt (by (with_reducible repeat (first | apply Kd.R_alloc | apply Kd.R_drewN | apply Kd.R_drew)); exact HO_149001.out)) k_ hk, Kd.fresh' (Kd.R_lt (by (with_reducible repeat (first | apply Kd.R_alloc | apply Kd.R_drewN | apply Kd.R_drew)); exact HO_149002.out)) k_ hk⟩)); (case aO => exact (by (with_reducible repeat (first | apply Kd.R_alloc | apply Kd.R_drewN | apply Kd.R_drew)); exact HO_6.out)); (case aS => exact (below_size (by repeat (first | (with_reducible first | exact HB.out | apply below_alloc | apply pw_below_drewN | apply below_drew1 | refine below_set ?_ GE148.out | refine below_set ?_ GE149.out) | exact HB.out)))); (case aL => have := LMc27.out; omega); intro v154 w30 ho hb hg hat; rw [← Ny153.out] at ho; have n0_ := Aside0.mk (Kd.R_after (ok := (fun k_ => ((P0_0_ k_ ∨ P0_1_ k_ ∨ P0_2_ k_) ∨ w.heap.size ≤ k_) ∧ some k_ ≠ (.slice Ao16 l0_1.length co16 : Value).ownBlock ∧ some k_ ≠ (.slice (some ad151) l0_2.length co17 : Value).ownBlock)) (by (with_reducible repeat (first | apply Kd.R_alloc | apply Kd.R_drewN | apply Kd.R_drew)); exact Kd.R_mono HO_149000.out (fun _ hk => ⟨⟨hk.1, ⟨hk.2.2.1, hk.2.2.2⟩⟩, hk.2.1⟩)) hg hat); have n1_ := Aside0.mk (Kd.R_after (ok := (fun k_ => ((P0_0_ k_ ∨ P0_1_ k_ ∨ P0_2_ k_) ∨ w.heap.size ≤ k_) ∧ some k_ ≠ (.slice Ao15 l0_0.length co15 : Value).ownBlock ∧ some k_ ≠ (.slice (some ad151) l0_2.length co17 : Value).ownBlock)) (by (with_reducible repeat (first | apply Kd.R_alloc | apply Kd.R_drewN | apply Kd.R_drew)); exact Kd.R_mono HO_149001.out (fun _ hk => ⟨⟨hk.1, ⟨hk.2.2.1, hk.2.2.2⟩⟩, hk.2.1⟩)) hg hat); have n2_ := Aside0.mk (Kd.R_after (ok := (fun k_ => ((P0_0_ k_ ∨ P0_1_ k_ ∨ P0_2_ k_) ∨ w.heap.size ≤ k_) ∧ some k_ ≠ (.slice Ao15 l0_0.length co15 : Value).ownBlock ∧ some k_ ≠ (.slice Ao16 l0_1.length co16 : Value).ownBlock)) (by (with_reducible repeat (first | apply Kd.R_alloc | apply Kd.R_drewN | apply Kd.R_drew)); exact Kd.R_mono HO_149002.out (fun _ hk => ⟨⟨hk.1, ⟨hk.2.2.1, hk.2.2.2⟩⟩, hk.2.1⟩)) hg hat); have n3_ := Aside0.mk (blk_grown (g := gb148) (o := .cells #[.slice Ao15 l0_0.length co15, .slice Ao16 l0_1.length co16, .slice (some ad151) l0_2.length co17] 60 (0, 0)) (by (with_reducible repeat (first | refine blk_drewN ?_ _ | refine blk_drew ?_ | refine blk_alloc ?_ _)); exact BK148.out) hg (Kd.R_ne HO_6.out BK148.out (by decide))); have n4_ := Aside0.mk (blk_grown (g := gb149) (o := .cells #[.slice none 0 0, .slice none 0 0, .slice none 0 0] 60 (0, 0)) (by (with_reducible repeat (first | refine blk_drewN ?_ _ | refine blk_drew ?_ | refine blk_alloc ?_ _)); exact BK149.out) hg (Kd.R_ne HO_6.out BK149.out (by decide))); have n5_ := Aside0.mk (hb); have n6_ := Aside0.mk (Kept.of_grown (S := (fun k_ => P0_0_ k_ ∨ P0_1_ k_ ∨ P0_2_ k_)) hg (by repeat (first | (with_reducible first | exact HK.out | apply Kept.alloc | apply Kept.drewN | apply Kept.drew | refine Kept.setCell ?_ (.inr GW148.out) _ | refine Kept.setCell ?_ (.inr GW149.out) _) | exact HK.out)) (fun k_ e_ => (HO_6.out.1 k_ e_).1)); have n7_ := Aside0.mk (ho); clear HO_149000; clear HO_149001; clear HO_149002; clear BK148; clear BK149; clear HB; clear HK; clear HO_6; have HO_149000 := n0_; have HO_149001 := n1_; have HO_149002 := n2_; have BK148 := n3_; have BK149 := n4_; have HB := n5_; have HK := n6_; have HO155 := n7_; clear n0_ n1_ n2_ n3_ n4_ n5_ n6_ n7_; clear ho hb hg hat))
                  go_roundg k1
                  case measure => have := HK1.out; omega
                  case rel => exact ⟨(y153), (true), (wrap64 (x8_1 + 1)), (by first | rfl | (simp; done) | (simp [*]; done)), (by first | rfl | (simp; done) | (simp [*]; done)), H', ⟨by have := HK1.out; omega⟩, ⟨by (with_reducible repeat (first | apply Kd.R_alloc | apply Kd.R_drewN | apply Kd.R_drew)); exact HO155.out⟩, ⟨by (with_reducible repeat (first | apply Kd.R_alloc | apply Kd.R_drewN | apply Kd.R_drew)); exact Kd.R_mono HO_149000.out (fun _ hk => ⟨hk.1.1, ⟨hk.2, ⟨hk.1.2.1, hk.1.2.2⟩⟩⟩)⟩, ⟨by (with_reducible repeat (first | apply Kd.R_alloc | apply Kd.R_drewN | apply Kd.R_drew)); exact Kd.R_mono HO_149001.out (fun _ hk => ⟨hk.1.1, ⟨hk.2, ⟨hk.1.2.1, hk.1.2.2⟩⟩⟩)⟩, ⟨by (with_reducible repeat (first | apply Kd.R_alloc | apply Kd.R_drewN | apply Kd.R_drew)); exact Kd.R_mono HO_149002.out (fun _ hk => ⟨hk.1.1, ⟨hk.2, ⟨hk.1.2.1, hk.1.2.2⟩⟩⟩)⟩, ⟨by (with_reducible repeat (first | refine blk_drewN ?_ _ | refine blk_drew ?_ | refine blk_alloc ?_ _)); exact BK148.out⟩, ⟨by (with_reducible repeat (first | refine blk_drewN ?_ _ | refine blk_drew ?_ | refine blk_alloc ?_ _)); exact BK149.out⟩, ⟨by repeat (first | (with_reducible first | exact HK.out | apply Kept.alloc | apply Kept.drewN | apply Kept.drew | refine Kept.setCell ?_ (.inr GW148.out) _ | refine Kept.setCell ?_ (.inr GW149.out) _) | exact HK.out)⟩, ⟨by repeat (first | (with_reducible first | exact HB.out | apply below_alloc | apply pw_below_drewN | apply below_drew1 | refine below_set ?_ GE148.out | refine below_set ?_ GE149.out) | exact HB.out)⟩⟩
                · rw [if_neg c27] at H
                  exact absurd H (by simp)
              · replace c26 := Bool.eq_false_iff.mpr c26
                subst c26
                have H1 : (crossbuckref18_Unpin.l0 k1 a1 x6_1 true (wrap64 (x8_1 + 1)) l0_0 l0_1 l0_2) = some (r1, r2, r3, r4) := by rw [if_neg (show ¬ (false = true) by decide)] at H; exact H
                clear H
                have H := H1
                clear H1
                have H' := Aside0.mk H
                clear H
                have hnb31 := NB148_149.out
                have hnc31 := NB149_148.out
                have hcz32_0 : wr.cell? ⟨gb148, 0, none⟩ = some (.slice Ao15 l0_0.length co15) := (blk_cell BK148.out 0).trans rfl
                have hcz32_1 : wr.cell? ⟨gb148, 1, none⟩ = some (.slice Ao16 l0_1.length co16) := (blk_cell BK148.out 1).trans rfl
                have hcz32_2 : wr.cell? ⟨gb148, 2, none⟩ = some (.slice Ao17 l0_2.length co17) := (blk_cell BK148.out 2).trans rfl
                have hfz32_0 := blk_frozen BK148.out 0
                have hfz32_1 := blk_frozen BK148.out 1
                have hfz32_2 := blk_frozen BK148.out 2
                have p151 : 0 ≤ (x8_1 : Int) := of_decide_eq_true (by first | (with_reducible assumption) | assumption)
                have q151 : x8_1 < (l0_2.length : Int) := of_decide_eq_true (by first | (with_reducible assumption) | assumption)
                obtain ⟨ad151, e151, hx151_0⟩ := Kd.at_int (Kd.R_reads' HO_149002.out).2.2 x8_1 p151 q151
                cases e151
                replace p151 := eq_true p151
                replace q151 := eq_true q151
                go_wp2
                go_roundg k1
                case measure => have := HK1.out; omega
                case rel => exact ⟨(x6_1), (true), (wrap64 (x8_1 + 1)), (by first | rfl | (simp; done) | (simp [*]; done)), (by first | rfl | (simp; done) | (simp [*]; done)), H', ⟨by have := HK1.out; omega⟩, ⟨by (with_reducible repeat (first | apply Kd.R_alloc | apply Kd.R_drewN | apply Kd.R_drew)); exact HO_6.out⟩, ⟨by (with_reducible repeat (first | apply Kd.R_alloc | apply Kd.R_drewN | apply Kd.R_drew)); exact HO_149000.out⟩, ⟨by (with_reducible repeat (first | apply Kd.R_alloc | apply Kd.R_drewN | apply Kd.R_drew)); exact HO_149001.out⟩, ⟨by (with_reducible repeat (first | apply Kd.R_alloc | apply Kd.R_drewN | apply Kd.R_drew)); exact HO_149002.out⟩, ⟨by (with_reducible repeat (first | refine blk_drewN ?_ _ | refine blk_drew ?_ | refine blk_alloc ?_ _)); exact BK148.out⟩, ⟨by (with_reducible repeat (first | refine blk_drewN ?_ _ | refine blk_drew ?_ | refine blk_alloc ?_ _)); exact BK149.out⟩, ⟨by repeat (first | (with_reducible first | exact HK.out | apply Kept.alloc | apply Kept.drewN | apply Kept.drew | refine Kept.setCell ?_ (.inr GW148.out) _ | refine Kept.setCell ?_ (.inr GW149.out) _) | exact HK.out)⟩, ⟨by repeat (first | (with_reducible first | exact HB.out | apply below_alloc | apply pw_below_drewN | apply below_drew1 | refine below_set ?_ GE148.out | refine below_set ?_ GE149.out) | exact HB.out)⟩⟩
            · rw [if_neg c25] at H
              have c25b0 : ((rd l0_2 x8_1) == a1) = false := beq_eq_false_iff_ne.mpr c25
              have c25b1 : ((rd l0_2 x8_1) != a1) = true := bne_iff_ne.mpr c25
              by_cases c33 : x6_1.length < 17592186044416
              · rw [if_pos c33] at H
                have LMc33 := Aside0.mk c33
                clear c33
                obtain ⟨y157, hy157⟩ : ∃ y_ : List Int, y_ = (x6_1 ++ [rd l0_2 x8_1]) := ⟨_, rfl⟩
                replace H : (crossbuckref18_Unpin.l0 k1 a1 y157 x7_1 (wrap64 (x8_1 + 1)) l0_0 l0_1 l0_2) = some (r1, r2, r3, r4) := by first | (rw [hy157]; with_reducible exact H) | (have H2_ := (Option.bind_some _ _).symm.trans H; rw [hy157]; with_reducible exact H2_) | (have H2_ := (Option.bind_some _ _).symm.trans H; with_reducible exact H2_) | with_reducible exact H | (rw [hy157]; exact H) | exact H
                have Ny157 := Aside0.mk hy157
                clear hy157
                have H' := Aside0.mk H
                clear H
                have hnb34 := NB148_149.out
                have hnc34 := NB149_148.out
                have hcz35_0 : wr.cell? ⟨gb148, 0, none⟩ = some (.slice Ao15 l0_0.length co15) := (blk_cell BK148.out 0).trans rfl
                have hcz35_1 : wr.cell? ⟨gb148, 1, none⟩ = some (.slice Ao16 l0_1.length co16) := (blk_cell BK148.out 1).trans rfl
                have hcz35_2 : wr.cell? ⟨gb148, 2, none⟩ = some (.slice Ao17 l0_2.length co17) := (blk_cell BK148.out 2).trans rfl
                have hfz35_0 := blk_frozen BK148.out 0
                have hfz35_1 := blk_frozen BK148.out 1
                have hfz35_2 := blk_frozen BK148.out 2
                have p151 : 0 ≤ (x8_1 : Int) := of_decide_eq_true (by first | (with_reducible assumption) | assumption)
                have q151 : x8_1 < (l0_2.length : Int) := of_decide_eq_true (by first | (with_reducible assumption) | assumption)
                obtain ⟨ad151, e151, hx151_0⟩ := Kd.at_int (Kd.R_reads' HO_149002.out).2.2 x8_1 p151 q151
                cases e151
                replace p151 := eq_true p151
                replace q151 := eq_true q151
                have p156 : 0 ≤ (x8_1 : Int) := of_decide_eq_true (by first | (with_reducible assumption) | assumption)
                have q156 : x8_1 < (l0_2.length : Int) := of_decide_eq_true (by first | (with_reducible assumption) | assumption)
                obtain ⟨ad156, e156, hx156_0⟩ := Kd.at_int (Kd.R_reads' HO_149002.out).2.2 x8_1 p156 q156
                obtain rfl : ad151 = ad156 := (by injection e156)
                replace p156 := eq_true p156
                replace q156 := eq_true q156
                go_wp2_with (first | ((with_reducible refine gate_builtin (b := .append) (xs := #[.tmp 32, .tmp 38]) rfl ?_); at_builtin; refine Kd.R_append (Kd.int .i64) (w0 := w0) w0.heap.size rfl (.tmp 32) (.tmp 38) 22 3 (.int .i64 0) 8 rfl Try.underlying22 info3 rfl (by decide) (by omega) u6 x6_1 (rd l0_2 x8_1) [.int .i64 (rd l0_2 x8_1)] (fun k_ => ((P0_0_ k_ ∨ P0_1_ k_ ∨ P0_2_ k_) ∨ w.heap.size ≤ k_) ∧ some k_ ≠ (.slice Ao15 l0_0.length co15 : Value).ownBlock ∧ some k_ ≠ (.slice Ao16 l0_1.length co16 : Value).ownBlock ∧ some k_ ≠ (.slice (some ad151) l0_2.length co17 : Value).ownBlock) (fun _ => False) rfl rfl ?aP (fun _ hk => hk.elim) ?aF ?aO ?aB ?aS ?aL ?_; (case aP => exact rfl); (case aB => exact (by repeat (first | (with_reducible first | exact HB.out | apply below_alloc | apply pw_below_drewN | apply below_drew1 | refine below_set ?_ GE148.out | refine below_set ?_ GE149.out) | exact HB.out))); (case aF => exact (fun k_ hk => ⟨(.inr (Nat.le_trans (by first | exact HK.out.1 | exact (show Kept w _ (fun k_ => P0_0_ k_ ∨ P0_1_ k_ ∨ P0_2_ k_) from by repeat (first | (with_reducible first | exact HK.out | apply Kept.alloc | apply Kept.drewN | apply Kept.drew | refine Kept.setCell ?_ (.inr GW148.out) _ | refine Kept.setCell ?_ (.inr GW149.out) _) | exact HK.out)).1) hk)), Kd.fresh' (Kd.R_lt (by (with_reducible repeat (first | apply Kd.R_alloc | apply Kd.R_drewN | apply Kd.R_drew)); exact HO_149000.out)) k_ hk, Kd.fresh' (Kd.R_lt (by (with_reducible repeat (first | apply Kd.R_alloc | apply Kd.R_drewN | apply Kd.R_drew)); exact HO_149001.out)) k_ hk, Kd.fresh' (Kd.R_lt (by (with_reducible repeat (first | apply Kd.R_alloc | apply Kd.R_drewN | apply Kd.R_drew)); exact HO_149002.out)) k_ hk⟩)); (case aO => exact (by (with_reducible repeat (first | apply Kd.R_alloc | apply Kd.R_drewN | apply Kd.R_drew)); exact HO_6.out)); (case aS => exact (below_size (by repeat (first | (with_reducible first | exact HB.out | apply below_alloc | apply pw_below_drewN | apply below_drew1 | refine below_set ?_ GE148.out | refine below_set ?_ GE149.out) | exact HB.out)))); (case aL => have := LMc33.out; omega); intro v158 w36 ho hb hg hat; rw [← Ny157.out] at ho; have n0_ := Aside0.mk (Kd.R_after (ok := (fun k_ => ((P0_0_ k_ ∨ P0_1_ k_ ∨ P0_2_ k_) ∨ w.heap.size ≤ k_) ∧ some k_ ≠ (.slice Ao16 l0_1.length co16 : Value).ownBlock ∧ some k_ ≠ (.slice (some ad151) l0_2.length co17 : Value).ownBlock)) (by (with_reducible repeat (first | apply Kd.R_alloc | apply Kd.R_drewN | apply Kd.R_drew)); exact Kd.R_mono HO_149000.out (fun _ hk => ⟨⟨hk.1, ⟨hk.2.2.1, hk.2.2.2⟩⟩, hk.2.1⟩)) hg hat); have n1_ := Aside0.mk (Kd.R_after (ok := (fun k_ => ((P0_0_ k_ ∨ P0_1_ k_ ∨ P0_2_ k_) ∨ w.heap.size ≤ k_) ∧ some k_ ≠ (.slice Ao15 l0_0.length co15 : Value).ownBlock ∧ some k_ ≠ (.slice (some ad151) l0_2.length co17 : Value).ownBlock)) (by (with_reducible repeat (first | apply Kd.R_alloc | apply Kd.R_drewN | apply Kd.R_drew)); exact Kd.R_mono HO_149001.out (fun _ hk => ⟨⟨hk.1, ⟨hk.2.2.1, hk.2.2.2⟩⟩, hk.2.1⟩)) hg hat); have n2_ := Aside0.mk (Kd.R_after (ok := (fun k_ => ((P0_0_ k_ ∨ P0_1_ k_ ∨ P0_2_ k_) ∨ w.heap.size ≤ k_) ∧ some k_ ≠ (.slice Ao15 l0_0.length co15 : Value).ownBlock ∧ some k_ ≠ (.slice Ao16 l0_1.length co16 : Value).ownBlock)) (by (with_reducible repeat (first | apply Kd.R_alloc | apply Kd.R_drewN | apply Kd.R_drew)); exact Kd.R_mono HO_149002.out (fun _ hk => ⟨⟨hk.1, ⟨hk.2.2.1, hk.2.2.2⟩⟩, hk.2.1⟩)) hg hat); have n3_ := Aside0.mk (blk_grown (g := gb148) (o := .cells #[.slice Ao15 l0_0.length co15, .slice Ao16 l0_1.length co16, .slice (some ad151) l0_2.length co17] 60 (0, 0)) (by (with_reducible repeat (first | refine blk_drewN ?_ _ | refine blk_drew ?_ | refine blk_alloc ?_ _)); exact BK148.out) hg (Kd.R_ne HO_6.out BK148.out (by decide))); have n4_ := Aside0.mk (blk_grown (g := gb149) (o := .cells #[.slice none 0 0, .slice none 0 0, .slice none 0 0] 60 (0, 0)) (by (with_reducible repeat (first | refine blk_drewN ?_ _ | refine blk_drew ?_ | refine blk_alloc ?_ _)); exact BK149.out) hg (Kd.R_ne HO_6.out BK149.out (by decide))); have n5_ := Aside0.mk (hb); have n6_ := Aside0.mk (Kept.of_grown (S := (fun k_ => P0_0_ k_ ∨ P0_1_ k_ ∨ P0_2_ k_)) hg (by repeat (first | (with_reducible first | exact HK.out | apply Kept.alloc | apply Kept.drewN | apply Kept.drew | refine Kept.setCell ?_ (.inr GW148.out) _ | refine Kept.setCell ?_ (.inr GW149.out) _) | exact HK.out)) (fun k_ e_ => (HO_6.out.1 k_ e_).1)); have n7_ := Aside0.mk (ho); clear HO_149000; clear HO_149001; clear HO_149002; clear BK148; clear BK149; clear HB; clear HK; clear HO_6; have HO_149000 := n0_; have HO_149001 := n1_; have HO_149002 := n2_; have BK148 := n3_; have BK149 := n4_; have HB := n5_; have HK := n6_; have HO159 := n7_; clear n0_ n1_ n2_ n3_ n4_ n5_ n6_ n7_; clear ho hb hg hat))
                go_roundg k1
                case measure => have := HK1.out; omega
                case rel => exact ⟨(y157), (x7_1), (wrap64 (x8_1 + 1)), (by first | rfl | (simp; done) | (simp [*]; done)), (by first | rfl | (simp; done) | (simp [*]; done)), H', ⟨by have := HK1.out; omega⟩, ⟨by (with_reducible repeat (first | apply Kd.R_alloc | apply Kd.R_drewN | apply Kd.R_drew)); exact HO159.out⟩, ⟨by (with_reducible repeat (first | apply Kd.R_alloc | apply Kd.R_drewN | apply Kd.R_drew)); exact Kd.R_mono HO_149000.out (fun _ hk => ⟨hk.1.1, ⟨hk.2, ⟨hk.1.2.1, hk.1.2.2⟩⟩⟩)⟩, ⟨by (with_reducible repeat (first | apply Kd.R_alloc | apply Kd.R_drewN | apply Kd.R_drew)); exact Kd.R_mono HO_149001.out (fun _ hk => ⟨hk.1.1, ⟨hk.2, ⟨hk.1.2.1, hk.1.2.2⟩⟩⟩)⟩, ⟨by (with_reducible repeat (first | apply Kd.R_alloc | apply Kd.R_drewN | apply Kd.R_drew)); exact Kd.R_mono HO_149002.out (fun _ hk => ⟨hk.1.1, ⟨hk.2, ⟨hk.1.2.1, hk.1.2.2⟩⟩⟩)⟩, ⟨by (with_reducible repeat (first | refine blk_drewN ?_ _ | refine blk_drew ?_ | refine blk_alloc ?_ _)); exact BK148.out⟩, ⟨by (with_reducible repeat (first | refine blk_drewN ?_ _ | refine blk_drew ?_ | refine blk_alloc ?_ _)); exact BK149.out⟩, ⟨by repeat (first | (with_reducible first | exact HK.out | apply Kept.alloc | apply Kept.drewN | apply Kept.drew | refine Kept.setCell ?_ (.inr GW148.out) _ | refine Kept.setCell ?_ (.inr GW149.out) _) | exact HK.out)⟩, ⟨by repeat (first | (with_reducible first | exact HB.out | apply below_alloc | apply pw_below_drewN | apply below_drew1 | refine below_set ?_ GE148.out | refine below_set ?_ GE149.out) | exact HB.out)⟩⟩
              · rw [if_neg c33] at H
                exact absurd H (by simp)
          · rw [if_neg c24] at H
            exact absurd H (by simp)
        · rw [if_neg c23] at H
          have c23b0 : decide (x8_1 < (l0_2.length : Int)) = false := decide_eq_false c23
          clear c23
          simp only [Option.some.injEq, Prod.mk.injEq] at H
          obtain ⟨rfl, rfl, rfl, rfl⟩ := H
          have hnb37 := NB148_149.out
          have hnc37 := NB149_148.out
          have hcz38_0 : wr.cell? ⟨gb148, 0, none⟩ = some (.slice Ao15 l0_0.length co15) := (blk_cell BK148.out 0).trans rfl
          have hcz38_1 : wr.cell? ⟨gb148, 1, none⟩ = some (.slice Ao16 l0_1.length co16) := (blk_cell BK148.out 1).trans rfl
          have hcz38_2 : wr.cell? ⟨gb148, 2, none⟩ = some (.slice Ao17 l0_2.length co17) := (blk_cell BK148.out 2).trans rfl
          have hfz38_0 := blk_frozen BK148.out 0
          have hfz38_1 := blk_frozen BK148.out 1
          have hfz38_2 := blk_frozen BK148.out 2
          obtain ⟨Ao39, co39, eo39⟩ := Kd.R_slice HO_6.out
          subst eo39
          have hcz40_0 : wr.cell? ⟨gb149, 0, none⟩ = some (.slice none 0 0) := (blk_cell BK149.out 0).trans rfl
          have hcz40_1 : wr.cell? ⟨gb149, 1, none⟩ = some (.slice none 0 0) := (blk_cell BK149.out 1).trans rfl
          have hcz40_2 : wr.cell? ⟨gb149, 2, none⟩ = some (.slice none 0 0) := (blk_cell BK149.out 2).trans rfl
          have hfz40_0 := blk_frozen BK149.out 0
          have hfz40_1 := blk_frozen BK149.out 1
          have hfz40_2 := blk_frozen BK149.out 2
          go_wp2
          refine bodyPost_ret (results_ct rfl _ _ gb149 60 #[.slice Ao15 l0_0.length co15, .slice Ao16 l0_1.length co16, .slice Ao39 x6_1.length co39] (0, 0) _ rfl (by (with_reducible repeat (first | refine blk_drewN ?_ _ | refine blk_drew ?_ | refine blk_alloc ?_ _)); refine blk_put (cs := #[.slice Ao15 l0_0.length co15, .slice Ao16 l0_1.length co16, .slice none 0 0]) ?_ 2 _ rfl; (with_reducible repeat (first | refine blk_drewN ?_ _ | refine blk_drew ?_ | refine blk_alloc ?_ _)); refine blk_put (cs := #[.slice Ao15 l0_0.length co15, .slice none 0 0, .slice none 0 0]) ?_ 1 _ rfl; (with_reducible repeat (first | refine blk_drewN ?_ _ | refine blk_drew ?_ | refine blk_alloc ?_ _)); refine blk_put (cs := #[.slice none 0 0, .slice none 0 0, .slice none 0 0]) ?_ 0 _ rfl; (with_reducible repeat (first | refine blk_drewN ?_ _ | refine blk_drew ?_ | refine blk_alloc ?_ _)); refine blk_far ?_ NB149_148.out _; (with_reducible repeat (first | refine blk_drewN ?_ _ | refine blk_drew ?_ | refine blk_alloc ?_ _)); exact BK149.out) Try.underlying60 rfl (by kernel_rfl)) rfl ?_
          exact ⟨_, _, _, by first | rfl | (simp [errW_none, errW_some] <;> rfl) | (simp [*, errW_none, errW_some] <;> rfl), by (with_reducible repeat (first | apply Kd.R_alloc | apply Kd.R_drewN | apply Kd.R_drew)); exact Kd.R_mono (Kd.R_far (p := ⟨gb149, 2, none⟩) (Kd.R_far (p := ⟨gb149, 1, none⟩) (Kd.R_far (p := ⟨gb149, 0, none⟩) (Kd.R_far (p := ⟨gb148, 2, none⟩) (Kd.R_types (Kd.R_types HO_149000.out BK148.out (by decide)) BK149.out (by decide)) (fun _ hk => hk.1.2) (.slice Ao39 x6_1.length co39)) (fun _ hk => hk.2) (.slice Ao15 l0_0.length co15)) (fun _ hk => hk.2) (.slice Ao16 l0_1.length co16)) (fun _ hk => hk.2) (.slice Ao39 x6_1.length co39)) (fun _ hk => ⟨hk.1.1.1, ⟨hk.1.1.2.2.1, hk.1.1.2.1⟩⟩), by (with_reducible repeat (first | apply Kd.R_alloc | apply Kd.R_drewN | apply Kd.R_drew)); exact Kd.R_mono (Kd.R_far (p := ⟨gb149, 2, none⟩) (Kd.R_far (p := ⟨gb149, 1, none⟩) (Kd.R_far (p := ⟨gb149, 0, none⟩) (Kd.R_far (p := ⟨gb148, 2, none⟩) (Kd.R_types (Kd.R_types HO_149001.out BK148.out (by decide)) BK149.out (by decide)) (fun _ hk => hk.1.2) (.slice Ao39 x6_1.length co39)) (fun _ hk => hk.2) (.slice Ao15 l0_0.length co15)) (fun _ hk => hk.2) (.slice Ao16 l0_1.length co16)) (fun _ hk => hk.2) (.slice Ao39 x6_1.length co39)) (fun _ hk => ⟨hk.1.1.1, ⟨hk.1.1.2.2.1, hk.1.1.2.1⟩⟩), by (with_reducible repeat (first | apply Kd.R_alloc | apply Kd.R_drewN | apply Kd.R_drew)); exact Kd.R_mono (Kd.R_far (p := ⟨gb149, 2, none⟩) (Kd.R_far (p := ⟨gb149, 1, none⟩) (Kd.R_far (p := ⟨gb149, 0, none⟩) (Kd.R_far (p := ⟨gb148, 2, none⟩) (Kd.R_types (Kd.R_types HO_6.out BK148.out (by decide)) BK149.out (by decide)) (fun _ hk => hk.1.2) (.slice Ao39 x6_1.length co39)) (fun _ hk => hk.2) (.slice Ao15 l0_0.length co15)) (fun _ hk => hk.2) (.slice Ao16 l0_1.length co16)) (fun _ hk => hk.2) (.slice Ao39 x6_1.length co39)) (fun _ hk => ⟨hk.1.1.1, ⟨hk.1.1.2.1, hk.1.1.2.2.1⟩⟩), by repeat (first | (with_reducible first | exact HB.out | apply below_alloc | apply pw_below_drewN | apply below_drew1 | refine below_set ?_ GE148.out | refine below_set ?_ GE149.out) | exact HB.out), by repeat (first | (with_reducible first | exact HK.out | apply Kept.alloc | apply Kept.drewN | apply Kept.drew | refine Kept.setCell ?_ (.inr GW148.out) _ | refine Kept.setCell ?_ (.inr GW149.out) _) | exact HK.out)⟩




/-! ### crossbuckref18_At: function 40 -/
def crossbuckref18_At.l0 : Nat → Int → Int → Int → List Int → List Int → List Int → Option (Int)
  | 0, _, _, _, _, _, _ => none
  | k + 1, x1, x5, x6, x161000, x161001, x161002 => if x6 < (x161000.length : Int) then (if 0 ≤ x6 then (if (rd x161000 x6) ≤ x1 then (crossbuckref18_At.l0 k x1 x6 (wrap64 (x6 + 1)) x161000 x161001 x161002) else (crossbuckref18_At.l0 k x1 x5 (wrap64 (x6 + 1)) x161000 x161001 x161002)) else (none)) else (some x5)
def crossbuckref18_At.f (k : Nat) (l0_0 : List Int) (l0_1 : List Int) (l0_2 : List Int) (a1 : Int) : Option (Int) := crossbuckref18_At.l0 k a1 (-1) 0 l0_0 l0_1 l0_2
theorem crossbuckref18_At.mono_l : ∀ k, (∀ y0 y1 y2 y3 y4 y5, LeO (crossbuckref18_At.l0 k y0 y1 y2 y3 y4 y5) (crossbuckref18_At.l0 (k + 1) y0 y1 y2 y3 y4 y5))
  | 0 => fun _ _ _ _ _ _ r h => by simp [crossbuckref18_At.l0] at h
  | k + 1 => by
    have ih0 := crossbuckref18_At.mono_l k
    · intro y0 y1 y2 y3 y4 y5
      unfold crossbuckref18_At.l0
      repeat' first
      | (with_reducible exact ih0 _ _ _ _ _ _)
      | (with_reducible exact LeO.refl _)
      | (with_reducible exact LeO.none _)
      | (with_reducible refine LeO.ite ?_ ?_)
      | (with_reducible refine LeO.bind ?_ (fun _ => ?_))
      | exact ih0 _ _ _ _ _ _
      | exact LeO.none _
      | refine LeO.ite ?_ ?_
      | refine LeO.bind ?_ (fun _ => ?_)
theorem crossbuckref18_At.mono : ∀ a0 a1 a2 a3 k, LeO (crossbuckref18_At.f k a0 a1 a2 a3) (crossbuckref18_At.f (k + 1) a0 a1 a2 a3) := by
  intro a0 a1 a2 a3 k
  have ih0 := crossbuckref18_At.mono_l k
  unfold crossbuckref18_At.f
  repeat' first
      | (with_reducible exact ih0 _ _ _ _ _ _)
      | (with_reducible exact LeO.refl _)
      | (with_reducible exact LeO.none _)
      | (with_reducible refine LeO.ite ?_ ?_)
      | (with_reducible refine LeO.bind ?_ (fun _ => ?_))
      | exact ih0 _ _ _ _ _ _
      | exact LeO.none _
      | refine LeO.ite ?_ ?_
      | refine LeO.bind ?_ (fun _ => ?_)
set_option maxHeartbeats 8000000 in
set_option maxRecDepth 100000 in
theorem crossbuckref18_At.calls (k : Nat) (A0_0 : Option Addr) (c0_0 : Nat) (l0_0 : List Int) (A0_1 : Option Addr) (c0_1 : Nat) (l0_1 : List Int) (A0_2 : Option Addr) (c0_2 : Nat) (l0_2 : List Int) (a1 : Int) (r : Int) (w : World) (hr0_0 : Kd.C (Kd.int .i64) w A0_0 l0_0.length l0_0) (hc0_0 : l0_0.length ≤ c0_0) (hr0_1 : Kd.C (Kd.int .i64) w A0_1 l0_1.length l0_1) (hc0_1 : l0_1.length ≤ c0_1) (hr0_2 : Kd.C (Kd.int .i64) w A0_2 l0_2.length l0_2) (hc0_2 : l0_2.length ≤ c0_2) (h : crossbuckref18_At.f k l0_0 l0_1 l0_2 a1 = some r) :
    Calls Try.prog 40 #[.agg #[.slice A0_0 l0_0.length c0_0, .slice A0_1 l0_1.length c0_1, .slice A0_2 l0_2.length c0_2], .int .i64 a1] w fun e w' => e = .returned (.int .i64 r) ∧ Below w.heap.size w w' := by
  have hu60 := Try.underlying60
  have HR0_0 := Aside0.mk hr0_0
  have HC0_0 := Aside0.mk hc0_0
  clear hr0_0 hc0_0
  have HR0_1 := Aside0.mk hr0_1
  have HC0_1 := Aside0.mk hc0_1
  clear hr0_1 hc0_1
  have HR0_2 := Aside0.mk hr0_2
  have HC0_2 := Aside0.mk hc0_2
  clear hr0_2 hc0_2
  have HB := Aside0.mk (Below.refl w.heap.size w)
  have H : (crossbuckref18_At.l0 k a1 (-1) 0 l0_0 l0_1 l0_2) = some r := h
  clear h
  have H' := Aside0.mk H
  clear H
  go_enter Try.func40, Try.ntmps40
  go_wp2_with (first | ((with_reducible refine gate_dst (N := 2) rfl ?_); refine box_event ?hg (N := 2) ?hd (cs := #[.slice A0_0 l0_0.length c0_0, .slice A0_1 l0_1.length c0_1, .slice A0_2 l0_2.length c0_2]) (t := 60) ?hr ?_; (case hd => rfl); (case hg => rfl); (case hr => first | (go_simp; done) | (go_simp; rfl)); intro gb160 hg w3 hbox hb; have n0_ := Aside0.mk (below_step (by repeat (first | (with_reducible first | exact HB.out | apply below_alloc | apply pw_below_drewN | apply below_drew1) | exact HB.out)) hb); have n1_ := Aside0.mk (hbox); have n2_ := Aside0.mk ((by rw [hg]; exact (below_size (by repeat (first | (with_reducible first | exact HB.out | apply below_alloc | apply pw_below_drewN | apply below_drew1) | exact HB.out))) : w.heap.size ≤ gb160)); have n3_ := Aside0.mk ((by rw [hg]; exact (below_size (by repeat (first | (with_reducible first | exact HB.out | apply below_alloc | apply pw_below_drewN | apply below_drew1) | exact HB.out))) : w.heap.size ≤ gb160)); clear HB; have HB := n0_; have BK160 := n1_; have GW160 := n2_; have GE160 := n3_; clear n0_ n1_ n2_ n3_; clear hb hbox hg))
  go_loopg [5, 6] k (fun kq v5 v6 w' => ∃ (x5_1 : Int) (x6_1 : Int), v5 = .int .i64 x5_1 ∧ v6 = .int .i64 x6_1 ∧ Aside0 (crossbuckref18_At.l0 kq a1 x5_1 x6_1 l0_0 l0_1 l0_2 = some r) ∧ Aside0 (kq ≤ k) ∧ Aside0 (w'.heap[gb160]? = some (.cells #[(.slice A0_0 l0_0.length c0_0), (.slice A0_1 l0_1.length c0_1), (.slice A0_2 l0_2.length c0_2)] 60 (0, 0))) ∧ Aside0 (Below w.heap.size w w'))
  case atStart => exact ⟨((-1)), (0), (by first | rfl | (simp; done) | (simp [*]; done)), (by first | rfl | (simp; done) | (simp [*]; done)), H', ⟨Nat.le_refl _⟩, ⟨by (with_reducible repeat (first | refine blk_drewN ?_ _ | refine blk_drew ?_ | refine blk_alloc ?_ _)); exact BK160.out⟩, ⟨by repeat (first | (with_reducible first | exact HB.out | apply below_alloc | apply pw_below_drewN | apply below_drew1 | refine below_set ?_ GE160.out) | exact HB.out)⟩⟩
  case round =>
    clear H'
    try clear p2
    obtain ⟨x5_1, x6_1, rfl, rfl, HA, HK1, BK160, HB⟩ := hrel
    cases gk with
    | zero => exact absurd HA.out (by simp [crossbuckref18_At.l0])
    | succ k1 =>
      have H := HA.out
      clear HA
      simp only [crossbuckref18_At.l0] at H
      by_cases c4 : x6_1 < (l0_0.length : Int)
      · rw [if_pos c4] at H
        have c4b0 : decide (x6_1 < (l0_0.length : Int)) = true := decide_eq_true c4
        clear c4
        by_cases c5 : 0 ≤ x6_1
        · rw [if_pos c5] at H
          have c5b0 : decide (0 ≤ x6_1) = true := decide_eq_true c5
          clear c5
          by_cases c6 : (rd l0_0 x6_1) ≤ a1
          · rw [if_pos c6] at H
            have c6b0 : decide ((rd l0_0 x6_1) ≤ a1) = true := decide_eq_true c6
            clear c6
            have H' := Aside0.mk H
            clear H
            have hcz7_0 : wr.cell? ⟨gb160, 0, none⟩ = some (.slice A0_0 l0_0.length c0_0) := (blk_cell BK160.out 0).trans rfl
            have hcz7_1 : wr.cell? ⟨gb160, 1, none⟩ = some (.slice A0_1 l0_1.length c0_1) := (blk_cell BK160.out 1).trans rfl
            have hcz7_2 : wr.cell? ⟨gb160, 2, none⟩ = some (.slice A0_2 l0_2.length c0_2) := (blk_cell BK160.out 2).trans rfl
            have hfz7_0 := blk_frozen BK160.out 0
            have hfz7_1 := blk_frozen BK160.out 1
            have hfz7_2 := blk_frozen BK160.out 2
            have p161 : 0 ≤ (x6_1 : Int) := of_decide_eq_true (by first | (with_reducible assumption) | assumption)
            have q161 : x6_1 < (l0_0.length : Int) := of_decide_eq_true (by first | (with_reducible assumption) | assumption)
            obtain ⟨ad161, e161, hx161_0⟩ := Kd.at_int HR0_0.out x6_1 p161 q161
            cases e161
            replace hx161_0 := (HB.out.cell (World.block_lt_of_cell? w _ hx161_0)).trans hx161_0
            replace p161 := eq_true p161
            replace q161 := eq_true q161
            go_wp2
            go_roundg k1
            case measure => have := HK1.out; omega
            case rel => exact ⟨(x6_1), (wrap64 (x6_1 + 1)), (by first | rfl | (simp; done) | (simp [*]; done)), (by first | rfl | (simp; done) | (simp [*]; done)), H', ⟨by have := HK1.out; omega⟩, ⟨by (with_reducible repeat (first | refine blk_drewN ?_ _ | refine blk_drew ?_ | refine blk_alloc ?_ _)); exact BK160.out⟩, ⟨by repeat (first | (with_reducible first | exact HB.out | apply below_alloc | apply pw_below_drewN | apply below_drew1 | refine below_set ?_ GE160.out) | exact HB.out)⟩⟩
          · rw [if_neg c6] at H
            have c6b0 : decide ((rd l0_0 x6_1) ≤ a1) = false := decide_eq_false c6
            clear c6
            have H' := Aside0.mk H
            clear H
            have hcz8_0 : wr.cell? ⟨gb160, 0, none⟩ = some (.slice A0_0 l0_0.length c0_0) := (blk_cell BK160.out 0).trans rfl
            have hcz8_1 : wr.cell? ⟨gb160, 1, none⟩ = some (.slice A0_1 l0_1.length c0_1) := (blk_cell BK160.out 1).trans rfl
            have hcz8_2 : wr.cell? ⟨gb160, 2, none⟩ = some (.slice A0_2 l0_2.length c0_2) := (blk_cell BK160.out 2).trans rfl
            have hfz8_0 := blk_frozen BK160.out 0
            have hfz8_1 := blk_frozen BK160.out 1
            have hfz8_2 := blk_frozen BK160.out 2
            have p161 : 0 ≤ (x6_1 : Int) := of_decide_eq_true (by first | (with_reducible assumption) | assumption)
            have q161 : x6_1 < (l0_0.length : Int) := of_decide_eq_true (by first | (with_reducible assumption) | assumption)
            obtain ⟨ad161, e161, hx161_0⟩ := Kd.at_int HR0_0.out x6_1 p161 q161
            cases e161
            replace hx161_0 := (HB.out.cell (World.block_lt_of_cell? w _ hx161_0)).trans hx161_0
            replace p161 := eq_true p161
            replace q161 := eq_true q161
            go_wp2
            go_roundg k1
            case measure => have := HK1.out; omega
            case rel => exact ⟨(x5_1), (wrap64 (x6_1 + 1)), (by first | rfl | (simp; done) | (simp [*]; done)), (by first | rfl | (simp; done) | (simp [*]; done)), H', ⟨by have := HK1.out; omega⟩, ⟨by (with_reducible repeat (first | refine blk_drewN ?_ _ | refine blk_drew ?_ | refine blk_alloc ?_ _)); exact BK160.out⟩, ⟨by repeat (first | (with_reducible first | exact HB.out | apply below_alloc | apply pw_below_drewN | apply below_drew1 | refine below_set ?_ GE160.out) | exact HB.out)⟩⟩
        · rw [if_neg c5] at H
          exact absurd H (by simp)
      · rw [if_neg c4] at H
        have c4b0 : decide (x6_1 < (l0_0.length : Int)) = false := decide_eq_false c4
        clear c4
        obtain rfl := Option.some.inj H
        have hcz9_0 : wr.cell? ⟨gb160, 0, none⟩ = some (.slice A0_0 l0_0.length c0_0) := (blk_cell BK160.out 0).trans rfl
        have hcz9_1 : wr.cell? ⟨gb160, 1, none⟩ = some (.slice A0_1 l0_1.length c0_1) := (blk_cell BK160.out 1).trans rfl
        have hcz9_2 : wr.cell? ⟨gb160, 2, none⟩ = some (.slice A0_2 l0_2.length c0_2) := (blk_cell BK160.out 2).trans rfl
        have hfz9_0 := blk_frozen BK160.out 0
        have hfz9_1 := blk_frozen BK160.out 1
        have hfz9_2 := blk_frozen BK160.out 2
        go_wp2
        go_ret
        exact ⟨by first | rfl | (simp [errW_none, errW_some] <;> rfl) | (simp [*, errW_none, errW_some] <;> rfl), by repeat (first | (with_reducible first | exact HB.out | apply below_alloc | apply pw_below_drewN | apply below_drew1 | refine below_set ?_ GE160.out) | exact HB.out)⟩




/-! ### crossbuckref18_Live: function 34 -/
mutual
def crossbuckref18_Live.l0 : Nat → Int → Int → List Int → List Int → List Int → Option (Int)
  | 0, _, _, _, _, _ => none
  | k + 1, x3, x4, x163000, x163001, x163002 => if x4 < (x163000.length : Int) then (crossbuckref18_Live.l1 k x3 x4 (x4 == (wrap64 ((x163000.length : Int) - 1))) 0 x163000 x163001 x163002) else (some x3)
def crossbuckref18_Live.l1 : Nat → Int → Int → Bool → Int → List Int → List Int → List Int → Option (Int)
  | 0, _, _, _, _, _, _, _ => none
  | k + 1, x3, x4, x5, x6, x163000, x163001, x163002 => if x6 < (x163002.length : Int) then (if x5 = true then (crossbuckref18_Live.l1 k x3 x4 true (wrap64 (x6 + 1)) x163000 x163001 x163002) else (if 0 ≤ x6 then ((crossbuckref18_At.f k x163000 x163001 x163002 (rd x163002 x6)).bind fun t164 => (crossbuckref18_Live.l1 k x3 x4 (t164 == x4) (wrap64 (x6 + 1)) x163000 x163001 x163002)) else (none))) else (if x5 = true then (crossbuckref18_Live.l0 k (wrap64 (x3 + 1)) (wrap64 (x4 + 1)) x163000 x163001 x163002) else (crossbuckref18_Live.l0 k x3 (wrap64 (x4 + 1)) x163000 x163001 x163002))
end
def crossbuckref18_Live.f (k : Nat) (l0_0 : List Int) (l0_1 : List Int) (l0_2 : List Int) : Option (Int) := crossbuckref18_Live.l0 k 0 0 l0_0 l0_1 l0_2
theorem crossbuckref18_Live.mono_l : ∀ k, (∀ y0 y1 y2 y3 y4, LeO (crossbuckref18_Live.l0 k y0 y1 y2 y3 y4) (crossbuckref18_Live.l0 (k + 1) y0 y1 y2 y3 y4)) ∧ (∀ y0 y1 y2 y3 y4 y5 y6, LeO (crossbuckref18_Live.l1 k y0 y1 y2 y3 y4 y5 y6) (crossbuckref18_Live.l1 (k + 1) y0 y1 y2 y3 y4 y5 y6))
  | 0 => ⟨fun _ _ _ _ _ r h => by simp [crossbuckref18_Live.l0] at h, fun _ _ _ _ _ _ _ r h => by simp [crossbuckref18_Live.l1] at h⟩
  | k + 1 => by
    obtain ⟨ih0, ih1⟩ := crossbuckref18_Live.mono_l k
    refine ⟨?_, ?_⟩
    · intro y0 y1 y2 y3 y4
      unfold crossbuckref18_Live.l0
      repeat' first
      | (with_reducible exact ih0 _ _ _ _ _)
      | (with_reducible exact ih1 _ _ _ _ _ _ _)
      | (with_reducible exact crossbuckref18_At.mono _ _ _ _ _)
      | (with_reducible exact LeO.refl _)
      | (with_reducible exact LeO.none _)
      | (with_reducible refine LeO.ite ?_ ?_)
      | (with_reducible refine LeO.bind ?_ (fun _ => ?_))
      | exact ih0 _ _ _ _ _
      | exact ih1 _ _ _ _ _ _ _
      | exact crossbuckref18_At.mono _ _ _ _ _
      | exact LeO.none _
      | refine LeO.ite ?_ ?_
      | refine LeO.bind ?_ (fun _ => ?_)
    · intro y0 y1 y2 y3 y4 y5 y6
      unfold crossbuckref18_Live.l1
      repeat' first
      | (with_reducible exact ih0 _ _ _ _ _)
      | (with_reducible exact ih1 _ _ _ _ _ _ _)
      | (with_reducible exact crossbuckref18_At.mono _ _ _ _ _)
      | (with_reducible exact LeO.refl _)
      | (with_reducible exact LeO.none _)
      | (with_reducible refine LeO.ite ?_ ?_)
      | (with_reducible refine LeO.bind ?_ (fun _ => ?_))
      | exact ih0 _ _ _ _ _
      | exact ih1 _ _ _ _ _ _ _
      | exact crossbuckref18_At.mono _ _ _ _ _
      | exact LeO.none _
      | refine LeO.ite ?_ ?_
      | refine LeO.bind ?_ (fun _ => ?_)
theorem crossbuckref18_Live.mono : ∀ a0 a1 a2 k, LeO (crossbuckref18_Live.f k a0 a1 a2) (crossbuckref18_Live.f (k + 1) a0 a1 a2) := by
  intro a0 a1 a2 k
  obtain ⟨ih0, ih1⟩ := crossbuckref18_Live.mono_l k
  unfold crossbuckref18_Live.f
  repeat' first
      | (with_reducible exact ih0 _ _ _ _ _)
      | (with_reducible exact ih1 _ _ _ _ _ _ _)
      | (with_reducible exact crossbuckref18_At.mono _ _ _ _ _)
      | (with_reducible exact LeO.refl _)
      | (with_reducible exact LeO.none _)
      | (with_reducible refine LeO.ite ?_ ?_)
      | (with_reducible refine LeO.bind ?_ (fun _ => ?_))
      | exact ih0 _ _ _ _ _
      | exact ih1 _ _ _ _ _ _ _
      | exact crossbuckref18_At.mono _ _ _ _ _
      | exact LeO.none _
      | refine LeO.ite ?_ ?_
      | refine LeO.bind ?_ (fun _ => ?_)
def crossbuckref18_Live.T9 : Bool × List (List Nat × List Nat) := (true, [([], []), ([0], [0]), ([1], [1]), ([1], [1]), ([3, 1], [1, 3]), ([1], [1]), ([4, 5, 1], [1, 4, 5]), ([6, 1], [1, 6]), ([2, 7, 1, 1], [1, 2, 7]), ([1], [1]), ([8, 9, 1], [1, 8, 9]), ([1, 10], [1, 10]), ([11, 8, 0, 1, 2, 3, 4, 5, 6, 7, 8, 9, 10, 11], [0, 11])])
def crossbuckref18_Live.B9 : List Nat := [0, 1, 3, 3, 11, 3, 59, 123, 255, 3, 1023, 2047, 4095]
theorem crossbuckref18_Live.tab9 : rtab .any (opsOf Try.f34 9) = crossbuckref18_Live.T9 := by kernel_rfl
theorem crossbuckref18_Live.bits9 : waitsOk crossbuckref18_Live.T9.2 crossbuckref18_Live.B9 = true := by kernel_rfl
set_option maxHeartbeats 8000000 in
set_option maxRecDepth 100000 in
theorem crossbuckref18_Live.calls (k : Nat) (A0_0 : Option Addr) (c0_0 : Nat) (l0_0 : List Int) (A0_1 : Option Addr) (c0_1 : Nat) (l0_1 : List Int) (A0_2 : Option Addr) (c0_2 : Nat) (l0_2 : List Int) (r : Int) (w : World) (hr0_0 : Kd.C (Kd.int .i64) w A0_0 l0_0.length l0_0) (hc0_0 : l0_0.length ≤ c0_0) (hr0_1 : Kd.C (Kd.int .i64) w A0_1 l0_1.length l0_1) (hc0_1 : l0_1.length ≤ c0_1) (hr0_2 : Kd.C (Kd.int .i64) w A0_2 l0_2.length l0_2) (hc0_2 : l0_2.length ≤ c0_2) (h : crossbuckref18_Live.f k l0_0 l0_1 l0_2 = some r) :
    Calls Try.prog 34 #[.agg #[.slice A0_0 l0_0.length c0_0, .slice A0_1 l0_1.length c0_1, .slice A0_2 l0_2.length c0_2]] w fun e w' => e = .returned (.int .i64 r) ∧ Below w.heap.size w w' := by
  have hu60 := Try.underlying60
  have HR0_0 := Aside0.mk hr0_0
  have HC0_0 := Aside0.mk hc0_0
  clear hr0_0 hc0_0
  have HR0_1 := Aside0.mk hr0_1
  have HC0_1 := Aside0.mk hc0_1
  clear hr0_1 hc0_1
  have HR0_2 := Aside0.mk hr0_2
  have HC0_2 := Aside0.mk hc0_2
  clear hr0_2 hc0_2
  have HB := Aside0.mk (Below.refl w.heap.size w)
  have H : (crossbuckref18_Live.l0 k 0 0 l0_0 l0_1 l0_2) = some r := h
  clear h
  have H' := Aside0.mk H
  clear H
  go_enter Try.func34, Try.ntmps34
  go_wp2_with (first | ((with_reducible refine gate_dst (N := 1) rfl ?_); refine box_event ?hg (N := 1) ?hd (cs := #[.slice A0_0 l0_0.length c0_0, .slice A0_1 l0_1.length c0_1, .slice A0_2 l0_2.length c0_2]) (t := 60) ?hr ?_; (case hd => rfl); (case hg => rfl); (case hr => first | (go_simp; done) | (go_simp; rfl)); intro gb162 hg w2 hbox hb; have n0_ := Aside0.mk (below_step (by repeat (first | (with_reducible first | exact HB.out | apply below_alloc | apply pw_below_drewN | apply below_drew1) | exact HB.out)) hb); have n1_ := Aside0.mk (hbox); have n2_ := Aside0.mk ((by rw [hg]; exact (below_size (by repeat (first | (with_reducible first | exact HB.out | apply below_alloc | apply pw_below_drewN | apply below_drew1) | exact HB.out))) : w.heap.size ≤ gb162)); have n3_ := Aside0.mk ((by rw [hg]; exact (below_size (by repeat (first | (with_reducible first | exact HB.out | apply below_alloc | apply pw_below_drewN | apply below_drew1) | exact HB.out))) : w.heap.size ≤ gb162)); clear HB; have HB := n0_; have BK162 := n1_; have GW162 := n2_; have GE162 := n3_; clear n0_ n1_ n2_ n3_; clear hb hbox hg))
  go_loopg [3, 4] k (fun kq v3 v4 w' => ∃ (x3_1 : Int) (x4_1 : Int), v3 = .int .i64 x3_1 ∧ v4 = .int .i64 x4_1 ∧ Aside0 (crossbuckref18_Live.l0 kq x3_1 x4_1 l0_0 l0_1 l0_2 = some r) ∧ Aside0 (kq ≤ k) ∧ Aside0 (w'.heap[gb162]? = some (.cells #[(.slice A0_0 l0_0.length c0_0), (.slice A0_1 l0_1.length c0_1), (.slice A0_2 l0_2.length c0_2)] 60 (0, 0))) ∧ Aside0 (Below w.heap.size w w'))
  case atStart => exact ⟨(0), (0), (by first | rfl | (simp; done) | (simp [*]; done)), (by first | rfl | (simp; done) | (simp [*]; done)), H', ⟨Nat.le_refl _⟩, ⟨by (with_reducible repeat (first | refine blk_drewN ?_ _ | refine blk_drew ?_ | refine blk_alloc ?_ _)); exact BK162.out⟩, ⟨by repeat (first | (with_reducible first | exact HB.out | apply below_alloc | apply pw_below_drewN | apply below_drew1 | refine below_set ?_ GE162.out) | exact HB.out)⟩⟩
  case round =>
    clear H'
    try clear p2
    obtain ⟨x3_1, x4_1, rfl, rfl, HA, HK1, BK162, HB⟩ := hrel
    cases gk with
    | zero => exact absurd HA.out (by simp [crossbuckref18_Live.l0])
    | succ k1 =>
      have H := HA.out
      clear HA
      simp only [crossbuckref18_Live.l0] at H
      by_cases c3 : x4_1 < (l0_0.length : Int)
      · rw [if_pos c3] at H
        have c3b0 : decide (x4_1 < (l0_0.length : Int)) = true := decide_eq_true c3
        clear c3
        have H' := Aside0.mk H
        clear H
        have hcz4_0 : wr.cell? ⟨gb162, 0, none⟩ = some (.slice A0_0 l0_0.length c0_0) := (blk_cell BK162.out 0).trans rfl
        have hcz4_1 : wr.cell? ⟨gb162, 1, none⟩ = some (.slice A0_1 l0_1.length c0_1) := (blk_cell BK162.out 1).trans rfl
        have hcz4_2 : wr.cell? ⟨gb162, 2, none⟩ = some (.slice A0_2 l0_2.length c0_2) := (blk_cell BK162.out 2).trans rfl
        have hfz4_0 := blk_frozen BK162.out 0
        have hfz4_1 := blk_frozen BK162.out 1
        have hfz4_2 := blk_frozen BK162.out 2
        go_wp2
        go_loopg [5, 6] k1 (fun kq v5 v6 w' => ∃ (x5_2 : Bool) (x6_2 : Int), v5 = .bool x5_2 ∧ v6 = .int .i64 x6_2 ∧ Aside0 (crossbuckref18_Live.l1 kq x3_1 x4_1 x5_2 x6_2 l0_0 l0_1 l0_2 = some r) ∧ Aside0 (kq ≤ k1) ∧ Aside0 (w'.heap[gb162]? = some (.cells #[(.slice A0_0 l0_0.length c0_0), (.slice A0_1 l0_1.length c0_1), (.slice A0_2 l0_2.length c0_2)] 60 (0, 0))) ∧ Aside0 (Below w.heap.size w w'))
        case atStart => exact ⟨((x4_1 == (wrap64 ((l0_0.length : Int) - 1)))), (0), (by first | rfl | (simp; done) | (simp [*]; done)), (by first | rfl | (simp; done) | (simp [*]; done)), H', ⟨Nat.le_refl _⟩, ⟨by (with_reducible repeat (first | refine blk_drewN ?_ _ | refine blk_drew ?_ | refine blk_alloc ?_ _)); exact BK162.out⟩, ⟨by repeat (first | (with_reducible first | exact HB.out | apply below_alloc | apply pw_below_drewN | apply below_drew1 | refine below_set ?_ GE162.out) | exact HB.out)⟩⟩
        case round =>
          clear H'
          try clear p2
          try clear c3
          try clear c3b0
          try clear hcz4_0
          try clear hcz4_1
          try clear hcz4_2
          try clear hfz4_0
          try clear hfz4_1
          try clear hfz4_2
          try clear p2
          obtain ⟨x5_2, x6_2, rfl, rfl, HA, HK2, BK162, HB⟩ := hrel
          cases gk with
          | zero => exact absurd HA.out (by simp [crossbuckref18_Live.l1])
          | succ k2 =>
            have H := HA.out
            clear HA
            simp only [crossbuckref18_Live.l1] at H
            by_cases c5 : x6_2 < (l0_2.length : Int)
            · rw [if_pos c5] at H
              have c5b0 : decide (x6_2 < (l0_2.length : Int)) = true := decide_eq_true c5
              clear c5
              by_cases c6 : x5_2 = true
              · subst c6
                have H1 : (crossbuckref18_Live.l1 k2 x3_1 x4_1 true (wrap64 (x6_2 + 1)) l0_0 l0_1 l0_2) = some r := by rw [if_pos rfl] at H; exact H
                clear H
                have H := H1
                clear H1
                have H' := Aside0.mk H
                clear H
                have hcz7_0 : wr.cell? ⟨gb162, 0, none⟩ = some (.slice A0_0 l0_0.length c0_0) := (blk_cell BK162.out 0).trans rfl
                have hcz7_1 : wr.cell? ⟨gb162, 1, none⟩ = some (.slice A0_1 l0_1.length c0_1) := (blk_cell BK162.out 1).trans rfl
                have hcz7_2 : wr.cell? ⟨gb162, 2, none⟩ = some (.slice A0_2 l0_2.length c0_2) := (blk_cell BK162.out 2).trans rfl
                have hfz7_0 := blk_frozen BK162.out 0
                have hfz7_1 := blk_frozen BK162.out 1
                have hfz7_2 := blk_frozen BK162.out 2
                try go_wp2
                have n0_ := Aside0.mk (blk_drew BK162.out)
                have n1_ := Aside0.mk (below_drew1 HB.out)
                clear BK162
                clear HB
                have BK162 := n0_
                have HB := n1_
                clear n0_ n1_
                refine start_ (n := 13) (S := fun w' => True) (ds := []) #[false, false, false, false, false, false, false, false, false, false, false, false, false] (by kernel_rfl) rfl rfl trivial (fun hHeld => ?_); refine with_tabW crossbuckref18_Live.tab9 crossbuckref18_Live.bits9 (fun HT_ HW_ => ?_)
                generalize wr.drew = w8 at BK162 HB hHeld ⊢
                refine pure_ (i := 0) (N := some 27) (v := ?_) (a' := ?_) #[true, false, false, false, false, false, false, false, false, false, false, false, false] rfl rfl (any_of HT_.out (by kernel_rfl)) (fun _ _ _ h => h) (Or.inl ⟨by rfl, ?_⟩) ?_ ?_
                rotate_left
                · intro w'
                  go_simp
                  with_reducible rfl
                rotate_left
                · simp only [Act.put, List.setIfInBounds_toArray, List.set_cons_zero, List.set_cons_succ, i64_w, i32_w]
                  rfl
                refine pure_ (i := 1) (N := some 28) (v := ?_) (a' := ?_) #[true, true, false, false, false, false, false, false, false, false, false, false, false] rfl rfl (any_of HT_.out (by kernel_rfl)) (fun _ _ _ h => h) (Or.inl ⟨by rfl, ?_⟩) ?_ ?_
                rotate_left
                · intro w'
                  go_simp
                  with_reducible rfl
                rotate_left
                · simp only [Act.put, List.setIfInBounds_toArray, List.set_cons_zero, List.set_cons_succ, i64_w, i32_w]
                  rfl
                refine pure_ (i := 2) (N := some 29) (v := undef) (a' := ?_) #[true, true, true, false, false, false, false, false, false, false, false, false, false] rfl rfl (any_of HT_.out (by kernel_rfl)) (fun _ _ _ h => h) (Or.inr ⟨by rfl, rfl⟩) ?_ ?_
                rotate_left
                · simp only [Act.put, List.setIfInBounds_toArray, List.set_cons_zero, List.set_cons_succ, i64_w, i32_w]
                  rfl
                refine pure_ (i := 3) (N := some 30) (v := undef) (a' := ?_) #[true, true, true, true, false, false, false, false, false, false, false, false, false] rfl rfl (any_of HT_.out (by kernel_rfl)) (fun _ _ _ h => h) (Or.inr ⟨by rfl, rfl⟩) ?_ ?_
                rotate_left
                · simp only [Act.put, List.setIfInBounds_toArray, List.set_cons_zero, List.set_cons_succ, i64_w, i32_w]
                  rfl
                refine pure_ (i := 4) (N := some 31) (v := undef) (a' := ?_) #[true, true, true, true, true, false, false, false, false, false, false, false, false] rfl rfl (any_of HT_.out (by kernel_rfl)) (fun _ _ _ h => h) (Or.inr ⟨by rfl, rfl⟩) ?_ ?_
                rotate_left
                · simp only [Act.put, List.setIfInBounds_toArray, List.set_cons_zero, List.set_cons_succ, i64_w, i32_w]
                  rfl
                refine pure_ (i := 5) (N := some 32) (v := undef) (a' := ?_) #[true, true, true, true, true, true, false, false, false, false, false, false, false] rfl rfl (any_of HT_.out (by kernel_rfl)) (fun _ _ _ h => h) (Or.inr ⟨by rfl, rfl⟩) ?_ ?_
                rotate_left
                · simp only [Act.put, List.setIfInBounds_toArray, List.set_cons_zero, List.set_cons_succ, i64_w, i32_w]
                  rfl
                refine pure_ (i := 6) (N := some 33) (v := undef) (a' := ?_) #[true, true, true, true, true, true, true, false, false, false, false, false, false] rfl rfl (any_of HT_.out (by kernel_rfl)) (fun _ _ _ h => h) (Or.inr ⟨by rfl, rfl⟩) ?_ ?_
                rotate_left
                · simp only [Act.put, List.setIfInBounds_toArray, List.set_cons_zero, List.set_cons_succ, i64_w, i32_w]
                  rfl
                refine pure_ (i := 7) (N := some 34) (v := undef) (a' := ?_) #[true, true, true, true, true, true, true, true, false, false, false, false, false] rfl rfl (any_of HT_.out (by kernel_rfl)) (fun _ _ _ h => h) (Or.inr ⟨by rfl, rfl⟩) ?_ ?_
                rotate_left
                · simp only [Act.put, List.setIfInBounds_toArray, List.set_cons_zero, List.set_cons_succ, i64_w, i32_w]
                  rfl
                refine pure_ (i := 8) (N := some 35) (v := undef) (a' := ?_) #[true, true, true, true, true, true, true, true, true, false, false, false, false] rfl rfl (any_of HT_.out (by kernel_rfl)) (fun _ _ _ h => h) (Or.inr ⟨by rfl, rfl⟩) ?_ ?_
                rotate_left
                · simp only [Act.put, List.setIfInBounds_toArray, List.set_cons_zero, List.set_cons_succ, i64_w, i32_w]
                  rfl
                refine pure_ (i := 9) (N := some 36) (v := undef) (a' := ?_) #[true, true, true, true, true, true, true, true, true, true, false, false, false] rfl rfl (any_of HT_.out (by kernel_rfl)) (fun _ _ _ h => h) (Or.inr ⟨by rfl, rfl⟩) ?_ ?_
                rotate_left
                · simp only [Act.put, List.setIfInBounds_toArray, List.set_cons_zero, List.set_cons_succ, i64_w, i32_w]
                  rfl
                refine pure_ (i := 10) (N := some 37) (v := undef) (a' := ?_) #[true, true, true, true, true, true, true, true, true, true, true, false, false] rfl rfl (any_of HT_.out (by kernel_rfl)) (fun _ _ _ h => h) (Or.inr ⟨by rfl, rfl⟩) ?_ ?_
                rotate_left
                · simp only [Act.put, List.setIfInBounds_toArray, List.set_cons_zero, List.set_cons_succ, i64_w, i32_w]
                  rfl
                refine pure_ (i := 11) (N := some 38) (v := ?_) (a' := ?_) #[true, true, true, true, true, true, true, true, true, true, true, true, false] rfl rfl (any_of HT_.out (by kernel_rfl)) (fun _ _ _ h => h) (Or.inl ⟨by rfl, ?_⟩) ?_ ?_
                rotate_left
                · intro w'
                  go_simp
                  with_reducible rfl
                rotate_left
                · simp only [Act.put, List.setIfInBounds_toArray, List.set_cons_zero, List.set_cons_succ, i64_w, i32_w]
                  rfl
                refine pure_ (i := 12) (N := some 5) (v := ?_) (a' := ?_) #[true, true, true, true, true, true, true, true, true, true, true, true, true] rfl rfl (any_of HT_.out (by kernel_rfl)) (fun _ _ _ h => h) (Or.inl ⟨by rfl, ?_⟩) ?_ ?_
                rotate_left
                · intro w'
                  go_simp
                  with_reducible rfl
                rotate_left
                · simp only [Act.put, List.setIfInBounds_toArray, List.set_cons_zero, List.set_cons_succ, i64_w, i32_w]
                  rfl
                refine done_ (done_of HT_.out (by kernel_rfl)) ?_
                try go_wp2
                go_roundg k2
                case measure => have := HK1.out; have := HK2.out; omega
                case rel => exact ⟨(true), (wrap64 (x6_2 + 1)), (by first | rfl | (simp; done) | (simp [*]; done)), (by first | rfl | (simp; done) | (simp [*]; done)), H', ⟨by have := HK1.out; have := HK2.out; omega⟩, ⟨by (with_reducible repeat (first | refine blk_drewN ?_ _ | refine blk_drew ?_ | refine blk_alloc ?_ _)); exact BK162.out⟩, ⟨by repeat (first | (with_reducible first | exact HB.out | apply below_alloc | apply pw_below_drewN | apply below_drew1 | refine below_set ?_ GE162.out) | exact HB.out)⟩⟩
              · replace c6 := Bool.eq_false_iff.mpr c6
                subst c6
                have H1 : (if 0 ≤ x6_2 then ((crossbuckref18_At.f k2 l0_0 l0_1 l0_2 (rd l0_2 x6_2)).bind fun t164 => (crossbuckref18_Live.l1 k2 x3_1 x4_1 (t164 == x4_1) (wrap64 (x6_2 + 1)) l0_0 l0_1 l0_2)) else (none)) = some r := by rw [if_neg (show ¬ (false = true) by decide)] at H; exact H
                clear H
                have H := H1
                clear H1
                by_cases c9 : 0 ≤ x6_2
                · rw [if_pos c9] at H
                  have c9b0 : decide (0 ≤ x6_2) = true := decide_eq_true c9
                  clear c9
                  replace H := Option.bind_eq_some_iff.mp H
                  obtain ⟨t164, A100, H⟩ := H
                  replace H : (crossbuckref18_Live.l1 k2 x3_1 x4_1 (t164 == x4_1) (wrap64 (x6_2 + 1)) l0_0 l0_1 l0_2) = some r := H
                  have A10 := Aside0.mk A100
                  clear A100
                  have H' := Aside0.mk H
                  clear H
                  have hcz11_0 : wr.cell? ⟨gb162, 0, none⟩ = some (.slice A0_0 l0_0.length c0_0) := (blk_cell BK162.out 0).trans rfl
                  have hcz11_1 : wr.cell? ⟨gb162, 1, none⟩ = some (.slice A0_1 l0_1.length c0_1) := (blk_cell BK162.out 1).trans rfl
                  have hcz11_2 : wr.cell? ⟨gb162, 2, none⟩ = some (.slice A0_2 l0_2.length c0_2) := (blk_cell BK162.out 2).trans rfl
                  have hfz11_0 := blk_frozen BK162.out 0
                  have hfz11_1 := blk_frozen BK162.out 1
                  have hfz11_2 := blk_frozen BK162.out 2
                  try go_wp2
                  have n0_ := Aside0.mk (blk_drew BK162.out)
                  have n1_ := Aside0.mk (below_drew1 HB.out)
                  clear BK162
                  clear HB
                  have BK162 := n0_
                  have HB := n1_
                  clear n0_ n1_
                  have p163 : 0 ≤ (x6_2 : Int) := of_decide_eq_true (by first | (with_reducible assumption) | assumption)
                  have q163 : x6_2 < (l0_2.length : Int) := of_decide_eq_true (by first | (with_reducible assumption) | assumption)
                  obtain ⟨ad163, e163, hx163_0⟩ := Kd.at_int HR0_2.out x6_2 p163 q163
                  have hw163_0 := hx163_0
                  cases e163
                  replace hx163_0 := (HB.out.cell (World.block_lt_of_cell? w _ hx163_0)).trans hx163_0
                  replace p163 := eq_true p163
                  replace q163 := eq_true q163
                  refine start_ (n := 13) (S := fun w' => w'.cell? ⟨gb162, 0, none⟩ = some (.slice A0_0 l0_0.length c0_0) ∧ w'.cell? ⟨gb162, 1, none⟩ = some (.slice A0_1 l0_1.length c0_1) ∧ w'.cell? ⟨gb162, 2, none⟩ = some (.slice (some ad163) l0_2.length c0_2) ∧ w'.cell? (ad163.add (x6_2).toNat) = some (.int .i64 (rd l0_2 x6_2))) (ds := []) #[false, false, false, false, false, false, false, false, false, false, false, false, false] (by kernel_rfl) rfl rfl ⟨(blk_cell BK162.out 0).trans rfl, (blk_cell BK162.out 1).trans rfl, (blk_cell BK162.out 2).trans rfl, ((HB.out.cell (World.block_lt_of_cell? w _ hw163_0)).trans hw163_0)⟩ (fun hHeld => ?_); refine with_tabW crossbuckref18_Live.tab9 crossbuckref18_Live.bits9 (fun HT_ HW_ => ?_)
                  generalize wr.drew = w12 at BK162 HB hx163_0 hHeld ⊢
                  refine pure_ (i := 0) (N := some 27) (v := ?_) (a' := ?_) #[true, false, false, false, false, false, false, false, false, false, false, false, false] rfl rfl (any_of HT_.out (by kernel_rfl)) (fun _ _ _ h => h) (Or.inl ⟨by rfl, ?_⟩) ?_ ?_
                  rotate_left
                  · intro w'
                    go_simp
                    with_reducible rfl
                  rotate_left
                  · simp only [Act.put, List.setIfInBounds_toArray, List.set_cons_zero, List.set_cons_succ, i64_w, i32_w]
                    rfl
                  refine pure_ (i := 1) (N := some 28) (v := ?_) (a' := ?_) #[true, true, false, false, false, false, false, false, false, false, false, false, false] rfl rfl (any_of HT_.out (by kernel_rfl)) (fun _ _ _ h => h) (Or.inl ⟨by rfl, ?_⟩) ?_ ?_
                  rotate_left
                  · intro w'
                    go_simp
                    with_reducible rfl
                  rotate_left
                  · simp only [Act.put, List.setIfInBounds_toArray, List.set_cons_zero, List.set_cons_succ, i64_w, i32_w]
                    rfl
                  refine pure_ (i := 3) (N := some 30) (v := ?_) (a' := ?_) #[true, true, false, true, false, false, false, false, false, false, false, false, false] rfl rfl (any_of HT_.out (by kernel_rfl)) (fun _ _ _ h => h) (Or.inl ⟨by rfl, ?_⟩) ?_ ?_
                  rotate_left
                  · intro w'
                    go_simp
                    with_reducible rfl
                  rotate_left
                  · simp only [Act.put, List.setIfInBounds_toArray, List.set_cons_zero, List.set_cons_succ, i64_w, i32_w]
                    rfl
                  refine pure_ (i := 5) (N := some 32) (v := ?_) (a' := ?_) #[true, true, false, true, false, true, false, false, false, false, false, false, false] rfl rfl (any_of HT_.out (by kernel_rfl)) (fun _ _ _ h => h) (Or.inl ⟨by rfl, ?_⟩) ?_ ?_
                  rotate_left
                  · intro w'
                    go_simp
                    with_reducible rfl
                  rotate_left
                  · simp only [Act.put, List.setIfInBounds_toArray, List.set_cons_zero, List.set_cons_succ, i64_w, i32_w]
                    rfl
                  refine pure_ (i := 9) (N := some 36) (v := ?_) (a' := ?_) #[true, true, false, true, false, true, false, false, false, true, false, false, false] rfl rfl (any_of HT_.out (by kernel_rfl)) (fun _ _ _ h => h) (Or.inl ⟨by rfl, ?_⟩) ?_ ?_
                  rotate_left
                  · intro w'
                    go_simp
                    with_reducible rfl
                  rotate_left
                  · simp only [Act.put, List.setIfInBounds_toArray, List.set_cons_zero, List.set_cons_succ, i64_w, i32_w]
                    rfl
                  refine take_ (i := 2) (N := some 29) (v := ?_) (a' := ?_) #[true, true, true, true, false, true, false, false, false, true, false, false, false] rfl rfl (take_ofW HT_.out HW_.out (by kernel_rfl)) (fun _ _ _ h => h) (Or.inl ⟨by rfl, ?_⟩) hHeld ?_ ?_
                  rotate_left
                  · rintro w' ⟨s0, s1, s2, s3⟩
                    go_simp
                    with_reducible rfl
                  rotate_left
                  · simp only [Act.put, List.setIfInBounds_toArray, List.set_cons_zero, List.set_cons_succ, i64_w, i32_w]
                    rfl
                  refine take_ (i := 4) (N := some 31) (v := ?_) (a' := ?_) #[true, true, true, true, true, true, false, false, false, true, false, false, false] rfl rfl (take_ofW HT_.out HW_.out (by kernel_rfl)) (fun _ _ _ h => h) (Or.inl ⟨by rfl, ?_⟩) hHeld ?_ ?_
                  rotate_left
                  · rintro w' ⟨s0, s1, s2, s3⟩
                    go_simp
                    with_reducible rfl
                  rotate_left
                  · simp only [Act.put, List.setIfInBounds_toArray, List.set_cons_zero, List.set_cons_succ, i64_w, i32_w]
                    rfl
                  refine pure_ (i := 6) (N := some 33) (v := ?_) (a' := ?_) #[true, true, true, true, true, true, true, false, false, true, false, false, false] rfl rfl (any_of HT_.out (by kernel_rfl)) (fun _ _ _ h => h) (Or.inl ⟨by rfl, ?_⟩) ?_ ?_
                  rotate_left
                  · intro w'
                    go_simp
                    with_reducible rfl
                  rotate_left
                  · simp only [Act.put, List.setIfInBounds_toArray, List.set_cons_zero, List.set_cons_succ, i64_w, i32_w]
                    rfl
                  refine take_ (i := 7) (N := some 34) (v := ?_) (a' := ?_) #[true, true, true, true, true, true, true, true, false, true, false, false, false] rfl rfl (take_ofW HT_.out HW_.out (by kernel_rfl)) (fun _ _ _ h => h) (Or.inl ⟨by rfl, ?_⟩) hHeld ?_ ?_
                  rotate_left
                  · rintro w' ⟨s0, s1, s2, s3⟩
                    go_simp
                    with_reducible rfl
                  rotate_left
                  · simp only [Act.put, List.setIfInBounds_toArray, List.set_cons_zero, List.set_cons_succ, i64_w, i32_w]
                    rfl
                  refine one_ (i := 8) (N := some 35) #[true, true, true, true, true, true, true, true, true, true, false, false, false] rfl rfl (one_of HT_.out (by kernel_rfl)) (by decide) (fun K hK => ?_)
                  refine goes_ Try.func40 (by kernel_rfl) rfl #[.agg #[.slice A0_0 l0_0.length c0_0, .slice A0_1 l0_1.length c0_1, .slice (some ad163) l0_2.length c0_2], .int .i64 (rd l0_2 x6_2)] (by rfl) rfl rfl (by (try simp only [List.map_toArray, List.map_cons, List.map_nil]); first | done | rfl | (simp only [List.length_drop, List.length_take]; rfl)) ?_
                  with_reducible refine (crossbuckref18_At.calls k2 _ _ l0_0 _ _ l0_1 _ _ l0_2 (rd l0_2 x6_2) t164 _ ?side1 ?side2 ?side3 ?side4 ?side5 ?side6 A10.out).mono ?_
                  (case side1 => repeat (first | exact (Kd.C_below HR0_0.out HB.out) | (with_reducible refine Kd.C_alloc ?_ _) | (with_reducible refine Kd.C_drewN ?_ _) | (with_reducible refine Kd.C_drew ?_)))
                  (case side2 => exact HC0_0.out)
                  (case side3 => repeat (first | exact (Kd.C_below HR0_1.out HB.out) | (with_reducible refine Kd.C_alloc ?_ _) | (with_reducible refine Kd.C_drewN ?_ _) | (with_reducible refine Kd.C_drew ?_)))
                  (case side4 => exact HC0_1.out)
                  (case side5 => repeat (first | exact (Kd.C_below HR0_2.out HB.out) | (with_reducible refine Kd.C_alloc ?_ _) | (with_reducible refine Kd.C_drewN ?_ _) | (with_reducible refine Kd.C_drew ?_)))
                  (case side6 => exact HC0_2.out)
                  rintro e w13 ⟨rfl, hb⟩
                  refine ⟨_, rfl, ?_⟩
                  have n0_ := Aside0.mk (blk_below (g := gb162) (o := .cells #[.slice A0_0 l0_0.length c0_0, .slice A0_1 l0_1.length c0_1, .slice (some ad163) l0_2.length c0_2] 60 (0, 0)) (by (with_reducible repeat (first | refine blk_drewN ?_ _ | refine blk_drew ?_ | refine blk_alloc ?_ _)); exact BK162.out) hb)
                  have n1_ := Aside0.mk (below_step (by repeat (first | (with_reducible first | exact HB.out | apply below_alloc | apply pw_below_drewN | apply below_drew1 | refine below_set ?_ GE162.out) | exact HB.out)) hb)
                  clear BK162
                  clear HB
                  have BK162 := n0_
                  have HB := n1_
                  clear n0_ n1_
                  (try clear hb)
                  (try clear hb2)
                  (try clear hk)
                  (try clear hi)
                  refine hK.out _ _ ⟨(blk_cell BK162.out 0).trans rfl, (blk_cell BK162.out 1).trans rfl, (blk_cell BK162.out 2).trans rfl, ((HB.out.cell (World.block_lt_of_cell? w _ hw163_0)).trans hw163_0)⟩ (fun hHeld => ?_)
                  clear hK K
                  refine norm_ (a' := ?_) ?_ ?_
                  rotate_left
                  · show Act.put _ (some 35) _ = _
                    simp only [Act.put, List.setIfInBounds_toArray, List.set_cons_zero, List.set_cons_succ, i64_w, i32_w]
                    rfl
                  refine pure_ (i := 10) (N := some 37) (v := ?_) (a' := ?_) #[true, true, true, true, true, true, true, true, true, true, true, false, false] rfl rfl (any_of HT_.out (by kernel_rfl)) (fun _ _ _ h => h) (Or.inl ⟨by rfl, ?_⟩) ?_ ?_
                  rotate_left
                  · intro w'
                    go_simp
                    with_reducible rfl
                  rotate_left
                  · simp only [Act.put, List.setIfInBounds_toArray, List.set_cons_zero, List.set_cons_succ, i64_w, i32_w]
                    rfl
                  refine pure_ (i := 11) (N := some 38) (v := ?_) (a' := ?_) #[true, true, true, true, true, true, true, true, true, true, true, true, false] rfl rfl (any_of HT_.out (by kernel_rfl)) (fun _ _ _ h => h) (Or.inl ⟨by rfl, ?_⟩) ?_ ?_
                  rotate_left
                  · intro w'
                    go_simp
                    with_reducible rfl
                  rotate_left
                  · simp only [Act.put, List.setIfInBounds_toArray, List.set_cons_zero, List.set_cons_succ, i64_w, i32_w]
                    rfl
                  refine pure_ (i := 12) (N := some 5) (v := ?_) (a' := ?_) #[true, true, true, true, true, true, true, true, true, true, true, true, true] rfl rfl (any_of HT_.out (by kernel_rfl)) (fun _ _ _ h => h) (Or.inl ⟨by rfl, ?_⟩) ?_ ?_
                  rotate_left
                  · intro w'
                    go_simp
                    with_reducible rfl
                  rotate_left
                  · simp only [Act.put, List.setIfInBounds_toArray, List.set_cons_zero, List.set_cons_succ, i64_w, i32_w]
                    rfl
                  refine done_ (done_of HT_.out (by kernel_rfl)) ?_
                  try go_wp2
                  go_roundg k2
                  case measure => have := HK1.out; have := HK2.out; omega
                  case rel => exact ⟨((t164 == x4_1)), (wrap64 (x6_2 + 1)), (by first | rfl | (simp; done) | (simp [*]; done)), (by first | rfl | (simp; done) | (simp [*]; done)), H', ⟨by have := HK1.out; have := HK2.out; omega⟩, ⟨by (with_reducible repeat (first | refine blk_drewN ?_ _ | refine blk_drew ?_ | refine blk_alloc ?_ _)); exact BK162.out⟩, ⟨by repeat (first | (with_reducible first | exact HB.out | apply below_alloc | apply pw_below_drewN | apply below_drew1 | refine below_set ?_ GE162.out) | exact HB.out)⟩⟩
                · rw [if_neg c9] at H
                  exact absurd H (by simp)
            · rw [if_neg c5] at H
              have c5b0 : decide (x6_2 < (l0_2.length : Int)) = false := decide_eq_false c5
              clear c5
              by_cases c14 : x5_2 = true
              · subst c14
                have H1 : (crossbuckref18_Live.l0 k2 (wrap64 (x3_1 + 1)) (wrap64 (x4_1 + 1)) l0_0 l0_1 l0_2) = some r := by rw [if_pos rfl] at H; exact H
                clear H
                have H := H1
                clear H1
                have H' := Aside0.mk H
                clear H
                have hcz15_0 : wr.cell? ⟨gb162, 0, none⟩ = some (.slice A0_0 l0_0.length c0_0) := (blk_cell BK162.out 0).trans rfl
                have hcz15_1 : wr.cell? ⟨gb162, 1, none⟩ = some (.slice A0_1 l0_1.length c0_1) := (blk_cell BK162.out 1).trans rfl
                have hcz15_2 : wr.cell? ⟨gb162, 2, none⟩ = some (.slice A0_2 l0_2.length c0_2) := (blk_cell BK162.out 2).trans rfl
                have hfz15_0 := blk_frozen BK162.out 0
                have hfz15_1 := blk_frozen BK162.out 1
                have hfz15_2 := blk_frozen BK162.out 2
                go_wp2
                go_roundg k2
                case measure => have := HK1.out; have := HK2.out; omega
                case rel => exact ⟨(wrap64 (x3_1 + 1)), (wrap64 (x4_1 + 1)), (by first | rfl | (simp; done) | (simp [*]; done)), (by first | rfl | (simp; done) | (simp [*]; done)), H', ⟨by have := HK1.out; have := HK2.out; omega⟩, ⟨by (with_reducible repeat (first | refine blk_drewN ?_ _ | refine blk_drew ?_ | refine blk_alloc ?_ _)); exact BK162.out⟩, ⟨by repeat (first | (with_reducible first | exact HB.out | apply below_alloc | apply pw_below_drewN | apply below_drew1 | refine below_set ?_ GE162.out) | exact HB.out)⟩⟩
              · replace c14 := Bool.eq_false_iff.mpr c14
                subst c14
                have H1 : (crossbuckref18_Live.l0 k2 x3_1 (wrap64 (x4_1 + 1)) l0_0 l0_1 l0_2) = some r := by rw [if_neg (show ¬ (false = true) by decide)] at H; exact H
                clear H
                have H := H1
                clear H1
                have H' := Aside0.mk H
                clear H
                have hcz16_0 : wr.cell? ⟨gb162, 0, none⟩ = some (.slice A0_0 l0_0.length c0_0) := (blk_cell BK162.out 0).trans rfl
                have hcz16_1 : wr.cell? ⟨gb162, 1, none⟩ = some (.slice A0_1 l0_1.length c0_1) := (blk_cell BK162.out 1).trans rfl
                have hcz16_2 : wr.cell? ⟨gb162, 2, none⟩ = some (.slice A0_2 l0_2.length c0_2) := (blk_cell BK162.out 2).trans rfl
                have hfz16_0 := blk_frozen BK162.out 0
                have hfz16_1 := blk_frozen BK162.out 1
                have hfz16_2 := blk_frozen BK162.out 2
                go_wp2
                go_roundg k2
                case measure => have := HK1.out; have := HK2.out; omega
                case rel => exact ⟨(x3_1), (wrap64 (x4_1 + 1)), (by first | rfl | (simp; done) | (simp [*]; done)), (by first | rfl | (simp; done) | (simp [*]; done)), H', ⟨by have := HK1.out; have := HK2.out; omega⟩, ⟨by (with_reducible repeat (first | refine blk_drewN ?_ _ | refine blk_drew ?_ | refine blk_alloc ?_ _)); exact BK162.out⟩, ⟨by repeat (first | (with_reducible first | exact HB.out | apply below_alloc | apply pw_below_drewN | apply below_drew1 | refine below_set ?_ GE162.out) | exact HB.out)⟩⟩
      · rw [if_neg c3] at H
        have c3b0 : decide (x4_1 < (l0_0.length : Int)) = false := decide_eq_false c3
        clear c3
        obtain rfl := Option.some.inj H
        have hcz17_0 : wr.cell? ⟨gb162, 0, none⟩ = some (.slice A0_0 l0_0.length c0_0) := (blk_cell BK162.out 0).trans rfl
        have hcz17_1 : wr.cell? ⟨gb162, 1, none⟩ = some (.slice A0_1 l0_1.length c0_1) := (blk_cell BK162.out 1).trans rfl
        have hcz17_2 : wr.cell? ⟨gb162, 2, none⟩ = some (.slice A0_2 l0_2.length c0_2) := (blk_cell BK162.out 2).trans rfl
        have hfz17_0 := blk_frozen BK162.out 0
        have hfz17_1 := blk_frozen BK162.out 1
        have hfz17_2 := blk_frozen BK162.out 2
        go_wp2
        go_ret
        exact ⟨by first | rfl | (simp [errW_none, errW_some] <;> rfl) | (simp [*, errW_none, errW_some] <;> rfl), by repeat (first | (with_reducible first | exact HB.out | apply below_alloc | apply pw_below_drewN | apply below_drew1 | refine below_set ?_ GE162.out) | exact HB.out)⟩



/-- Values 0, 1, .. that were published at these epochs. -/
def itemsFrom : List Int → Nat → List S96
  | [], _ => []
  | e :: l, k => ⟨e, (k : Int)⟩ :: itemsFrom l (k + 1)
theorem itemsFrom_length (es : List Int) : ∀ k, (itemsFrom es k).length = es.length := by
  induction es with
  | nil => intro k; rfl
  | cons e l ih => intro k; simp [itemsFrom, ih]
theorem itemsFrom_snoc (es : List Int) (x : Int) : ∀ k, itemsFrom (es ++ [x]) k = itemsFrom es k ++ [⟨x, ((k + es.length : Nat) : Int)⟩] := by
  induction es with
  | nil => intro k; simp [itemsFrom]
  | cons e l ih => intro k; simp [itemsFrom, ih]; omega
theorem itemsFrom_rd (es : List Int) : ∀ (k j : Nat) (h : j < es.length), (itemsFrom es k).getD j z96 = ⟨es[j], ((k + j : Nat) : Int)⟩ := by
  induction es with
  | nil => intro k j h; simp at h
  | cons e l ih =>
    intro k j h
    cases j with
    | zero => simp [itemsFrom]
    | succ j =>
      have := ih (k + 1) j (by simpa using h)
      simp only [itemsFrom, List.getD_cons_succ, this, List.getElem_cons_succ]
      congr 1
      omega
theorem items_at (es : List Int) (j : Nat) (h : j < es.length) : rd_T96 (itemsFrom es 0) (j : Int) = ⟨es[j], (j : Int)⟩ := by
  unfold rd_T96
  rw [show ((j : Int)).toNat = j by omega, itemsFrom_rd es 0 j h]
  simp
def Inc (es : List Int) : Prop := es.Pairwise (· < ·)
theorem Inc.lt {es : List Int} (h : Inc es) {i j : Nat} (hj : j < es.length) (hij : i < j) : es[i] < es[j] := List.pairwise_iff_getElem.1 h i j (by omega) hj hij
theorem at_items {es : List Int} (h : Inc es) (j : Nat) : ∀ n, (hn : n ≤ es.length) → (hj : j < n) → atGo (itemsFrom es 0) (es[j]) n = (j : Int) := by
  intro n
  induction n with
  | zero => intro _ hj; omega
  | succ n ih =>
    intro hn hj
    unfold atGo
    rw [items_at es n (by omega)]
    by_cases e : n = j
    · subst e
      rw [if_pos (Int.le_refl _)]
    · rw [if_neg (by have := h.lt (i := j) (j := n) (by omega) (by omega); simp only []; omega)]
      exact ih (by omega) (by omega)
theorem atE_items {es : List Int} (h : Inc es) (j : Nat) (hj : j < es.length) : atE (itemsFrom es 0) (es[j]) = (j : Int) := at_items h j _ (by rw [itemsFrom_length]; exact Nat.le_refl _) (by rw [itemsFrom_length]; exact hj)
theorem lastE_items {es : List Int} (hn : 0 < es.length) : lastE (itemsFrom es 0) = es[es.length - 1] := by
  unfold lastE
  rw [itemsFrom_length, show ((es.length : Int) - 1) = ((es.length - 1 : Nat) : Int) by omega, items_at es _ (by omega)]
theorem nowV_items {es : List Int} (hn : 0 < es.length) : nowV (itemsFrom es 0) = ((es.length - 1 : Nat) : Int) := by
  unfold nowV
  rw [itemsFrom_length, show ((es.length : Int) - 1) = ((es.length - 1 : Nat) : Int) by omega, items_at es _ (by omega)]
theorem atE_top {es : List Int} (hn : 0 < es.length) (a : Int) (ha : es[es.length - 1] ≤ a) : atE (itemsFrom es 0) a = ((es.length - 1 : Nat) : Int) := by
  unfold atE
  rw [itemsFrom_length]
  obtain ⟨m, hm⟩ : ∃ m, es.length = m + 1 := ⟨es.length - 1, by omega⟩
  rw [hm]
  unfold atGo
  rw [items_at es m (by omega), if_pos (by simp only [hm] at ha; exact ha)]
  simp
theorem retGo_all (s : Int → Bool) : ∀ (l : List S96) (k : Nat), (∀ j, j < l.length → s ((k + j : Nat) : Int) = true) → retGo s l k = l
  | [], _, _ => rfl
  | x :: l, k, h => by
    unfold retGo
    rw [if_pos (by have := h 0 (by simp); simpa using this), retGo_all s l (k + 1) (fun j hj => by have := h (j + 1) (by simpa using hj); rw [show k + 1 + j = k + (j + 1) by omega]; exact this)]
theorem dropLast_mem {es : List Int} {j : Nat} (h : j < es.length - 1) : es[j]'(by omega) ∈ es.dropLast := by
  rw [List.mem_iff_getElem]
  exact ⟨j, by simpa using h, by simp⟩
theorem retire_items {es : List Int} (h : Inc es) (hn : 0 < es.length) : retireE (itemsFrom es 0) es.dropLast = itemsFrom es 0 := by
  unfold retireE
  apply retGo_all
  intro j hj
  rw [itemsFrom_length] at hj
  rw [Nat.zero_add]
  unfold keepB
  rw [itemsFrom_length]
  by_cases e : j = es.length - 1
  · simp [show (j : Int) = (es.length : Int) - 1 by omega]
  · rw [Bool.or_eq_true]
    refine .inr (List.any_eq_true.2 ⟨es[j], dropLast_mem (by omega), ?_⟩)
    simp [atE_items h j hj]
theorem has_items {es : List Int} (hn : 0 < es.length) (j : Nat) (hj : j < es.length) : hasE (itemsFrom es 0) es.dropLast es[j] = true := by
  unfold hasE
  rw [Bool.or_eq_true, lastE_items hn]
  by_cases e : j = es.length - 1
  · subst e
    exact .inl (decide_eq_true (Int.le_refl _))
  · exact .inr (decide_eq_true (dropLast_mem (by omega)))
theorem get_items {es : List Int} (h : Inc es) (j : Nat) (hj : j < es.length) : getE (itemsFrom es 0) es.dropLast es[j] = ((j : Int), true) := by
  unfold getE
  rw [if_pos (has_items (by omega) j hj), atE_items h j hj, if_neg (by omega), items_at es j hj]
theorem get_top {es : List Int} (hn : 0 < es.length) (a : Int) (ha : es[es.length - 1] ≤ a) : getE (itemsFrom es 0) es.dropLast a = (((es.length - 1 : Nat) : Int), true) := by
  unfold getE
  rw [if_pos (by unfold hasE; rw [lastE_items hn]; simp [ha]), atE_top hn a ha, if_neg (by omega), items_at es _ (by omega)]
theorem pin_items {es : List Int} (hn : 0 < es.length) (h0 : 0 ≤ es[es.length - 1]) : pinE (itemsFrom es 0) es.dropLast es[es.length - 1] = (0, es) := by
  unfold pinE
  rw [if_pos ⟨h0, has_items hn _ _⟩]
  congr 1
  rw [← List.getLast_eq_getElem (List.ne_nil_of_length_pos hn)]
  exact List.dropLast_concat_getLast _
theorem pub_items {es : List Int} (h : Inc es) (hn : 0 < es.length) (x : Int) (hx : es[es.length - 1] < x) (hi : Inc (es ++ [x])) : pubE (itemsFrom es 0) es x ((es.length : Nat) : Int) = (0, itemsFrom (es ++ [x]) 0) := by
  unfold pubE
  rw [lastE_items hn, if_neg (by omega)]
  congr 1
  have e : itemsFrom es 0 ++ [⟨x, ((es.length : Nat) : Int)⟩] = itemsFrom (es ++ [x]) 0 := by rw [itemsFrom_snoc]; simp
  rw [e]
  have := retire_items hi (by simp)
  rw [List.dropLast_concat] at this
  exact this
theorem pub_again {es : List Int} (hn : 0 < es.length) (ps : List Int) (v : Int) : pubE (itemsFrom es 0) ps es[es.length - 1] v = (5, itemsFrom es 0) := by
  unfold pubE
  rw [lastE_items hn, if_pos (Int.le_refl _)]
theorem inc_snoc {es : List Int} (h : Inc es) (hn : 0 < es.length) (x : Int) (hx : es[es.length - 1] < x) : Inc (es ++ [x]) := by
  unfold Inc
  rw [List.pairwise_append]
  refine ⟨h, by simp, fun a ha b hb => ?_⟩
  obtain rfl := List.mem_singleton.1 hb
  obtain ⟨j, hj, rfl⟩ := List.mem_iff_getElem.1 ha
  by_cases e : j = es.length - 1
  · subst e; exact hx
  · exact Int.lt_trans (h.lt (by omega) (by omega)) hx
def lst (es : List Int) : Int := es.getD (es.length - 1) 0
theorem lst_eq {es : List Int} (hn : 0 < es.length) : lst es = es[es.length - 1] := by unfold lst; rw [List.getD_eq_getElem?_getD, List.getElem?_eq_getElem (by omega)]; rfl
theorem lst_snoc (es : List Int) (x : Int) : lst (es ++ [x]) = x := by simp [lst, List.getD]
theorem pin_lst {es : List Int} (hn : 0 < es.length) (h0 : 0 ≤ lst es) : pinE (itemsFrom es 0) es.dropLast (lst es) = (0, es) := by
  rw [lst_eq hn] at h0 ⊢
  exact pin_items hn h0
theorem pub_lst {es : List Int} (h : Inc es) (hn : 0 < es.length) (x : Int) (hx : lst es < x) : pubE (itemsFrom es 0) es x ((es.length : Nat) : Int) = (0, itemsFrom (es ++ [x]) 0) := by
  rw [lst_eq hn] at hx
  exact pub_items h hn x hx (inc_snoc h hn x hx)
theorem pub2_lst (es : List Int) (x v : Int) (ps : List Int) : pubE (itemsFrom (es ++ [x]) 0) ps x v = (5, itemsFrom (es ++ [x]) 0) := by
  have := pub_again (es := es ++ [x]) (by simp) ps v
  rw [← lst_eq (by simp), lst_snoc] at this
  exact this
theorem inc_lst {es : List Int} (h : Inc es) (hn : 0 < es.length) (x : Int) (hx : lst es < x) : Inc (es ++ [x]) := inc_snoc h hn x (by rw [lst_eq hn] at hx; exact hx)
theorem get_lst {es : List Int} (hn : 0 < es.length) (a : Int) (ha : lst es ≤ a) : getE (itemsFrom es 0) es.dropLast a = (((es.length - 1 : Nat) : Int), true) := get_top hn a (by rw [lst_eq hn] at ha; exact ha)
theorem get_rd {es : List Int} (h : Inc es) (j : Nat) (hj : j < es.length) : getE (itemsFrom es 0) es.dropLast (rd es (j : Int)) = ((j : Int), true) := by
  have : rd es (j : Int) = es[j] := by simp [rd, List.getD, hj]
  rw [this]
  exact get_items h j hj


theorem rd_lt {es : List Int} {j : Nat} (hj : j < es.length) : rd es (j : Int) = es[j] := by simp [rd, List.getD, hj]
theorem last_f {E V P : List Int} (hn : 0 < E.length) (hl : E.length ≤ 1000) : crossbuckref18_Last.f E V P = some (lst E) := by
  unfold crossbuckref18_Last.f
  have e : wrap64 ((E.length : Int) - 1) = ((E.length - 1 : Nat) : Int) := by rw [wrap64_id _ (by omega) (by omega)]; omega
  rw [e, if_pos (by omega), if_pos (by omega), rd_lt (by omega), lst_eq hn]
theorem pinned_l (a : Int) (E V P : List Int) (hl : P.length ≤ 1000) : ∀ (l : List Int) (i c : Nat), P.drop i = l → c + l.length ≤ 1000 → Ev (fun k => crossbuckref18_Pinned.l0 k a (c : Int) (i : Int) E V P) ((c + l.count a : Nat) : Int) := by
  intro l
  induction l with
  | nil =>
    intro i c hd hc
    have : P.length ≤ i := by simpa using hd
    refine Ev.step (f := fun _ => some (c : Int)) (fun k => by rw [crossbuckref18_Pinned.l0, if_neg (by omega)]) ?_
    simpa using Ev.now (c : Int)
  | cons x l ih =>
    intro i c hd hc
    have hlt : i < P.length := by
      apply Classical.byContradiction
      intro h
      rw [List.drop_eq_nil_of_le (by omega)] at hd
      cases hd
    rw [List.drop_eq_getElem_cons hlt] at hd
    injection hd with hx hd
    simp at hc
    have e1 : wrap64 ((i : Int) + 1) = ((i + 1 : Nat) : Int) := by rw [wrap64_id _ (by omega) (by omega)]; simp
    have e2 : wrap64 ((c : Int) + 1) = ((c + 1 : Nat) : Int) := by rw [wrap64_id _ (by omega) (by omega)]; simp
    by_cases h : x = a
    · have := ih (i + 1) (c + 1) hd (by omega)
      refine Ev.step (fun k => by rw [crossbuckref18_Pinned.l0, if_pos (by omega), if_pos (by omega), rd_lt hlt, hx, if_pos h, e1, e2]) ?_
      rw [show c + (x :: l).count a = c + 1 + l.count a by simp [h]; omega]
      exact this
    · have := ih (i + 1) c hd (by omega)
      refine Ev.step (fun k => by rw [crossbuckref18_Pinned.l0, if_pos (by omega), if_pos (by omega), rd_lt hlt, hx, if_neg h, e1]) ?_
      rw [show c + (x :: l).count a = c + l.count a by simp [List.count_cons, h]]
      exact this
theorem pinned_ev (a : Int) (E V P : List Int) (hl : P.length ≤ 1000) : Ev (fun k => crossbuckref18_Pinned.f k E V P a) ((P.count a : Nat) : Int) := by
  have := pinned_l a E V P hl P 0 0 rfl (by omega)
  simpa [crossbuckref18_Pinned.f] using this
def hasR (E P : List Int) (a : Int) : Bool := decide (lst E ≤ a) || decide (a ∈ P)
theorem has_ev (a : Int) (E V P : List Int) (hn : 0 < E.length) (he : E.length ≤ 1000) (hl : P.length ≤ 1000) : Ev (fun k => crossbuckref18_Has.f k E V P a) (hasR E P a) := by
  unfold crossbuckref18_Has.f
  simp only [last_f hn he, Option.bind_some]
  by_cases h : a ≥ lst E
  · simp only [if_pos h]
    have : hasR E P a = true := by simp [hasR]; exact .inl h
    rw [this]
    exact Ev.now true
  · simp only [if_neg h]
    have e : hasR E P a = decide (((P.count a : Nat) : Int) > 0) := by
      have : ¬ lst E ≤ a := h
      simp [hasR, this, List.count_pos_iff]
    rw [e]
    exact Ev.bind (pinned_ev a E V P hl) (Ev.now _)
def atRGo (a : Int) : List Int → Nat → Int → Int
  | [], _, acc => acc
  | e :: l, i, acc => atRGo a l (i + 1) (if e ≤ a then (i : Int) else acc)
def atR (E : List Int) (a : Int) : Int := atRGo a E 0 (-1)
theorem at_l (a : Int) (E V P : List Int) (hl : E.length ≤ 1000) : ∀ (l : List Int) (i : Nat) (acc : Int), E.drop i = l → Ev (fun k => crossbuckref18_At.l0 k a acc (i : Int) E V P) (atRGo a l i acc) := by
  intro l
  induction l with
  | nil =>
    intro i acc hd
    have : E.length ≤ i := by simpa using hd
    exact Ev.step (f := fun _ => some acc) (fun k => by rw [crossbuckref18_At.l0, if_neg (by omega)]) (Ev.now acc)
  | cons x l ih =>
    intro i acc hd
    have hlt : i < E.length := by
      apply Classical.byContradiction
      intro h
      rw [List.drop_eq_nil_of_le (by omega)] at hd
      cases hd
    rw [List.drop_eq_getElem_cons hlt] at hd
    injection hd with hx hd
    have e1 : wrap64 ((i : Int) + 1) = ((i + 1 : Nat) : Int) := by rw [wrap64_id _ (by omega) (by omega)]; simp
    unfold atRGo
    by_cases h : x ≤ a
    · rw [if_pos h]
      exact Ev.step (fun k => by rw [crossbuckref18_At.l0, if_pos (by omega), if_pos (by omega), rd_lt hlt, hx, if_pos h, e1]) (ih (i + 1) i hd)
    · rw [if_neg h]
      exact Ev.step (fun k => by rw [crossbuckref18_At.l0, if_pos (by omega), if_pos (by omega), rd_lt hlt, hx, if_neg h, e1]) (ih (i + 1) acc hd)
theorem at_ev (a : Int) (E V P : List Int) (hl : E.length ≤ 1000) : Ev (fun k => crossbuckref18_At.f k E V P a) (atR E a) := at_l a E V P hl E 0 (-1) rfl
def pinR (E P : List Int) (a : Int) : Int × List Int := if 0 ≤ a ∧ hasR E P a = true then (0, P ++ [a]) else (3, P)
theorem pin_ev (a : Int) (E V P : List Int) (hn : 0 < E.length) (he : E.length ≤ 1000) (hl : P.length ≤ 1000) : Ev (fun k => crossbuckref18_Pin.f k E V P a) (E, V, (pinR E P a).2, (pinR E P a).1) := by
  unfold crossbuckref18_Pin.f pinR
  by_cases h : a < 0
  · simp only [if_pos h, if_neg (show ¬ (0 ≤ a ∧ hasR E P a = true) from fun hc => by omega)]
    exact Ev.now _
  · simp only [if_neg h]
    refine Ev.bind (has_ev a E V P hn he hl) ?_
    by_cases hh : hasR E P a = true
    · simp only [if_pos hh, if_pos (show 0 ≤ a ∧ hasR E P a = true from ⟨by omega, hh⟩), Option.bind_some, List.nil_append, List.length_nil, Nat.zero_add]
      simp only [if_pos (show P.length < 17592186044416 by omega)]
      exact Ev.now _
    · simp only [if_neg hh, if_neg (show ¬ (0 ≤ a ∧ hasR E P a = true) from fun hc => hh hc.2)]
      exact Ev.now _
def pubR (E V : List Int) (e v : Int) : List Int × List Int × Int := if e ≤ lst E then (E, V, 5) else (E ++ [e], V ++ [v], 0)
theorem pub_f (e v : Int) (E V P : List Int) (hn : 0 < E.length) (he : E.length ≤ 1000) (hv : V.length ≤ 1000) : crossbuckref18_Publish.f E V P e v = some ((pubR E V e v).1, (pubR E V e v).2.1, P, (pubR E V e v).2.2) := by
  unfold crossbuckref18_Publish.f pubR
  rw [last_f hn he, Option.bind_some]
  by_cases h : e ≤ lst E
  · rw [if_pos h, if_pos h]
  · rw [if_neg h, if_neg h]
    simp only [List.nil_append, Option.bind_some, List.length_nil, Nat.zero_add]
    rw [if_pos (by omega), if_pos (by omega), if_pos (by omega), if_pos (by omega)]


def unpR (P : List Int) (a : Int) : Int × List Int := if a ∈ P then (0, P.erase a) else (23, P)
theorem unp_l (a : Int) (E V P : List Int) (hl : P.length ≤ 1000) : ∀ (l : List Int) (i : Nat) (acc : List Int) (g : Bool), P.drop i = l → acc.length ≤ i → Ev (fun k => crossbuckref18_Unpin.l0 k a acc g (i : Int) E V P) (E, V, acc ++ (if g = true then l else l.erase a), 0) := by
  intro l
  induction l with
  | nil =>
    intro i acc g hd hc
    have : P.length ≤ i := by simpa using hd
    refine Ev.step (f := fun _ => some (E, V, acc, 0)) (fun k => by rw [crossbuckref18_Unpin.l0, if_neg (by omega)]) ?_
    simpa using Ev.now (E, V, acc, (0 : Int))
  | cons x l ih =>
    intro i acc g hd hc
    have hlt : i < P.length := by
      apply Classical.byContradiction
      intro h
      rw [List.drop_eq_nil_of_le (by omega)] at hd
      cases hd
    rw [List.drop_eq_getElem_cons hlt] at hd
    injection hd with hx hd
    have e1 := Aside0.mk (show wrap64 ((i : Int) + 1) = ((i + 1 : Nat) : Int) from by rw [wrap64_id _ (by omega) (by omega)]; simp)
    by_cases h : x = a
    · cases g with
      | true =>
        have := ih (i + 1) (acc ++ [x]) true hd (by simp; omega)
        refine Ev.step (fun k => by rw [crossbuckref18_Unpin.l0, if_pos (by omega), if_pos (by omega), rd_lt hlt, hx, if_pos h, if_pos rfl, if_pos (by omega), e1.out]) ?_
        simpa using this
      | false =>
        have := ih (i + 1) acc true hd (by omega)
        refine Ev.step (fun k => by rw [crossbuckref18_Unpin.l0, if_pos (by omega), if_pos (by omega), rd_lt hlt, hx, if_pos h, if_neg (by decide), e1.out]) ?_
        simpa [h] using this
    · have := ih (i + 1) (acc ++ [x]) g hd (by simp; omega)
      refine Ev.step (fun k => by rw [crossbuckref18_Unpin.l0, if_pos (by omega), if_pos (by omega), rd_lt hlt, hx, if_neg h, if_pos (by omega), e1.out]) ?_
      have e : acc ++ (if g = true then x :: l else (x :: l).erase a) = (acc ++ [x]) ++ (if g = true then l else l.erase a) := by
        rw [List.erase_cons_tail (by simpa using h)]
        cases g <;> simp
      rw [e]
      exact this
theorem unp_ev (a : Int) (E V P : List Int) (hl : P.length ≤ 1000) : Ev (fun k => crossbuckref18_Unpin.f k E V P a) (E, V, (unpR P a).2, (unpR P a).1) := by
  unfold crossbuckref18_Unpin.f unpR
  refine Ev.bind (pinned_ev a E V P hl) ?_
  by_cases h : a ∈ P
  · have : ¬ ((P.count a : Nat) : Int) = 0 := by
      have := List.count_pos_iff.2 h
      omega
    simp only [if_pos h, if_neg this]
    have := unp_l a E V P hl P 0 [] false rfl (by simp)
    simpa using this
  · have : ((P.count a : Nat) : Int) = 0 := by rw [List.count_eq_zero.2 h]; rfl
    simp only [if_neg h, if_pos this]
    exact Ev.now _
def liveB (E P : List Int) (i : Nat) : Bool := ((i : Int) == (E.length : Int) - 1) || P.any (fun p => atR E p == (i : Int))
def liveGo (s : Nat → Bool) : Nat → Nat → Nat
  | 0, _ => 0
  | n + 1, i => (if s i = true then 1 else 0) + liveGo s n (i + 1)
theorem live_l (E V P : List Int) (he : E.length ≤ 1000) (hl : P.length ≤ 1000) : ∀ (n i c : Nat), i + n = E.length → c ≤ i → Ev (fun k => crossbuckref18_Live.l0 k (c : Int) (i : Int) E V P) ((c + liveGo (liveB E P) n i : Nat) : Int) := by
  intro n
  induction n with
  | zero =>
    intro i c hi hc
    exact Ev.step (f := fun _ => some (c : Int)) (fun k => by rw [crossbuckref18_Live.l0, if_neg (by omega)]) (by simpa [liveGo] using Ev.now (c : Int))
  | succ n ih =>
    intro i c hi hc
    have e1 := Aside0.mk (show wrap64 ((i : Int) + 1) = ((i + 1 : Nat) : Int) from by rw [wrap64_id _ (by omega) (by omega)]; simp)
    have e2 := Aside0.mk (show wrap64 ((c : Int) + 1) = ((c + 1 : Nat) : Int) from by rw [wrap64_id _ (by omega) (by omega)]; simp)
    have e3 := Aside0.mk (show wrap64 ((E.length : Int) - 1) = (E.length : Int) - 1 from wrap64_id _ (by omega) (by omega))
    have inner : ∀ (l : List Int) (j : Nat) (b : Bool), P.drop j = l → Ev (fun k => crossbuckref18_Live.l1 k (c : Int) (i : Int) b (j : Int) E V P) ((c + ((if (b || l.any (fun p => atR E p == (i : Int))) = true then 1 else 0) + liveGo (liveB E P) n (i + 1)) : Nat) : Int) := by
      intro l
      induction l with
      | nil =>
        intro j b hd
        have : P.length ≤ j := by simpa using hd
        cases b with
        | true =>
          have := ih (i + 1) (c + 1) (by omega) (by omega)
          refine Ev.step (fun k => by rw [crossbuckref18_Live.l1, if_neg (by omega), if_pos rfl, e1.out, e2.out]) ?_
          rw [show c + ((if (true || ([] : List Int).any (fun p => atR E p == (i : Int))) = true then 1 else 0) + liveGo (liveB E P) n (i + 1)) = c + 1 + liveGo (liveB E P) n (i + 1) by simp; omega]
          exact this
        | false =>
          have := ih (i + 1) c (by omega) (by omega)
          refine Ev.step (fun k => by rw [crossbuckref18_Live.l1, if_neg (by omega), if_neg (by decide), e1.out]) ?_
          rw [show c + ((if (false || ([] : List Int).any (fun p => atR E p == (i : Int))) = true then 1 else 0) + liveGo (liveB E P) n (i + 1)) = c + liveGo (liveB E P) n (i + 1) by simp]
          exact this
      | cons x l ihl =>
        intro j b hd
        have hlt : j < P.length := by
          apply Classical.byContradiction
          intro h
          rw [List.drop_eq_nil_of_le (by omega)] at hd
          cases hd
        rw [List.drop_eq_getElem_cons hlt] at hd
        injection hd with hx hd
        have e4 := Aside0.mk (show wrap64 ((j : Int) + 1) = ((j + 1 : Nat) : Int) from by rw [wrap64_id _ (by omega) (by omega)]; simp)
        cases b with
        | true =>
          have := ihl (j + 1) true hd
          refine Ev.step (fun k => by rw [crossbuckref18_Live.l1, if_pos (by omega), if_pos rfl, e4.out]) ?_
          simpa using this
        | false =>
          have := ihl (j + 1) (atR E x == (i : Int)) hd
          refine Ev.step (fun k => by rw [crossbuckref18_Live.l1, if_pos (by omega), if_neg (by decide), if_pos (by omega), rd_lt hlt, hx, e4.out]) (Ev.bind (at_ev x E V P he) ?_)
          simpa using this
    refine Ev.step (fun k => by rw [crossbuckref18_Live.l0, if_pos (by omega), e3.out]) ?_
    have := inner P 0 ((i : Int) == (E.length : Int) - 1) rfl
    exact this
theorem live_ev (E V P : List Int) (he : E.length ≤ 1000) (hl : P.length ≤ 1000) : Ev (fun k => crossbuckref18_Live.f k E V P) ((liveGo (liveB E P) E.length 0 : Nat) : Int) := by
  have := live_l E V P he hl E.length 0 0 (by omega) (by omega)
  simpa [crossbuckref18_Live.f] using this


def Z (E V : List Int) : List S96 := List.zipWith S96.mk E V
theorem Z_len {E V : List Int} (h : E.length = V.length) : (Z E V).length = E.length := by simp [Z, h]
theorem rdT {L : List S96} {j : Nat} (h : j < L.length) : rd_T96 L (j : Int) = L[j] := by simp [rd_T96, List.getD, h]
theorem Z_get {E V : List Int} (h : E.length = V.length) {j : Nat} (hj : j < E.length) : (Z E V)[j]'(by rw [Z_len h]; exact hj) = ⟨E[j], V[j]'(by omega)⟩ := by simp [Z]
theorem atR_eq {E V : List Int} (h : E.length = V.length) (a : Int) : atR E a = atE (Z E V) a := by
  have key : ∀ (l : List Int) (i : Nat), E.drop i = l → i ≤ E.length → atRGo a l i (atGo (Z E V) a i) = atGo (Z E V) a E.length := by
    intro l
    induction l with
    | nil =>
      intro i hd hi
      have : E.length ≤ i := by simpa using hd
      have e : i = E.length := by omega
      rw [e]; rfl
    | cons x l ih =>
      intro i hd hi
      have hlt : i < E.length := by
        apply Classical.byContradiction
        intro h
        rw [List.drop_eq_nil_of_le (by omega)] at hd
        cases hd
      rw [List.drop_eq_getElem_cons hlt] at hd
      injection hd with hx hd
      unfold atRGo
      have e : (if x ≤ a then (i : Int) else atGo (Z E V) a i) = atGo (Z E V) a (i + 1) := by
        rw [atGo, rdT (by rw [Z_len h]; exact hlt), Z_get h hlt, hx]
      rw [e]
      exact ih (i + 1) hd (by omega)
  have := key E 0 rfl (by omega)
  unfold atE
  rw [Z_len h]
  exact this
theorem retGo_len (s : Int → Bool) (t : Nat → Bool) (h : ∀ i : Nat, t i = s (i : Int)) : ∀ (l : List S96) (i : Nat), (retGo s l i).length = liveGo t l.length i
  | [], _ => rfl
  | x :: l, i => by
    simp only [retGo, liveGo, List.length_cons, h]
    split
    · simp [retGo_len s t h l (i + 1)]; omega
    · simp [retGo_len s t h l (i + 1)]
theorem live_len {E V P : List Int} (h : E.length = V.length) : liveGo (liveB E P) E.length 0 = (retireE (Z E V) P).length := by
  unfold retireE
  rw [retGo_len (keepB (Z E V) P) (liveB E P) (fun i => by
    unfold liveB keepB
    rw [Z_len h]
    congr 1
    congr 1
    funext p
    rw [atR_eq h]
    rfl), Z_len h]
def IncL (L : List S96) : Prop := L.Pairwise (fun x y => x.f0 < y.f0)
theorem IncL.lt {L : List S96} (h : IncL L) {i j : Nat} (hj : j < L.length) (hij : i < j) : L[i].f0 < L[j].f0 := List.pairwise_iff_getElem.1 h i j (by omega) hj hij
theorem IncL.le {L : List S96} (h : IncL L) {i j : Nat} (hj : j < L.length) (hij : i ≤ j) : L[i].f0 ≤ L[j].f0 := by
  by_cases e : i = j
  · subst e; exact Int.le_refl _
  · exact Int.le_of_lt (h.lt hj (by omega))
theorem atGo_spec (L : List S96) (p : Int) : ∀ n, n ≤ L.length → (atGo L p n = -1 ∧ ∀ k (hk : k < n) (hl : k < L.length), p < L[k].f0) ∨ ∃ j, ∃ hj : j < L.length, j < n ∧ atGo L p n = (j : Int) ∧ L[j].f0 ≤ p ∧ ∀ k (hk : k < n) (hl : k < L.length), j < k → p < L[k].f0 := by
  intro n
  induction n with
  | zero => intro _; exact .inl ⟨rfl, fun k hk => by omega⟩
  | succ n ih =>
    intro hn
    have hl : n < L.length := by omega
    unfold atGo
    rw [rdT hl]
    by_cases h : L[n].f0 ≤ p
    · rw [if_pos h]
      exact .inr ⟨n, hl, by omega, rfl, h, fun k hk _ hj => by omega⟩
    · rw [if_neg h]
      rcases ih (by omega) with ⟨h1, h2⟩ | ⟨j, hj, h0, h1, h2, h3⟩
      · refine .inl ⟨h1, fun k hk hl2 => ?_⟩
        by_cases e : k = n
        · subst e; omega
        · exact h2 k (by omega) hl2
      · refine .inr ⟨j, hj, by omega, h1, h2, fun k hk hl2 hjk => ?_⟩
        by_cases e : k = n
        · subst e; omega
        · exact h3 k (by omega) hl2 hjk
/-- x is what there is at the epoch p. -/
def isAt (L : List S96) (p : Int) (x : S96) : Prop := x ∈ L ∧ x.f0 ≤ p ∧ ∀ y ∈ L, y.f0 ≤ p → y.f0 ≤ x.f0
theorem isAt_iff {L : List S96} (h : IncL L) (p : Int) {i : Nat} (hi : i < L.length) : atE L p = (i : Int) ↔ isAt L p L[i] := by
  unfold atE
  constructor
  · intro he
    rcases atGo_spec L p L.length (Nat.le_refl _) with ⟨h1, _⟩ | ⟨j, hj, _, h1, h2, h3⟩
    · omega
    · have e : j = i := by omega
      subst e
      refine ⟨List.getElem_mem hj, h2, fun y hy hyp => ?_⟩
      obtain ⟨k, hk, rfl⟩ := List.mem_iff_getElem.1 hy
      by_cases hc : j < k
      · have := h3 k hk hk hc; omega
      · exact h.le hj (by omega)
  · rintro ⟨_, hx, hmax⟩
    rcases atGo_spec L p L.length (Nat.le_refl _) with ⟨_, h2⟩ | ⟨j, hj, _, h1, h2, h3⟩
    · have := h2 i hi hi; omega
    · rw [h1]
      have h4 := hmax L[j] (List.getElem_mem hj) h2
      by_cases e : j = i
      · rw [e]
      · by_cases hc : j < i
        · have := h3 i hi hi hc; omega
        · have := h.lt hj (show i < j by omega); omega
theorem exists_at {L : List S96} (h : IncL L) {p : Int} {z : S96} (hz : z ∈ L) (hp : z.f0 ≤ p) : ∃ x, isAt L p x := by
  rcases atGo_spec L p L.length (Nat.le_refl _) with ⟨_, h2⟩ | ⟨j, hj, _, h1, _, _⟩
  · obtain ⟨k, hk, rfl⟩ := List.mem_iff_getElem.1 hz
    have := h2 k hk hk; omega
  · exact ⟨L[j], (isAt_iff h p hj).1 h1⟩
def liveX (L : List S96) (P : List Int) (x : S96) : Prop := (∀ y ∈ L, y.f0 ≤ x.f0) ∨ ∃ p ∈ P, isAt L p x
theorem keepB_iff {L : List S96} (h : IncL L) (P : List Int) {i : Nat} (hi : i < L.length) : keepB L P (i : Int) = true ↔ liveX L P L[i] := by
  unfold keepB liveX
  rw [Bool.or_eq_true, decide_eq_true_iff, List.any_eq_true]
  refine or_congr ?_ ⟨?_, ?_⟩
  · constructor
    · intro e y hy
      obtain ⟨k, hk, rfl⟩ := List.mem_iff_getElem.1 hy
      exact h.le hi (by omega)
    · intro hm
      apply Classical.byContradiction
      intro hc
      have hl : i < L.length - 1 := by omega
      have h1 := hm _ (List.getElem_mem (show L.length - 1 < L.length by omega))
      have h2 := h.lt (show L.length - 1 < L.length by omega) hl
      omega
  · rintro ⟨p, hp, e⟩
    exact ⟨p, hp, (isAt_iff h p hi).1 (by simpa using e)⟩
  · rintro ⟨p, hp, e⟩
    exact ⟨p, hp, by simpa using (isAt_iff h p hi).2 e⟩
theorem mem_retGo (s : Int → Bool) (x : S96) : ∀ (l : List S96) (k : Nat), x ∈ retGo s l k ↔ ∃ j, ∃ hj : j < l.length, l[j] = x ∧ s ((k + j : Nat) : Int) = true
  | [], k => by simp [retGo]
  | y :: l, k => by
    have ih := mem_retGo s x l (k + 1)
    unfold retGo
    constructor
    · intro h
      split at h
      · rename_i hs
        rcases List.mem_cons.1 h with rfl | h
        · exact ⟨0, by simp, rfl, by simpa using hs⟩
        · obtain ⟨j, hj, e, h2⟩ := ih.1 h
          exact ⟨j + 1, by simpa using hj, by simpa using e, by rw [show k + (j + 1) = k + 1 + j by omega]; exact h2⟩
      · obtain ⟨j, hj, e, h2⟩ := ih.1 h
        exact ⟨j + 1, by simpa using hj, by simpa using e, by rw [show k + (j + 1) = k + 1 + j by omega]; exact h2⟩
    · rintro ⟨j, hj, e, h2⟩
      cases j with
      | zero =>
        rw [if_pos (by simpa using h2)]
        exact List.mem_cons.2 (.inl (by simpa using e.symm))
      | succ j =>
        have := ih.2 ⟨j, by simpa using hj, by simpa using e, by rw [show k + 1 + j = k + (j + 1) by omega]; exact h2⟩
        split
        · exact List.mem_cons.2 (.inr this)
        · exact this
theorem retGo_sub (s : Int → Bool) : ∀ (l : List S96) (k : Nat), (retGo s l k).Sublist l
  | [], k => by simp [retGo]
  | y :: l, k => by
    unfold retGo
    split
    · exact (retGo_sub s l (k + 1)).cons_cons y
    · exact (retGo_sub s l (k + 1)).cons y
theorem retire_inc {L : List S96} (h : IncL L) (P : List Int) : IncL (retireE L P) := h.sublist (retGo_sub _ L 0)
theorem mem_retire {L : List S96} (h : IncL L) (P : List Int) (x : S96) : x ∈ retireE L P ↔ x ∈ L ∧ liveX L P x := by
  unfold retireE
  rw [mem_retGo]
  constructor
  · rintro ⟨j, hj, rfl, h2⟩
    exact ⟨List.getElem_mem hj, (keepB_iff h P hj).1 (by simpa using h2)⟩
  · rintro ⟨hx, hl⟩
    obtain ⟨j, hj, rfl⟩ := List.mem_iff_getElem.1 hx
    exact ⟨j, hj, rfl, by simpa using (keepB_iff h P hj).2 hl⟩
/-- Rising lists with the same members are one. -/
theorem eq_of_mem : ∀ {L M : List S96}, IncL L → IncL M → (∀ x, x ∈ L ↔ x ∈ M) → L = M
  | [], [], _, _, _ => rfl
  | [], y :: M, _, _, h => by have := (h y).2 (by simp); cases this
  | x :: L, [], _, _, h => by have := (h x).1 (by simp); cases this
  | x :: L, y :: M, hL, hM, h => by
    have hL' := List.pairwise_cons.1 hL
    have hM' := List.pairwise_cons.1 hM
    have e : x = y := by
      rcases List.mem_cons.1 ((h x).1 (by simp)) with e | h1
      · exact e
      · rcases List.mem_cons.1 ((h y).2 (by simp)) with e | h2
        · exact e.symm
        · have := hM'.1 x h1; have := hL'.1 y h2; omega
    subst e
    congr 1
    refine eq_of_mem hL'.2 hM'.2 (fun z => ⟨fun hz => ?_, fun hz => ?_⟩)
    · rcases List.mem_cons.1 ((h z).1 (List.mem_cons_of_mem _ hz)) with e | h1
      · subst e; have := hL'.1 z hz; omega
      · exact h1
    · rcases List.mem_cons.1 ((h z).2 (List.mem_cons_of_mem _ hz)) with e | h1
      · subst e; have := hM'.1 z hz; omega
      · exact h1


theorem IncL.uniq {L : List S96} (h : IncL L) {x y : S96} (hx : x ∈ L) (hy : y ∈ L) (e : x.f0 = y.f0) : x = y := by
  obtain ⟨i, hi, rfl⟩ := List.mem_iff_getElem.1 hx
  obtain ⟨j, hj, rfl⟩ := List.mem_iff_getElem.1 hy
  by_cases c : i = j
  · subst c; rfl
  · by_cases c2 : i < j
    · have := h.lt hj c2; omega
    · have := h.lt hi (show j < i by omega); omega
theorem last_max {L : List S96} (h : IncL L) (hn : 0 < L.length) : ∀ y ∈ L, y.f0 ≤ (L[L.length - 1]'(by omega)).f0 := by
  intro y hy
  obtain ⟨k, hk, rfl⟩ := List.mem_iff_getElem.1 hy
  exact h.le (by omega) (by omega)
theorem last_in {L : List S96} (h : IncL L) (hn : 0 < L.length) (P : List Int) : L[L.length - 1]'(by omega) ∈ retireE L P := (mem_retire h P _).2 ⟨List.getElem_mem _, .inl (last_max h hn)⟩
theorem retire_pos {L : List S96} (h : IncL L) (hn : 0 < L.length) (P : List Int) : 0 < (retireE L P).length := List.length_pos_of_mem (last_in h hn P)
theorem last_rd {L : List S96} (hn : 0 < L.length) : rd_T96 L ((L.length : Int) - 1) = L[L.length - 1]'(by omega) := by
  rw [show (L.length : Int) - 1 = ((L.length - 1 : Nat) : Int) by omega, rdT (by omega)]
theorem retire_last {L : List S96} (h : IncL L) (hn : 0 < L.length) (P : List Int) : rd_T96 (retireE L P) (((retireE L P).length : Int) - 1) = rd_T96 L ((L.length : Int) - 1) := by
  have hr := retire_pos h hn P
  rw [last_rd hr, last_rd hn]
  have hi := retire_inc h P
  have h1 := last_max hi hr _ (last_in h hn P)
  have h2 := ((mem_retire h P _).1 (List.getElem_mem (show (retireE L P).length - 1 < (retireE L P).length by omega))).1
  have h3 := last_max h hn _ h2
  exact h.uniq h2 (List.getElem_mem _) (by omega)
theorem isAt_retire {L : List S96} (h : IncL L) {P : List Int} {p : Int} {x : S96} (hx : isAt L p x) (hp : p ∈ P ∨ ∀ y ∈ L, y.f0 ≤ p) : x ∈ retireE L P := by
  refine (mem_retire h P x).2 ⟨hx.1, ?_⟩
  rcases hp with hp | hp
  · exact .inr ⟨p, hp, hx⟩
  · exact .inl (fun y hy => hx.2.2 y hy (hp y hy))
theorem retire_app {L t : List S96} (P Q : List Int) (h : IncL (L ++ t)) (hn : 0 < L.length) (hs : ∀ p ∈ Q, p ∈ P) : retireE (retireE L P ++ t) Q = retireE (L ++ t) Q := by
  have hL : IncL L := (List.pairwise_append.1 h).1
  have hsub : (retireE L P).Sublist L := retGo_sub _ L 0
  have hR : IncL (retireE L P ++ t) := h.sublist (hsub.append (List.Sublist.refl t))
  have inc : ∀ x, x ∈ retireE L P ++ t → x ∈ L ++ t := fun x hx => (hsub.append (List.Sublist.refl t)).subset hx
  have at_ : ∀ p ∈ Q, ∀ x, isAt (retireE L P ++ t) p x ↔ isAt (L ++ t) p x := by
    intro p hp x
    constructor
    · rintro ⟨h1, h2, h3⟩
      refine ⟨inc x h1, h2, fun y hy hyp => ?_⟩
      rcases List.mem_append.1 hy with hy | hy
      · obtain ⟨m, hm⟩ := exists_at hL hy hyp
        have h4 := h3 m (List.mem_append.2 (.inl (isAt_retire hL hm (.inl (hs p hp))))) hm.2.1
        have h5 := hm.2.2 y hy hyp
        omega
      · exact h3 y (List.mem_append.2 (.inr hy)) hyp
    · rintro ⟨h1, h2, h3⟩
      refine ⟨?_, h2, fun y hy hyp => h3 y (inc y hy) hyp⟩
      rcases List.mem_append.1 h1 with h1 | h1
      · exact List.mem_append.2 (.inl (isAt_retire hL ⟨h1, h2, fun y hy hyp => h3 y (List.mem_append.2 (.inl hy)) hyp⟩ (.inl (hs p hp))))
      · exact List.mem_append.2 (.inr h1)
  refine eq_of_mem (retire_inc hR Q) (retire_inc h Q) (fun x => ?_)
  rw [mem_retire hR, mem_retire h]
  constructor
  · rintro ⟨h1, h2⟩
    refine ⟨inc x h1, ?_⟩
    rcases h2 with h2 | ⟨p, hp, h2⟩
    · refine .inl (fun y hy => ?_)
      rcases List.mem_append.1 hy with hy | hy
      · have h4 := last_max hL hn y hy
        have h5 := h2 _ (List.mem_append.2 (.inl (last_in hL hn P)))
        omega
      · exact h2 y (List.mem_append.2 (.inr hy))
    · exact .inr ⟨p, hp, (at_ p hp x).1 h2⟩
  · rintro ⟨h1, h2⟩
    rcases h2 with h2 | ⟨p, hp, h2⟩
    · refine ⟨?_, .inl (fun y hy => h2 y (inc y hy))⟩
      rcases List.mem_append.1 h1 with h1 | h1
      · exact List.mem_append.2 (.inl ((mem_retire hL P x).2 ⟨h1, .inl (fun y hy => h2 y (List.mem_append.2 (.inl hy)))⟩))
      · exact List.mem_append.2 (.inr h1)
    · have h3 := (at_ p hp x).2 h2
      exact ⟨h3.1, .inr ⟨p, hp, h3⟩⟩
theorem retire_less {L : List S96} (P Q : List Int) (h : IncL L) (hn : 0 < L.length) (hs : ∀ p ∈ Q, p ∈ P) : retireE (retireE L P) Q = retireE L Q := by
  have := retire_app (t := []) P Q (by simpa using h) hn hs
  simpa using this
theorem retire_pin {L : List S96} (P : List Int) (a : Int) (h : IncL L) (ha : a ∈ P ∨ ∀ y ∈ L, y.f0 ≤ a) : retireE L (P ++ [a]) = retireE L P := by
  refine eq_of_mem (retire_inc h _) (retire_inc h _) (fun x => ?_)
  rw [mem_retire h, mem_retire h]
  refine and_congr Iff.rfl ⟨?_, ?_⟩
  · rintro (h2 | ⟨p, hp, h2⟩)
    · exact .inl h2
    · rcases List.mem_append.1 hp with hp | hp
      · exact .inr ⟨p, hp, h2⟩
      · obtain rfl := List.mem_singleton.1 hp
        rcases ha with ha | ha
        · exact .inr ⟨p, ha, h2⟩
        · exact .inl (fun y hy => h2.2.2 y hy (ha y hy))
  · rintro (h2 | ⟨p, hp, h2⟩)
    · exact .inl h2
    · exact .inr ⟨p, List.mem_append.2 (.inl hp), h2⟩
/-- What the chain answers at an epoch that it has. -/
theorem get_retire {L : List S96} (P : List Int) (a : Int) (h : IncL L) (ha : a ∈ P ∨ ∀ y ∈ L, y.f0 ≤ a) (hz : ∃ z ∈ L, z.f0 ≤ a) : ∃ j : Nat, ∃ hj : j < L.length, atE L a = (j : Int) ∧ ¬ atE (retireE L P) a < 0 ∧ rd_T96 (retireE L P) (atE (retireE L P) a) = L[j] := by
  obtain ⟨z, hz, hza⟩ := hz
  obtain ⟨m, hm⟩ := exists_at h hz hza
  obtain ⟨j, hj, rfl⟩ := List.mem_iff_getElem.1 hm.1
  have hin := isAt_retire h hm ha
  have hsub : (retireE L P).Sublist L := retGo_sub _ L 0
  obtain ⟨i, hi, e⟩ := List.mem_iff_getElem.1 hin
  have h2 : isAt (retireE L P) a (retireE L P)[i] := by
    rw [e]
    exact ⟨hin, hm.2.1, fun y hy hyp => hm.2.2 y (hsub.subset hy) hyp⟩
  have h3 := (isAt_iff (retire_inc h P) a hi).2 h2
  refine ⟨j, hj, (isAt_iff h a hj).2 hm, by omega, ?_⟩
  rw [h3, rdT hi, e]


/-- The chain holds what the document's chain says. -/
structure Rel (its : List S96) (ps E V : List Int) : Prop where
  items : its = retireE (Z E V) ps
  len : E.length = V.length
  pos : 0 < E.length
  inc : IncL (Z E V)
  pins : ∀ p ∈ ps, 0 ≤ p
  zero : ∃ z ∈ Z E V, z.f0 = 0
theorem Rel.zpos {its : List S96} {ps E V : List Int} (h : Rel its ps E V) : 0 < (Z E V).length := by rw [Z_len h.len]; exact h.pos
theorem Rel.last {its : List S96} {ps E V : List Int} (h : Rel its ps E V) : rd_T96 its ((its.length : Int) - 1) = ⟨lst E, lst V⟩ := by
  rw [h.items, retire_last h.inc h.zpos, last_rd h.zpos]
  have e : (Z E V).length - 1 = E.length - 1 := by rw [Z_len h.len]
  have := h.pos
  have := h.len
  simp only [e]
  rw [Z_get h.len (by omega), lst_eq h.pos, lst_eq (by omega)]
  congr 1
  simp only [h.len]
theorem Rel.lastE_ {its : List S96} {ps E V : List Int} (h : Rel its ps E V) : lastE its = lst E := by unfold lastE; rw [h.last]
theorem Rel.now_ {its : List S96} {ps E V : List Int} (h : Rel its ps E V) : nowV its = lst V := by unfold nowV; rw [h.last]
theorem Rel.has_ {its : List S96} {ps E V : List Int} (h : Rel its ps E V) (a : Int) : hasE its ps a = hasR E ps a := by unfold hasE hasR; rw [h.lastE_]
theorem Rel.live_ {its : List S96} {ps E V : List Int} (h : Rel its ps E V) : liveGo (liveB E ps) E.length 0 = its.length := by rw [live_len h.len, h.items]
theorem Rel.posI {its : List S96} {ps E V : List Int} (h : Rel its ps E V) : 0 < its.length := by rw [h.items]; exact retire_pos h.inc h.zpos ps
theorem Rel.max {its : List S96} {ps E V : List Int} (h : Rel its ps E V) : ∀ y ∈ Z E V, y.f0 ≤ lst E := by
  intro y hy
  have h1 := last_max h.inc h.zpos y hy
  have h2 := retire_last h.inc h.zpos ps
  rw [← h.items, h.last, last_rd h.zpos] at h2
  rw [← h2] at h1
  exact h1
theorem Rel.nonneg {its : List S96} {ps E V : List Int} (h : Rel its ps E V) : 0 ≤ lst E := by
  obtain ⟨z, hz, e⟩ := h.zero
  have := h.max z hz
  omega
theorem hasR_cases {E ps : List Int} {a : Int} (h : hasR E ps a = true) : a ∈ ps ∨ lst E ≤ a := by
  unfold hasR at h
  rw [Bool.or_eq_true] at h
  rcases h with h | h
  · exact .inr (of_decide_eq_true h)
  · exact .inl (of_decide_eq_true h)
theorem Rel.get_ {its : List S96} {ps E V : List Int} (h : Rel its ps E V) (a : Int) (ha : hasR E ps a = true) : 0 ≤ atR E a ∧ atR E a < V.length ∧ getE its ps a = (rd V (atR E a), true) := by
  have hc := hasR_cases ha
  have h0 : 0 ≤ a := by
    rcases hc with hc | hc
    · exact h.pins a hc
    · have := h.nonneg; omega
  obtain ⟨z, hz, e⟩ := h.zero
  obtain ⟨j, hj, h1, h2, h3⟩ := get_retire ps a h.inc (hc.imp id (fun hc y hy => Int.le_trans (h.max y hy) hc)) ⟨z, hz, by omega⟩
  have hjE : j < E.length := by rw [Z_len h.len] at hj; exact hj
  have hl := h.len
  rw [atR_eq h.len, h1]
  refine ⟨by omega, by omega, ?_⟩
  unfold getE
  rw [h.has_, if_pos ha, h.items, if_neg h2, h3, Z_get h.len hjE, rd_lt (by omega)]
theorem Rel.getN {its : List S96} {ps E V : List Int} (h : Rel its ps E V) (a : Int) (ha : hasR E ps a = false) : getE its ps a = (0, false) := by
  unfold getE
  rw [h.has_, if_neg (by rw [ha]; decide)]
theorem Rel.new_ (v : Int) : Rel [⟨0, v⟩] [] [0] [v] := by
  refine ⟨rfl, rfl, by decide, by simp [IncL, Z], by simp, ⟨⟨0, v⟩, by simp [Z], rfl⟩⟩
theorem Rel.pin_ {its : List S96} {ps E V : List Int} (h : Rel its ps E V) (a : Int) : pinE its ps a = pinR E ps a ∧ Rel its (pinR E ps a).2 E V := by
  unfold pinE pinR
  rw [h.has_]
  refine ⟨rfl, ?_⟩
  by_cases c : 0 ≤ a ∧ hasR E ps a = true
  · rw [if_pos c]
    refine ⟨?_, h.len, h.pos, h.inc, fun p hp => ?_, h.zero⟩
    · rw [retire_pin ps a h.inc ((hasR_cases c.2).imp id (fun hc y hy => Int.le_trans (h.max y hy) hc))]
      exact h.items
    · rcases List.mem_append.1 hp with hp | hp
      · exact h.pins p hp
      · obtain rfl := List.mem_singleton.1 hp; exact c.1
  · rw [if_neg c]
    exact h
theorem Rel.unp_ {its : List S96} {ps E V : List Int} (h : Rel its ps E V) (a : Int) : ∃ its2, unpE its ps a = ((unpR ps a).1, its2, (unpR ps a).2) ∧ Rel its2 (unpR ps a).2 E V := by
  unfold unpE unpR
  by_cases c : a ∈ ps
  · simp only [if_pos c]
    refine ⟨_, rfl, ?_, h.len, h.pos, h.inc, fun p hp => h.pins p (List.mem_of_mem_erase hp), h.zero⟩
    rw [h.items]
    exact retire_less ps _ h.inc h.zpos (fun p hp => List.mem_of_mem_erase hp)
  · simp only [if_neg c]
    exact ⟨_, rfl, h⟩
theorem Z_snoc {E V : List Int} (h : E.length = V.length) (e v : Int) : Z (E ++ [e]) (V ++ [v]) = Z E V ++ [⟨e, v⟩] := by
  unfold Z
  rw [List.zipWith_append h]
  rfl
theorem Rel.pub_ {its : List S96} {ps E V : List Int} (h : Rel its ps E V) (e v : Int) : ∃ its2, pubE its ps e v = ((pubR E V e v).2.2, its2) ∧ Rel its2 ps (pubR E V e v).1 (pubR E V e v).2.1 := by
  unfold pubE pubR
  rw [h.lastE_]
  by_cases c : e ≤ lst E
  · simp only [if_pos c]
    exact ⟨_, rfl, h⟩
  · simp only [if_neg c]
    have hinc : IncL (Z E V ++ [⟨e, v⟩]) := by
      refine List.pairwise_append.2 ⟨h.inc, by simp, fun x hx y hy => ?_⟩
      obtain rfl := List.mem_singleton.1 hy
      have := h.max x hx
      show x.f0 < e
      omega
    refine ⟨_, rfl, ?_, by simp [h.len], by simp, by rw [Z_snoc h.len]; exact hinc, h.pins, ?_⟩
    · rw [Z_snoc h.len, h.items]
      exact retire_app ps ps hinc h.zpos (fun p hp => hp)
    · obtain ⟨z, hz, e0⟩ := h.zero
      exact ⟨z, by rw [Z_snoc h.len]; exact List.mem_append.2 (.inl hz), e0⟩


theorem R_tight {w : World} {base : Nat} {ok : Nat → Prop} {v : Value} {xs : List Int} (h : (Kd.int .i64).R 3 w base ok v xs) : (Kd.int .i64).R 3 w base (fun k => some k = v.ownBlock) v xs := ⟨fun k hk => hk.symm, h.2⟩
/-- A chain of the call's own, the document's chain in a box gm, its three rows; all apart. -/
structure Pl (w wr : World) (S : Nat → Prop) (g gm : Nat) (its : List S96) (ps E V P : List Int) (v0 v1 v2 : Value) : Prop where
  chn : Chn w wr S g its ps
  box : wr.heap[gm]? = some (.cells #[v0, v1, v2] 60 (0, 0))
  ge : w.heap.size ≤ gm
  r0 : (Kd.int .i64).R 3 wr w.heap.size (fun k => some k = v0.ownBlock) v0 E
  r1 : (Kd.int .i64).R 3 wr w.heap.size (fun k => some k = v1.ownBlock) v1 V
  r2 : (Kd.int .i64).R 3 wr w.heap.size (fun k => some k = v2.ownBlock) v2 P
  n01 : ∀ k, some k = v0.ownBlock → some k ≠ v1.ownBlock
  n02 : ∀ k, some k = v0.ownBlock → some k ≠ v2.ownBlock
  n12 : ∀ k, some k = v1.ownBlock → some k ≠ v2.ownBlock
  s0 : ∀ k, S k → some k ≠ v0.ownBlock
  s1 : ∀ k, S k → some k ≠ v1.ownBlock
  s2 : ∀ k, S k → some k ≠ v2.ownBlock
  sm : ¬ S gm
  bl : Below w.heap.size w wr
theorem Pl.below {w wr w1 : World} {S : Nat → Prop} {g gm : Nat} {its : List S96} {ps E V P : List Int} {v0 v1 v2 : Value} (h : Pl w wr S g gm its ps E V P v0 v1 v2) (hb : Below wr.heap.size wr w1) : Pl w w1 S g gm its ps E V P v0 v1 v2 :=
  ⟨h.chn.below hb, blk_below h.box hb, h.ge, Kd.R_below h.r0 hb, Kd.R_below h.r1 hb, Kd.R_below h.r2 hb, h.n01, h.n02, h.n12, h.s0, h.s1, h.s2, h.sm, below_step h.bl hb⟩
theorem Pl.done {w wr w1 : World} {S : Nat → Prop} {g gm : Nat} {its its2 : List S96} {ps ps2 E V P : List Int} {v0 v1 v2 : Value} (h : Pl w wr S g gm its ps E V P v0 v1 v2) (d : Done w wr w1 S g its2 ps2) : Pl w w1 (fun k => S k ∨ wr.heap.size ≤ k) g gm its2 ps2 E V P v0 v1 v2 := by
  have st : ∀ {v : Value} {xs : List Int}, (Kd.int .i64).R 3 wr w.heap.size (fun k => some k = v.ownBlock) v xs → (∀ k, S k → some k ≠ v.ownBlock) → (Kd.int .i64).R 3 w1 w.heap.size (fun k => some k = v.ownBlock) v xs := fun hr hs => Kd.R_step hr (fun k hk hlt => d.2.2.2 k hlt (fun hS => hs k hS hk))
  have ne : ∀ {v : Value} {xs : List Int}, (Kd.int .i64).R 3 wr w.heap.size (fun k => some k = v.ownBlock) v xs → (∀ k, S k → some k ≠ v.ownBlock) → ∀ k, (S k ∨ wr.heap.size ≤ k) → some k ≠ v.ownBlock := fun hr hs k hk => hk.elim (hs k) (fun hk he => by have := Kd.R_lt hr k he.symm; omega)
  exact ⟨d.chn, blk_kept h.box d.2.2 h.sm, h.ge, st h.r0 h.s0, st h.r1 h.s1, st h.r2 h.s2, h.n01, h.n02, h.n12, ne h.r0 h.s0, ne h.r1 h.s1, ne h.r2 h.s2, fun hk => hk.elim h.sm (fun hk => by have := blk_lt h.box; omega), d.bl⟩
/-- What a call of the document's leaves, and its result stored into the box (w2). -/
theorem Pl.ref {w wr w1 w2 : World} {S : Nat → Prop} {g gm : Nat} {its : List S96} {ps E V P E2 V2 P2 : List Int} {v0 v1 v2 u0 u1 u2 : Value} (h : Pl w wr S g gm its ps E V P v0 v1 v2)
    (h0 : (Kd.int .i64).R 3 w1 w.heap.size (fun k_ => ((some k_ = v0.ownBlock ∨ some k_ = v1.ownBlock ∨ some k_ = v2.ownBlock) ∨ wr.heap.size ≤ k_) ∧ some k_ ≠ u1.ownBlock ∧ some k_ ≠ u2.ownBlock) u0 E2)
    (h1 : (Kd.int .i64).R 3 w1 w.heap.size (fun k_ => ((some k_ = v0.ownBlock ∨ some k_ = v1.ownBlock ∨ some k_ = v2.ownBlock) ∨ wr.heap.size ≤ k_) ∧ some k_ ≠ u0.ownBlock ∧ some k_ ≠ u2.ownBlock) u1 V2)
    (h2 : (Kd.int .i64).R 3 w1 w.heap.size (fun k_ => ((some k_ = v0.ownBlock ∨ some k_ = v1.ownBlock ∨ some k_ = v2.ownBlock) ∨ wr.heap.size ≤ k_) ∧ some k_ ≠ u0.ownBlock ∧ some k_ ≠ u1.ownBlock) u2 P2)
    (hk : Kept wr w1 (fun k_ => some k_ = v0.ownBlock ∨ some k_ = v1.ownBlock ∨ some k_ = v2.ownBlock))
    (hk2 : Kept w1 w2 (fun k => k = gm)) (hb2 : Below w.heap.size w w2) (b3 : w2.heap[gm]? = some (.cells #[u0, u1, u2] 60 (0, 0)))
    (g0 : (Kd.int .i64).R 3 w2 w.heap.size (fun k => some k = u0.ownBlock) u0 E2) (g1 : (Kd.int .i64).R 3 w2 w.heap.size (fun k => some k = u1.ownBlock) u1 V2) (g2 : (Kd.int .i64).R 3 w2 w.heap.size (fun k => some k = u2.ownBlock) u2 P2) :
    Pl w w2 (fun k => S k ∧ k < wr.heap.size) g gm its ps E2 V2 P2 u0 u1 u2 := by
  have hsn : ∀ k, S k → ¬ (some k = v0.ownBlock ∨ some k = v1.ownBlock ∨ some k = v2.ownBlock) := fun k hk hc => hc.elim (h.s0 k hk) (fun hc => hc.elim (h.s1 k hk) (h.s2 k hk))
  have hs0 : ∀ k, (S k ∧ k < wr.heap.size) → some k ≠ u0.ownBlock := fun k hk he => (h0.1 k he.symm).1.elim (hsn k hk.1) (fun hc => by have := hk.2; omega)
  have hs1 : ∀ k, (S k ∧ k < wr.heap.size) → some k ≠ u1.ownBlock := fun k hk he => (h1.1 k he.symm).1.elim (hsn k hk.1) (fun hc => by have := hk.2; omega)
  have hs2 : ∀ k, (S k ∧ k < wr.heap.size) → some k ≠ u2.ownBlock := fun k hk he => (h2.1 k he.symm).1.elim (hsn k hk.1) (fun hc => by have := hk.2; omega)
  have c1 : Chn w wr (fun k => S k ∧ k < wr.heap.size) g its ps := Chn.mono h.chn.bound (fun k hk => ⟨hk.1, hk.2.2⟩)
  have c2 : Chn w w1 (fun k => S k ∧ k < wr.heap.size) g its ps := Chn.kept c1 hk (fun k hk => hsn k hk.1)
  have c3 : Chn w w2 (fun k => S k ∧ k < wr.heap.size) g its ps := Chn.kept c2 hk2 (fun k hk e => h.sm (by rw [← e]; exact hk.1))
  exact ⟨c3, b3, h.ge, g0, g1, g2, fun k hk => (h0.1 k hk.symm).2.1, fun k hk => (h0.1 k hk.symm).2.2, fun k hk => (h1.1 k hk.symm).2.2, hs0, hs1, hs2, fun hk => h.sm hk.1, hb2⟩
theorem Pl.view {w wr : World} {S : Nat → Prop} {g gm : Nat} {its : List S96} {ps E V P : List Int} {v0 v1 v2 : Value} (h : Pl w wr S g gm its ps E V P v0 v1 v2) : View wr g its ps := h.chn.view


theorem Pl.boxk {w wr w1 : World} {S : Nat → Prop} {g gm : Nat} {its : List S96} {ps E V P : List Int} {v0 v1 v2 : Value} (h : Pl w wr S g gm its ps E V P v0 v1 v2) (hk : Kept wr w1 (fun k_ => some k_ = v0.ownBlock ∨ some k_ = v1.ownBlock ∨ some k_ = v2.ownBlock)) : w1.heap[gm]? = some (.cells #[v0, v1, v2] 60 (0, 0)) :=
  blk_kept h.box hk (fun hc => hc.elim (Kd.R_ne h.r0 h.box (by decide)) (fun hc => hc.elim (Kd.R_ne h.r1 h.box (by decide)) (Kd.R_ne h.r2 h.box (by decide))))
/-- A box of three rows is written anew: cell by cell. -/
theorem box3 {w1 : World} {gm : Nat} {x0 x1 x2 : Value} (hb : w1.heap[gm]? = some (.cells #[x0, x1, x2] 60 (0, 0))) (u0 u1 u2 : Value) :
    ∃ w2, w2 = ((w1.setCell ⟨gm, 0, none⟩ u0).setCell ⟨gm, 1, none⟩ u1).setCell ⟨gm, 2, none⟩ u2 ∧ w2.heap[gm]? = some (.cells #[u0, u1, u2] 60 (0, 0)) ∧ Kept w1 w2 (fun k => k = gm) ∧ (∀ (v : Value) (xs : List Int) (b : Nat) (ok : Nat → Prop), (Kd.int .i64).R 3 w1 b ok v xs → (Kd.int .i64).R 3 w2 b (fun k => some k = v.ownBlock) v xs) ∧ ∀ w : World, Below w.heap.size w w1 → w.heap.size ≤ gm → Below w.heap.size w w2 := by
  have b1 := blk_put hb 0 u0 (cs' := #[u0, x1, x2]) rfl
  have b2 := blk_put b1 1 u1 (cs' := #[u0, u1, x2]) rfl
  have b3 := blk_put b2 2 u2 (cs' := #[u0, u1, u2]) rfl
  refine ⟨_, rfl, b3, ?_, ?_, ?_⟩
  · exact Kept.setCell (p := ⟨gm, 2, none⟩) (Kept.setCell (p := ⟨gm, 1, none⟩) (Kept.setCell (p := ⟨gm, 0, none⟩) (Kept.refl w1 (fun k => k = gm)) (.inl rfl) u0) (.inl rfl) u1) (.inl rfl) u2
  · intro v xs b ok hr
    have r1 := Kd.R_set hr hb (by decide) 0 u0
    have r2 := Kd.R_set r1 b1 (by decide) 1 u1
    have r3 := Kd.R_set r2 b2 (by decide) 2 u2
    exact R_tight r3
  · intro w hw hg
    exact below_set (below_set (below_set hw hg) hg) hg


structure S63 where
  f0 : Int
  f1 : Int
  f2 : Int
def z63 : S63 := ⟨(0 : Int), (0 : Int), (0 : Int)⟩
def k63 : Kd S63 := Kd.iso (Kd.pair (Kd.int .i64) (Kd.pair (Kd.int .i64) (Kd.int .i64))) (fun x : S63 => (x.f0, x.f1, x.f2))
theorem k63_open {w : World} {x : S63} {cs : List Value} (h : k63.K w x cs) : cs = [.int .i64 x.f0, .int .i64 x.f1, .int .i64 x.f2] := by
  obtain ⟨_, _, rfl, rfl, _, _, rfl, rfl, rfl⟩ := h
  exact rfl
theorem k63_mk (w : World) (x : S63)  : k63.K w x [.int .i64 x.f0, .int .i64 x.f1, .int .i64 x.f2] := ⟨[.int .i64 x.f0], [.int .i64 x.f1, .int .i64 x.f2], rfl, rfl, [.int .i64 x.f1], [.int .i64 x.f2], rfl, rfl, rfl⟩
def rd_T63 (xs : List S63) (i : Int) : S63 := xs.getD i.toNat z63
theorem at_T63 {w : World} {A : Option Addr} {n : Nat} {xs : List S63} (h : Kd.C k63 w A n xs) (i : Int) (h0 : 0 ≤ i) (h1 : i < n) : ∃ ad , A = some ad ∧ w.cell? (ad.add (i.toNat * 3)) = some (.int .i64 (rd_T63 xs i).f0) ∧ w.cell? ⟨(ad.add (i.toNat * 3)).block, (ad.add (i.toNat * 3)).off + 1, none⟩ = some (.int .i64 (rd_T63 xs i).f1) ∧ w.cell? ⟨(ad.add (i.toNat * 3)).block, (ad.add (i.toNat * 3)).off + 2, none⟩ = some (.int .i64 (rd_T63 xs i).f2) := by
  obtain ⟨ad, c, e, _, hK, hc0⟩ := Kd.C_get h z63 i h0 h1
  have hc : ∀ j u, c[j]? = some u → w.cell? (ad.add (i.toNat * 3 + j)) = some u := hc0
  obtain rfl := k63_open hK
  exact ⟨ad, e, hc 0 _ rfl, by rw [← add_field _ _ 1 (by omega)]; exact hc 1 _ rfl, by rw [← add_field _ _ 2 (by omega)]; exact hc 2 _ rfl⟩


theorem new_ev (v : Int) : crossbuckref18_New.f v = some ([0], [v], []) := rfl
theorem Pl.start {w w1 w2 w3 w4 : World} {g gm : Nat} {a1 : Int} {v0 v1 v2 : Value} (hc : Chn w w1 (fun k => w.heap.size ≤ k) g [⟨0, a1⟩] []) (hB : Below w.heap.size w w1)
    (h0 : (Kd.int .i64).R 3 w2 w1.heap.size (fun k_ => some k_ ≠ v1.ownBlock ∧ some k_ ≠ v2.ownBlock) v0 [0]) (h1 : (Kd.int .i64).R 3 w2 w1.heap.size (fun k_ => some k_ ≠ v0.ownBlock ∧ some k_ ≠ v2.ownBlock) v1 [a1]) (h2 : (Kd.int .i64).R 3 w2 w1.heap.size (fun k_ => some k_ ≠ v0.ownBlock ∧ some k_ ≠ v1.ownBlock) v2 [])
    (hb : Below w1.heap.size w1 w2) (hb3 : Below w2.heap.size w2 w3) (hg : gm = w2.heap.size) (hk : Kept w3 w4 (fun k => k = gm)) (b3 : w4.heap[gm]? = some (.cells #[v0, v1, v2] 60 (0, 0)))
    (ht : ∀ (v : Value) (xs : List Int) (b : Nat) (ok : Nat → Prop), (Kd.int .i64).R 3 w3 b ok v xs → (Kd.int .i64).R 3 w4 b (fun k => some k = v.ownBlock) v xs) (hbl : Below w.heap.size w w4) :
    Pl w w4 (fun k => w.heap.size ≤ k ∧ k < w1.heap.size) g gm [⟨0, a1⟩] [] [0] [a1] [] v0 v1 v2 := by
  have g1 := hB.size
  have g2 := hb.size
  have c1 : Chn w w1 (fun k => w.heap.size ≤ k ∧ k < w1.heap.size) g [⟨0, a1⟩] [] := Chn.mono hc.bound (fun k hk => ⟨hk.1, hk.2.2⟩)
  have c3 := (c1.below hb).below hb3
  have c4 : Chn w w4 (fun k => w.heap.size ≤ k ∧ k < w1.heap.size) g [⟨0, a1⟩] [] := Chn.kept c3 hk (fun k hk e => by have := hk.2; omega)
  have ne : ∀ {v : Value} {xs : List Int} {ok : Nat → Prop}, (Kd.int .i64).R 3 w2 w1.heap.size ok v xs → ∀ k, (w.heap.size ≤ k ∧ k < w1.heap.size) → some k ≠ v.ownBlock := fun hr k hk he => by have := Kd.R_base hr k he.symm; have := hk.2; omega
  exact ⟨c4, b3, by omega, ht _ _ _ _ (Kd.R_below (Kd.R_lower h0 g1) hb3), ht _ _ _ _ (Kd.R_below (Kd.R_lower h1 g1) hb3), ht _ _ _ _ (Kd.R_below (Kd.R_lower h2 g1) hb3), fun k hk => (h0.1 k hk.symm).1, fun k hk => (h0.1 k hk.symm).2, fun k hk => (h1.1 k hk.symm).2, ne h0, ne h1, ne h2, fun hk => by have := hk.2; omega, hbl⟩
theorem Pl.bound {w wr : World} {S : Nat → Prop} {g gm : Nat} {its : List S96} {ps E V P : List Int} {v0 v1 v2 : Value} (h : Pl w wr S g gm its ps E V P v0 v1 v2) : Pl w wr (fun k => S k ∧ k < wr.heap.size) g gm its ps E V P v0 v1 v2 :=
  ⟨Chn.mono h.chn.bound (fun k hk => ⟨hk.1, hk.2.2⟩), h.box, h.ge, h.r0, h.r1, h.r2, h.n01, h.n02, h.n12, fun k hk => h.s0 k hk.1, fun k hk => h.s1 k hk.1, fun k hk => h.s2 k hk.1, fun hk => h.sm hk.1, h.bl⟩
theorem Pl.slices {w wr : World} {S : Nat → Prop} {g gm : Nat} {its : List S96} {ps E V P : List Int} {v0 v1 v2 : Value} (h : Pl w wr S g gm its ps E V P v0 v1 v2) : (∃ A c, v0 = .slice A E.length c ∧ E.length ≤ c ∧ Kd.C (Kd.int .i64) wr A E.length E) ∧ (∃ A c, v1 = .slice A V.length c ∧ V.length ≤ c ∧ Kd.C (Kd.int .i64) wr A V.length V) ∧ ∃ A c, v2 = .slice A P.length c ∧ P.length ≤ c ∧ Kd.C (Kd.int .i64) wr A P.length P := ⟨Kd.R_reads h.r0, Kd.R_reads h.r1, Kd.R_reads h.r2⟩
theorem Pl.c0 {w wr : World} {S : Nat → Prop} {g gm : Nat} {its : List S96} {ps E V P : List Int} {v0 v1 v2 : Value} (h : Pl w wr S g gm its ps E V P v0 v1 v2) : wr.cell? ⟨gm, 0, none⟩ = some v0 := (blk_cell h.box 0).trans rfl
theorem Pl.c1 {w wr : World} {S : Nat → Prop} {g gm : Nat} {its : List S96} {ps E V P : List Int} {v0 v1 v2 : Value} (h : Pl w wr S g gm its ps E V P v0 v1 v2) : wr.cell? ⟨gm, 1, none⟩ = some v1 := (blk_cell h.box 1).trans rfl
theorem Pl.c2 {w wr : World} {S : Nat → Prop} {g gm : Nat} {its : List S96} {ps E V P : List Int} {v0 v1 v2 : Value} (h : Pl w wr S g gm its ps E V P v0 v1 v2) : wr.cell? ⟨gm, 2, none⟩ = some v2 := (blk_cell h.box 2).trans rfl
theorem Pl.drew {w wr : World} {S : Nat → Prop} {g gm : Nat} {its : List S96} {ps E V P : List Int} {v0 v1 v2 : Value} (h : Pl w wr S g gm its ps E V P v0 v1 v2) : Pl w wr.drew S g gm its ps E V P v0 v1 v2 := h.below (below_drew1 (Below.refl _ _))
theorem Pl.vcell {w wr : World} {S : Nat → Prop} {g gm : Nat} {its : List S96} {ps E V P : List Int} {v0 v2 : Value} {ad : Addr} {n c : Nat} (h : Pl w wr S g gm its ps E V P v0 (.slice (some ad) n c) v2) (i : Int) (h0 : 0 ≤ i) (h1 : i < (V.length : Int)) : wr.cell? (ad.add i.toNat) = some (.int .i64 (rd V i)) := by
  obtain ⟨A, c', e, _, hr⟩ := h.slices.2.1
  injection e with e1 _ _
  subst e1
  obtain ⟨ad', e2, hx⟩ := Kd.at_int hr i h0 h1
  cases e2
  exact hx
theorem Pl.vsome {w wr : World} {S : Nat → Prop} {g gm : Nat} {its : List S96} {ps E V P : List Int} {v0 v1 v2 : Value} (h : Pl w wr S g gm its ps E V P v0 v1 v2) (hp : 0 < V.length) : ∃ ad c, v1 = .slice (some ad) V.length c := by
  obtain ⟨A, c', e, _, hr⟩ := h.slices.2.1
  obtain ⟨ad', e2, hx⟩ := Kd.at_int hr 0 (by omega) (by omega)
  subst e2
  exact ⟨ad', c', e⟩
/-- A letter's box, of three whole numbers, beside the chains. -/
structure Ob (wr : World) (S : Nat → Prop) (g1 : Nat) (a b c : Int) : Prop where
  box : wr.heap[g1]? = some (.cells #[.int .i64 a, .int .i64 b, .int .i64 c] 63 (0, 0))
  ns : ¬ S g1
theorem Ob.c0 {wr : World} {S : Nat → Prop} {g1 : Nat} {a b c : Int} (h : Ob wr S g1 a b c) : wr.cell? ⟨g1, 0, none⟩ = some (.int .i64 a) := (blk_cell h.box 0).trans rfl
theorem Ob.c1 {wr : World} {S : Nat → Prop} {g1 : Nat} {a b c : Int} (h : Ob wr S g1 a b c) : wr.cell? ⟨g1, 1, none⟩ = some (.int .i64 b) := (blk_cell h.box 1).trans rfl
theorem Ob.c2 {wr : World} {S : Nat → Prop} {g1 : Nat} {a b c : Int} (h : Ob wr S g1 a b c) : wr.cell? ⟨g1, 2, none⟩ = some (.int .i64 c) := (blk_cell h.box 2).trans rfl
theorem Ob.kept {wr w1 : World} {S : Nat → Prop} {g1 : Nat} {a b c : Int} (h : Ob wr S g1 a b c) (hk : Kept wr w1 S) : Ob w1 (fun k => S k ∨ wr.heap.size ≤ k) g1 a b c :=
  ⟨blk_kept h.box hk h.ns, fun hc => hc.elim h.ns (fun hc => by have := blk_lt h.box; omega)⟩
/-- What a call of the document's leaves. -/
structure Ro (w wr w1 : World) (v0 v1 v2 u0 u1 u2 : Value) (E2 V2 P2 : List Int) : Prop where
  h0 : (Kd.int .i64).R 3 w1 w.heap.size (fun k_ => ((some k_ = v0.ownBlock ∨ some k_ = v1.ownBlock ∨ some k_ = v2.ownBlock) ∨ wr.heap.size ≤ k_) ∧ some k_ ≠ u1.ownBlock ∧ some k_ ≠ u2.ownBlock) u0 E2
  h1 : (Kd.int .i64).R 3 w1 w.heap.size (fun k_ => ((some k_ = v0.ownBlock ∨ some k_ = v1.ownBlock ∨ some k_ = v2.ownBlock) ∨ wr.heap.size ≤ k_) ∧ some k_ ≠ u0.ownBlock ∧ some k_ ≠ u2.ownBlock) u1 V2
  h2 : (Kd.int .i64).R 3 w1 w.heap.size (fun k_ => ((some k_ = v0.ownBlock ∨ some k_ = v1.ownBlock ∨ some k_ = v2.ownBlock) ∨ wr.heap.size ≤ k_) ∧ some k_ ≠ u0.ownBlock ∧ some k_ ≠ u1.ownBlock) u2 P2
  hb : Below w.heap.size w w1
  hk : Kept wr w1 (fun k_ => some k_ = v0.ownBlock ∨ some k_ = v1.ownBlock ∨ some k_ = v2.ownBlock)
theorem Ro.box {w wr w1 : World} {S : Nat → Prop} {g gm : Nat} {its : List S96} {ps E V P E2 V2 P2 : List Int} {v0 v1 v2 u0 u1 u2 : Value} (r : Ro w wr w1 v0 v1 v2 u0 u1 u2 E2 V2 P2) (h : Pl w wr S g gm its ps E V P v0 v1 v2) : w1.heap[gm]? = some (.cells #[v0, v1, v2] 60 (0, 0)) := h.boxk r.hk
theorem Ro.stored {w wr w1 : World} {S : Nat → Prop} {g gm : Nat} {its : List S96} {ps E V P E2 V2 P2 : List Int} {v0 v1 v2 u0 u1 u2 : Value} (r : Ro w wr w1 v0 v1 v2 u0 u1 u2 E2 V2 P2) (h : Pl w wr S g gm its ps E V P v0 v1 v2) :
    Pl w (((w1.setCell ⟨gm, 0, none⟩ u0).setCell ⟨gm, 1, none⟩ u1).setCell ⟨gm, 2, none⟩ u2) (fun k => S k ∧ k < wr.heap.size) g gm its ps E2 V2 P2 u0 u1 u2 := by
  obtain ⟨w2, e4, b4, k4, t4, l4⟩ := box3 (r.box h) u0 u1 u2
  rw [← e4]
  exact h.ref r.h0 r.h1 r.h2 r.hk k4 (l4 w r.hb h.ge) b4 (t4 _ _ _ _ r.h0) (t4 _ _ _ _ r.h1) (t4 _ _ _ _ r.h2)
theorem pl_pub {w wr : World} {S : Nat → Prop} {g gm : Nat} {its its2 : List S96} {ps E V P : List Int} {v0 v1 v2 : Value} {a1 a2 r : Int} (h : Pl w wr S g gm its ps E V P v0 v1 v2) (h0 : 0 < its.length) (h1 : its.length < 1000000) (h2 : ps.length ≤ 1000000) (he : pubE its ps a1 a2 = (r, its2)) :
    Calls Try.prog 27 #[.pointer (some ⟨g, 0, none⟩), .int .i64 a1, .int .i64 a2] wr fun e w' => e = .returned (.int .i64 r) ∧ Pl w w' (fun k => S k ∨ wr.heap.size ≤ k) g gm its2 ps E V P v0 v1 v2 ∧ Kept wr w' S := by
  refine (publish_.calls g S its its2 ps a1 a2 r w wr h.chn h.bl h0 h1 h2 he).mono ?_
  rintro e w' ⟨rfl, d⟩
  exact ⟨rfl, h.done d, d.2.2⟩
theorem pl_pin {w wr : World} {S : Nat → Prop} {g gm : Nat} {its : List S96} {ps ps2 E V P : List Int} {v0 v1 v2 : Value} {a1 r : Int} (h : Pl w wr S g gm its ps E V P v0 v1 v2) (h0 : 0 < its.length) (h1 : its.length ≤ 1000000) (h2 : ps.length < 1000000) (he : pinE its ps a1 = (r, ps2)) :
    Calls Try.prog 29 #[.pointer (some ⟨g, 0, none⟩), .int .i64 a1] wr fun e w' => e = .returned (.int .i64 r) ∧ Pl w w' (fun k => S k ∨ wr.heap.size ≤ k) g gm its ps2 E V P v0 v1 v2 ∧ Kept wr w' S := by
  refine (pin_.calls g S its ps a1 r ps2 w wr h.chn h.bl h0 h1 h2 he).mono ?_
  rintro e w' ⟨rfl, d⟩
  exact ⟨rfl, h.done d, d.2.2⟩
theorem pl_unp {w wr : World} {S : Nat → Prop} {g gm : Nat} {its its2 : List S96} {ps ps2 E V P : List Int} {v0 v1 v2 : Value} {a1 r : Int} (h : Pl w wr S g gm its ps E V P v0 v1 v2) (h0 : 0 < its.length) (h1 : its.length ≤ 1000000) (h2 : ps.length ≤ 1000000) (he : unpE its ps a1 = (r, its2, ps2)) :
    Calls Try.prog 31 #[.pointer (some ⟨g, 0, none⟩), .int .i64 a1] wr fun e w' => e = .returned (.int .i64 r) ∧ Pl w w' (fun k => S k ∨ wr.heap.size ≤ k) g gm its2 ps2 E V P v0 v1 v2 ∧ Kept wr w' S := by
  refine (unpin_.calls g S its its2 ps ps2 a1 r w wr h.chn h.bl h0 h1 h2 he).mono ?_
  rintro e w' ⟨rfl, d⟩
  exact ⟨rfl, h.done d, d.2.2⟩
theorem pl_rpub {w wr : World} {S : Nat → Prop} {g gm : Nat} {its : List S96} {ps E V P E2 V2 P2 : List Int} {v0 v1 v2 : Value} {a1 a2 r : Int} (h : Pl w wr S g gm its ps E V P v0 v1 v2) (he : crossbuckref18_Publish.f E V P a1 a2 = some (E2, V2, P2, r)) :
    Calls Try.prog 28 #[.agg #[v0, v1, v2], .int .i64 a1, .int .i64 a2] wr fun e w' => ∃ u0 u1 u2 : Value, e = .returned (.tuple #[.agg #[u0, u1, u2], .int .i64 r]) ∧ Ro w wr w' v0 v1 v2 u0 u1 u2 E2 V2 P2 := by
  refine (crossbuckref18_Publish.calls (fun k => some k = v0.ownBlock) v0 E (fun k => some k = v1.ownBlock) v1 V (fun k => some k = v2.ownBlock) v2 P a1 a2 E2 V2 P2 r w wr h.bl h.r0 (fun k hk => h.n01 k hk) (fun k hk => h.n02 k hk) h.r1 (fun k hk e => h.n01 k e hk) (fun k hk => h.n12 k hk) h.r2 (fun k hk e => h.n02 k e hk) (fun k hk e => h.n12 k e hk) he).mono ?_
  rintro e w' ⟨u0, u1, u2, rfl, q0, q1, q2, qb, qk⟩
  exact ⟨u0, u1, u2, rfl, q0, q1, q2, qb, qk⟩
theorem pl_rpin {w wr : World} {S : Nat → Prop} {g gm : Nat} {its : List S96} {ps E V P E2 V2 P2 : List Int} {v0 v1 v2 : Value} {a1 r : Int} (k : Nat) (h : Pl w wr S g gm its ps E V P v0 v1 v2) (he : crossbuckref18_Pin.f k E V P a1 = some (E2, V2, P2, r)) :
    Calls Try.prog 30 #[.agg #[v0, v1, v2], .int .i64 a1] wr fun e w' => ∃ u0 u1 u2 : Value, e = .returned (.tuple #[.agg #[u0, u1, u2], .int .i64 r]) ∧ Ro w wr w' v0 v1 v2 u0 u1 u2 E2 V2 P2 := by
  refine (crossbuckref18_Pin.calls k (fun k => some k = v0.ownBlock) v0 E (fun k => some k = v1.ownBlock) v1 V (fun k => some k = v2.ownBlock) v2 P a1 E2 V2 P2 r w wr h.bl h.r0 (fun k hk => h.n01 k hk) (fun k hk => h.n02 k hk) h.r1 (fun k hk e => h.n01 k e hk) (fun k hk => h.n12 k hk) h.r2 (fun k hk e => h.n02 k e hk) (fun k hk e => h.n12 k e hk) he).mono ?_
  rintro e w' ⟨u0, u1, u2, rfl, q0, q1, q2, qb, qk⟩
  exact ⟨u0, u1, u2, rfl, q0, q1, q2, qb, qk⟩
theorem pl_runp {w wr : World} {S : Nat → Prop} {g gm : Nat} {its : List S96} {ps E V P E2 V2 P2 : List Int} {v0 v1 v2 : Value} {a1 r : Int} (k : Nat) (h : Pl w wr S g gm its ps E V P v0 v1 v2) (he : crossbuckref18_Unpin.f k E V P a1 = some (E2, V2, P2, r)) :
    Calls Try.prog 32 #[.agg #[v0, v1, v2], .int .i64 a1] wr fun e w' => ∃ u0 u1 u2 : Value, e = .returned (.tuple #[.agg #[u0, u1, u2], .int .i64 r]) ∧ Ro w wr w' v0 v1 v2 u0 u1 u2 E2 V2 P2 := by
  refine (crossbuckref18_Unpin.calls k (fun k => some k = v0.ownBlock) v0 E (fun k => some k = v1.ownBlock) v1 V (fun k => some k = v2.ownBlock) v2 P a1 E2 V2 P2 r w wr h.bl h.r0 (fun k hk => h.n01 k hk) (fun k hk => h.n02 k hk) h.r1 (fun k hk e => h.n01 k e hk) (fun k hk => h.n12 k hk) h.r2 (fun k hk e => h.n02 k e hk) (fun k hk e => h.n12 k e hk) he).mono ?_
  rintro e w' ⟨u0, u1, u2, rfl, q0, q1, q2, qb, qk⟩
  exact ⟨u0, u1, u2, rfl, q0, q1, q2, qb, qk⟩
theorem pl_live {w wr : World} {S : Nat → Prop} {g gm : Nat} {its : List S96} {ps E V P : List Int} {v0 v1 v2 : Value} (h : Pl w wr S g gm its ps E V P v0 v1 v2) : Calls Try.prog 33 #[.pointer (some ⟨g, 0, none⟩)] wr fun e w' => e = .returned (.int .i64 (its.length : Int)) ∧ Pl w w' S g gm its ps E V P v0 v1 v2 := by
  refine (live_.calls g its ps wr h.view).mono ?_
  rintro e w' ⟨rfl, hb⟩
  exact ⟨rfl, h.below hb⟩
theorem pl_pins {w wr : World} {S : Nat → Prop} {g gm : Nat} {its : List S96} {ps E V P : List Int} {v0 v1 v2 : Value} (h : Pl w wr S g gm its ps E V P v0 v1 v2) : Calls Try.prog 35 #[.pointer (some ⟨g, 0, none⟩)] wr fun e w' => e = .returned (.int .i64 (ps.length : Int)) ∧ Pl w w' S g gm its ps E V P v0 v1 v2 := by
  refine (pins_.calls g its ps wr h.view).mono ?_
  rintro e w' ⟨rfl, hb⟩
  exact ⟨rfl, h.below hb⟩
theorem pl_now {w wr : World} {S : Nat → Prop} {g gm : Nat} {its : List S96} {ps E V P : List Int} {v0 v1 v2 : Value} (h : Pl w wr S g gm its ps E V P v0 v1 v2) (h0 : 0 < its.length) (h1 : its.length ≤ 1000000) (r : Int) (hr : nowV its = r) : Calls Try.prog 36 #[.pointer (some ⟨g, 0, none⟩)] wr fun e w' => e = .returned (.int .i64 r) ∧ Pl w w' S g gm its ps E V P v0 v1 v2 := by
  refine (now_.calls g its ps wr h.view h0 h1).mono ?_
  rintro e w' ⟨rfl, hb⟩
  exact ⟨by rw [hr], h.below hb⟩
theorem pl_get {w wr : World} {S : Nat → Prop} {g gm : Nat} {its : List S96} {ps E V P : List Int} {v0 v1 v2 : Value} {a1 r1 : Int} {r2 : Bool} (h : Pl w wr S g gm its ps E V P v0 v1 v2) (h0 : 0 < its.length) (h1 : its.length ≤ 1000000) (h2 : ps.length ≤ 1000000) (he : getE its ps a1 = (r1, r2)) : Calls Try.prog 37 #[.pointer (some ⟨g, 0, none⟩), .int .i64 a1] wr fun e w' => e = .returned (.tuple #[.int .i64 r1, .bool r2]) ∧ Pl w w' S g gm its ps E V P v0 v1 v2 := by
  refine (get_.calls g its ps a1 r1 r2 wr h.view h0 h1 h2 he).mono ?_
  rintro e w' ⟨rfl, hb⟩
  exact ⟨rfl, h.below hb⟩
theorem pl_has {w wr : World} {S : Nat → Prop} {g gm : Nat} {its : List S96} {ps E V P : List Int} {v0 v1 v2 : Value} {a1 : Int} {r : Bool} (h : Pl w wr S g gm its ps E V P v0 v1 v2) (h0 : 0 < its.length) (h1 : its.length ≤ 1000000) (h2 : ps.length ≤ 1000000) (he : hasE its ps a1 = r) : Calls Try.prog 38 #[.pointer (some ⟨g, 0, none⟩), .int .i64 a1] wr fun e w' => e = .returned (.bool r) ∧ Pl w w' S g gm its ps E V P v0 v1 v2 := by
  refine (has_.calls g its ps a1 r wr h.view h0 h1 h2 he).mono ?_
  rintro e w' ⟨rfl, hb⟩
  exact ⟨rfl, h.below hb⟩
theorem pl_rlive {w wr : World} {S : Nat → Prop} {g gm : Nat} {its : List S96} {ps E V P : List Int} {v0 v1 v2 : Value} (k : Nat) (r : Int) (h : Pl w wr S g gm its ps E V P v0 v1 v2) (he : crossbuckref18_Live.f k E V P = some r) : Calls Try.prog 34 #[.agg #[v0, v1, v2]] wr fun e w' => e = .returned (.int .i64 r) ∧ Pl w w' S g gm its ps E V P v0 v1 v2 := by
  obtain ⟨⟨X0, x0, rfl, hX0, HX0⟩, ⟨X1, x1, rfl, hX1, HX1⟩, ⟨X2, x2, rfl, hX2, HX2⟩⟩ := h.slices
  refine (crossbuckref18_Live.calls k _ _ E _ _ V _ _ P r _ HX0 hX0 HX1 hX1 HX2 hX2 he).mono ?_
  rintro e w' ⟨rfl, hb⟩
  exact ⟨rfl, h.below hb⟩
theorem pl_rhas {w wr : World} {S : Nat → Prop} {g gm : Nat} {its : List S96} {ps E V P : List Int} {v0 v1 v2 : Value} (k : Nat) (a1 : Int) (r : Bool) (h : Pl w wr S g gm its ps E V P v0 v1 v2) (he : crossbuckref18_Has.f k E V P a1 = some r) : Calls Try.prog 39 #[.agg #[v0, v1, v2], .int .i64 a1] wr fun e w' => e = .returned (.bool r) ∧ Pl w w' S g gm its ps E V P v0 v1 v2 := by
  obtain ⟨⟨X0, x0, rfl, hX0, HX0⟩, ⟨X1, x1, rfl, hX1, HX1⟩, ⟨X2, x2, rfl, hX2, HX2⟩⟩ := h.slices
  refine (crossbuckref18_Has.calls k _ _ E _ _ V _ _ P a1 r _ HX0 hX0 HX1 hX1 HX2 hX2 he).mono ?_
  rintro e w' ⟨rfl, hb⟩
  exact ⟨rfl, h.below hb⟩
theorem pl_rat {w wr : World} {S : Nat → Prop} {g gm : Nat} {its : List S96} {ps E V P : List Int} {v0 v1 v2 : Value} (k : Nat) (a1 r : Int) (h : Pl w wr S g gm its ps E V P v0 v1 v2) (he : crossbuckref18_At.f k E V P a1 = some r) : Calls Try.prog 40 #[.agg #[v0, v1, v2], .int .i64 a1] wr fun e w' => e = .returned (.int .i64 r) ∧ Pl w w' S g gm its ps E V P v0 v1 v2 := by
  obtain ⟨⟨X0, x0, rfl, hX0, HX0⟩, ⟨X1, x1, rfl, hX1, HX1⟩, ⟨X2, x2, rfl, hX2, HX2⟩⟩ := h.slices
  refine (crossbuckref18_At.calls k _ _ E _ _ V _ _ P a1 r _ HX0 hX0 HX1 hX1 HX2 hX2 he).mono ?_
  rintro e w' ⟨rfl, hb⟩
  exact ⟨rfl, h.below hb⟩

end Go.Proofs.Ytdemogdagemagaa.PVc
