/- FilterParts' walk: whatever filter that may be and whatever header, it answers true. No condition of its own. -/
import Derived.Test.YtloclimoffhbhaaDoorPartsF
import Derived.Test.YtloclimoffhbhaaDoorBlk
import Derived.Test.YtloclimoffhbhaaDoorPFqx6
namespace Go.Proofs.YtloclimoffhbhaaDoor.PFq
open Go.RowKit Go.Proofs.YtloclimoffhbhaaDoorW.PrintWords Go.Proofs.YtloclimoffhbhaaDoorW.PrintLast Go.Proofs.YtloclimoffhbhaaDoorW.PrintMore Go.Proofs.YtloclimoffhbhaaDoor.Facts Go.Proofs.YtloclimoffhbhaaDoor.Pure
attribute [local go_sem] max2_int min2_int max_two min_two max_three min_three max_four min_four   -- for this text's walks alone
set_option linter.unusedVariables false
set_option linter.unusedSimpArgs false
theorem sz77 : (Tryd.prog.info? 77).map (·.size) = some 9 := by kernel_rfl
theorem sz67 : (Tryd.prog.info? 67).map (·.size) = some 5 := by kernel_rfl
theorem sz42 : (Tryd.prog.info? 42).map (·.size) = some 2 := by kernel_rfl
theorem sz61 : (Tryd.prog.info? 61).map (·.size) = some 2 := by kernel_rfl
theorem sz3 : (Tryd.prog.info? 3).map (·.size) = some 1 := by kernel_rfl
theorem distinct5 (b : Nat → Nat) (h : ∀ p ∈ ([(5, 6), (6, 7), (7, 8), (8, 9), (9, 10)] : List (Nat × Tmp)), ∀ q ∈ ([(5, 6), (6, 7), (7, 8), (8, 9), (9, 10)] : List (Nat × Tmp)), b p.1 = b q.1 → p.1 = q.1) {t : TypeId} {c : Array Value} :
    ([(b 5, t, c), (b 6, t, c), (b 7, t, c), (b 8, t, c), (b 9, t, c)] : List (Nat × TypeId × Array Value)).Pairwise (fun p q => p.1 ≠ q.1) := by
  have n : ∀ i ti j tj, (i, ti) ∈ ([(5, 6), (6, 7), (7, 8), (8, 9), (9, 10)] : List (Nat × Tmp)) → (j, tj) ∈ ([(5, 6), (6, 7), (7, 8), (8, 9), (9, 10)] : List (Nat × Tmp)) → i ≠ j → b i ≠ b j := fun i ti j tj hi hj hne e => hne (h _ hi _ hj e)
  have n56 := n 5 6 6 7 (by simp) (by simp) (by decide)
  have n57 := n 5 6 7 8 (by simp) (by simp) (by decide)
  have n58 := n 5 6 8 9 (by simp) (by simp) (by decide)
  have n59 := n 5 6 9 10 (by simp) (by simp) (by decide)
  have n67 := n 6 7 7 8 (by simp) (by simp) (by decide)
  have n68 := n 6 7 8 9 (by simp) (by simp) (by decide)
  have n69 := n 6 7 9 10 (by simp) (by simp) (by decide)
  have n78 := n 7 8 8 9 (by simp) (by simp) (by decide)
  have n79 := n 7 8 9 10 (by simp) (by simp) (by decide)
  have n89 := n 8 9 9 10 (by simp) (by simp) (by decide)
  simp [n56, n57, n58, n59, n67, n68, n69, n78, n79, n89]
theorem list5 {b : Nat → Nat} {t : TypeId} {c : Array Value} {Q : Nat × TypeId × Array Value → Prop} (h : ∀ i s, (i, s) ∈ ([(5, 6), (6, 7), (7, 8), (8, 9), (9, 10)] : List (Nat × Tmp)) → Q (b i, t, c)) :
    ∀ p ∈ ([(b 5, t, c), (b 6, t, c), (b 7, t, c), (b 8, t, c), (b 9, t, c)] : List (Nat × TypeId × Array Value)), Q p := by
  intro p hp
  simp only [List.mem_cons, List.not_mem_nil, or_false] at hp
  rcases hp with rfl | rfl | rfl | rfl | rfl
  · exact h 5 6 (by simp)
  · exact h 6 7 (by simp)
  · exact h 7 8 (by simp)
  · exact h 8 9 (by simp)
  · exact h 9 10 (by simp)
def parts.T4 : Bool × List (List Nat × List Nat) := (true, [([], []), ([], []), ([], []), ([], []), ([], []), ([], []), ([], []), ([], []), ([], []), ([], []), ([5, 0, 0, 5, 6, 7, 8, 9], [0, 5]), ([6, 1, 10, 0, 1, 5, 6, 7, 8, 9, 10], [1, 6]), ([7, 2, 11, 0, 1, 2, 5, 6, 7, 8, 9, 10, 11], [2, 7]), ([8, 3, 12, 0, 1, 2, 3, 5, 6, 7, 8, 9, 10, 11, 12], [3, 8]), ([9, 4, 13, 0, 1, 2, 3, 4, 5, 6, 7, 8, 9, 10, 11, 12, 13], [4, 9])])
def parts.B4 : List Nat := [0, 0, 0, 0, 0, 0, 0, 0, 0, 0, 993, 2019, 4071, 8175, 16383]
theorem parts.tab4 : rtab .any (opsOf Tryd.f10 4) = parts.T4 := by kernel_rfl
theorem parts.bits4 : waitsOk parts.T4.2 parts.B4 = true := by kernel_rfl
def parts.T5 : Bool × List (List Nat × List Nat) := (true, [([], []), ([0], [0]), ([], []), ([2], [2]), ([], []), ([4], [4]), ([], []), ([6], [6]), ([], []), ([8], [8]), ([0, 1], []), ([10, 1, 0, 1], [1, 10]), ([0, 1, 2, 3, 10, 11], []), ([12, 3, 11, 0, 1, 2, 3, 10, 11], [3, 12]), ([0, 1, 2, 3, 4, 5, 10, 11, 12, 13], []), ([14, 5, 13, 0, 1, 2, 3, 4, 5, 10, 11, 12, 13], [5, 14]), ([0, 1, 2, 3, 4, 5, 6, 7, 10, 11, 12, 13, 14, 15], []), ([16, 7, 15, 0, 1, 2, 3, 4, 5, 6, 7, 10, 11, 12, 13, 14, 15], [7, 16]), ([0, 1, 2, 3, 4, 5, 6, 7, 8, 9, 10, 11, 12, 13, 14, 15, 16, 17], []), ([18, 9, 17, 0, 1, 2, 3, 4, 5, 6, 7, 8, 9, 10, 11, 12, 13, 14, 15, 16, 17], [9, 18])])
def parts.B5 : List Nat := [0, 1, 0, 4, 0, 16, 0, 64, 0, 256, 3, 1027, 3087, 7183, 15423, 31807, 64767, 130303, 262143, 524287]
theorem parts.tab5 : rtab .any (opsOf Tryd.f10 5) = parts.T5 := by kernel_rfl
theorem parts.bits5 : waitsOk parts.T5.2 parts.B5 = true := by kernel_rfl
set_option maxHeartbeats 16000000 in
set_option maxRecDepth 100000 in
theorem parts_ (f : Flt) (h : Hdr) (o : Ok f) (hh : h.bd) (w : World) (hG : Hand.Good true false w) :
    Calls Tryd.prog 10 #[.agg #[.int .u32 f.da, .int .i64 f.db, .int .u32 f.sa, .int .i64 f.sb, .int .i64 f.pr, .int .u16 f.sl, .int .u16 f.sh, .int .u16 f.dl, .int .u16 f.dh], .agg #[.int .u32 h.dst, .int .u32 h.src, .int .u8 h.pr, .int .u16 h.sp, .int .u16 h.dp]] w fun e w' => e = .returned (.bool true) ∧ Below w.heap.size w w' := by
  have B0 := Aside0.mk (Below.refl w.heap.size w)
  have hGG := Aside0.mk hG
  have e0 := check_eq (f := f) (k := 200) (by omega) o.bd
  rw [checkV_zero.2 ⟨o.r1, o.r2, o.p0, o.p1, o.l1, o.l2⟩] at e0
  have E0 := Aside0.mk e0
  have O := Aside0.mk o
  have HB := Aside0.mk hh
  clear hG e0 o hh
  go_enter Tryd.func10, Tryd.ntmps10
  go_wp2_with (first
    | ((with_reducible refine gate_dst (N := 2) rfl ?_); refine box_event ?hg (N := 2) ?hd (cs := #[.int .u32 f.da, .int .i64 f.db, .int .u32 f.sa, .int .i64 f.sb, .int .i64 f.pr, .int .u16 f.sl, .int .u16 f.sh, .int .u16 f.dl, .int .u16 f.dh]) (t := 77) ?hr ?_; (case hd => rfl); (case hg => rfl); (case hr => first | (go_simp; done) | (go_simp; rfl)); intro gf hgx wx hbox hb; have BF := Aside0.mk ((Hand.Bx.nil B0.out).cons hb (Nat.le_of_eq hgx.symm) hbox); clear hgx hbox hb)
    | ((with_reducible refine gate_dst (N := 3) rfl ?_); refine box_event ?hg (N := 3) ?hd (cs := #[.int .u32 h.dst, .int .u32 h.src, .int .u8 h.pr, .int .u16 h.sp, .int .u16 h.dp]) (t := 67) ?hr ?_; (case hd => rfl); (case hg => rfl); (case hr => first | (go_simp; done) | (go_simp; rfl)); intro gh hgx wx hbox hb; have BH := Aside0.mk (BF.out.cons hb (Nat.le_of_eq hgx.symm) hbox); clear hgx hbox hb)
    | ((with_reducible refine gate_dst (N := 14) rfl ?_); refine wpList_load_row rfl 77 (.tmp 2) rfl _ rfl _ _ _ _ (BH.out.at_ 1 rfl) Tryd.underlying77 rfl sz77 ?_)
    | (go_at_call 43; (with_reducible refine (crossbuckref04_Check.calls 200 f.da f.db f.sa f.sb f.pr f.sl f.sh f.dl f.dh 0 _ E0.out).mono ?_); rintro e wx ⟨rfl, hb⟩; have BI := Aside0.mk (BH.out.below hb); clear hb)
    | (go_at_call 45; (with_reducible refine (filter_All.calls 0 0 0 0 (-1) 0 65535 0 65535 _ rfl).mono ?_); rintro e wx ⟨rfl, hb⟩; have BJ := Aside0.mk (BI.out.below hb); clear hb)
    | ((with_reducible refine gate_dst (N := 5) rfl ?_); refine box_event ?hg (N := 5) ?hd (cs := #[.int .u32 0, .int .i64 0, .int .u32 0, .int .i64 0, .int .i64 0, .int .u16 0, .int .u16 0, .int .u16 0, .int .u16 0]) (t := 77) ?hr ?_; (case hd => rfl); (case hg => rfl); (case hr => first | (go_simp; done) | (go_simp; rfl)); intro ga hgx wx hbox hb; have BK := Aside0.mk (BJ.out.cons hb (Nat.le_of_eq hgx.symm) hbox); clear hgx hbox hb)
    | ((with_reducible refine gate_ (.store 77 (.tmp 5) (.tmp 18)) rfl ?_); refine Hand.wpList_store_blk rfl rfl 77 (.tmp 5) (.tmp 18) rfl [.int .u32 0, .int .i64 0, .int .u32 0, .int .i64 0, .int .i64 (-1), .int .u16 0, .int .u16 65535, .int .u16 0, .int .u16 65535] #[.int .u32 0, .int .i64 0, .int .u32 0, .int .i64 0, .int .i64 (-1), .int .u16 0, .int .u16 65535, .int .u16 0, .int .u16 65535] rfl rfl (BK.out.at_ 0 rfl) rfl sz77 (by simp) (by simp [Value.oneCell']) rfl (fun w6 hp => ?_); have BC : Aside0 (Hand.Bx w w6 [(ga, 77, #[.int .u32 0, .int .i64 0, .int .u32 0, .int .i64 0, .int .i64 (-1), .int .u16 0, .int .u16 65535, .int .u16 0, .int .u16 65535]), (gh, 67, #[.int .u32 h.dst, .int .u32 h.src, .int .u8 h.pr, .int .u16 h.sp, .int .u16 h.dp]), (gf, 77, #[.int .u32 f.da, .int .i64 f.db, .int .u32 f.sa, .int .i64 f.sb, .int .i64 f.pr, .int .u16 f.sl, .int .u16 f.sh, .int .u16 f.dl, .int .u16 f.dh])]) := ⟨BK.out.put 0 rfl hp⟩; clear hp))
  have BD := Aside0.mk (BC.out.below (below_drew1 (Below.refl _ _)))
  clear BC
  refine start_ (n := 15) (S := fun w' => w'.heap[ga]? = some (.cells #[.int .u32 0, .int .i64 0, .int .u32 0, .int .i64 0, .int .i64 (-1), .int .u16 0, .int .u16 65535, .int .u16 0, .int .u16 65535] 77 (0, 0))) (ds := []) #[false, false, false, false, false, false, false, false, false, false, false, false, false, false, false] (by kernel_rfl) rfl rfl (BD.out.at_ 0 rfl) (fun hHeld => ?_)
  refine with_tabW parts.tab4 parts.bits4 (fun HT_ HW_ => ?_)
  generalize w6.drew = wd at BD hHeld ⊢
  refine take_ (i := 0) (N := some 19) (v := .agg #[.int .u32 0, .int .i64 0, .int .u32 0, .int .i64 0, .int .i64 (-1), .int .u16 0, .int .u16 65535, .int .u16 0, .int .u16 65535]) (a' := ?_) #[true, false, false, false, false, false, false, false, false, false, false, false, false, false, false] rfl rfl (take_ofW HT_.out HW_.out (by kernel_rfl)) (fun _ _ _ h => h) (Or.inl ⟨by rfl, fun w' s0 => Hand.exec_load_blk 77 (.tmp 5) rfl _ rfl s0 Tryd.underlying77 rfl sz77⟩) hHeld ?_ ?_
  rotate_left
  · simp only [Act.put, List.setIfInBounds_toArray, List.set_cons_zero, List.set_cons_succ, i64_w, i32_w]
    rfl
  refine take_ (i := 1) (N := some 20) (v := .agg #[.int .u32 0, .int .i64 0, .int .u32 0, .int .i64 0, .int .i64 (-1), .int .u16 0, .int .u16 65535, .int .u16 0, .int .u16 65535]) (a' := ?_) #[true, true, false, false, false, false, false, false, false, false, false, false, false, false, false] rfl rfl (take_ofW HT_.out HW_.out (by kernel_rfl)) (fun _ _ _ h => h) (Or.inl ⟨by rfl, fun w' s0 => Hand.exec_load_blk 77 (.tmp 5) rfl _ rfl s0 Tryd.underlying77 rfl sz77⟩) hHeld ?_ ?_
  rotate_left
  · simp only [Act.put, List.setIfInBounds_toArray, List.set_cons_zero, List.set_cons_succ, i64_w, i32_w]
    rfl
  refine take_ (i := 2) (N := some 21) (v := .agg #[.int .u32 0, .int .i64 0, .int .u32 0, .int .i64 0, .int .i64 (-1), .int .u16 0, .int .u16 65535, .int .u16 0, .int .u16 65535]) (a' := ?_) #[true, true, true, false, false, false, false, false, false, false, false, false, false, false, false] rfl rfl (take_ofW HT_.out HW_.out (by kernel_rfl)) (fun _ _ _ h => h) (Or.inl ⟨by rfl, fun w' s0 => Hand.exec_load_blk 77 (.tmp 5) rfl _ rfl s0 Tryd.underlying77 rfl sz77⟩) hHeld ?_ ?_
  rotate_left
  · simp only [Act.put, List.setIfInBounds_toArray, List.set_cons_zero, List.set_cons_succ, i64_w, i32_w]
    rfl
  refine take_ (i := 3) (N := some 22) (v := .agg #[.int .u32 0, .int .i64 0, .int .u32 0, .int .i64 0, .int .i64 (-1), .int .u16 0, .int .u16 65535, .int .u16 0, .int .u16 65535]) (a' := ?_) #[true, true, true, true, false, false, false, false, false, false, false, false, false, false, false] rfl rfl (take_ofW HT_.out HW_.out (by kernel_rfl)) (fun _ _ _ h => h) (Or.inl ⟨by rfl, fun w' s0 => Hand.exec_load_blk 77 (.tmp 5) rfl _ rfl s0 Tryd.underlying77 rfl sz77⟩) hHeld ?_ ?_
  rotate_left
  · simp only [Act.put, List.setIfInBounds_toArray, List.set_cons_zero, List.set_cons_succ, i64_w, i32_w]
    rfl
  refine take_ (i := 4) (N := some 23) (v := .agg #[.int .u32 0, .int .i64 0, .int .u32 0, .int .i64 0, .int .i64 (-1), .int .u16 0, .int .u16 65535, .int .u16 0, .int .u16 65535]) (a' := ?_) #[true, true, true, true, true, false, false, false, false, false, false, false, false, false, false] rfl rfl (take_ofW HT_.out HW_.out (by kernel_rfl)) (fun _ _ _ h => h) (Or.inl ⟨by rfl, fun w' s0 => Hand.exec_load_blk 77 (.tmp 5) rfl _ rfl s0 Tryd.underlying77 rfl sz77⟩) hHeld ?_ ?_
  rotate_left
  · simp only [Act.put, List.setIfInBounds_toArray, List.set_cons_zero, List.set_cons_succ, i64_w, i32_w]
    rfl
  refine Hand.allocs_ (fuel := 5) (n := 5) [(5, 6), (6, 7), (7, 8), (8, 9), (9, 10)] #[.int .u32 0, .int .i64 0, .int .u32 0, .int .i64 0, .int .i64 0, .int .u16 0, .int .u16 0, .int .u16 0, .int .u16 0] 77 (fun D => #[true, true, true, true, true, D 5, D 6, D 7, D 8, D 9, false, false, false, false, false]) ?a0 rfl (by decide) (by decide) ?op ?rd ?st ?ex ?ss rfl hHeld ?ct
  case a0 => exact rfl
  case op =>
    intro p hp; simp only [List.mem_cons, List.not_mem_nil, or_false] at hp; rcases hp with rfl | rfl | rfl | rfl | rfl
    all_goals exact ⟨by simp, _, rfl, rfl, fun _ => rfl, fun a w => by first | (go_simp; done) | (go_simp; rfl)⟩
  case rd =>
    intro D hD
    cases h5 : D 5 <;> cases h6 : D 6 <;> cases h7 : D 7 <;> cases h8 : D 8 <;> cases h9 : D 9
    all_goals first | (exfalso; obtain ⟨p, hp, hq⟩ := hD; simp only [List.mem_cons, List.not_mem_nil, or_false] at hp; (rcases hp with rfl | rfl | rfl | rfl | rfl) <;> simp_all; done) | (simp only [List.map_cons, List.map_nil, List.filter_cons, List.filter_nil, h5, h6, h7, h8, h9]; kernel_rfl)
  case st =>
    intro D
    intro p hp; simp only [List.mem_cons, List.not_mem_nil, or_false] at hp; rcases hp with rfl | rfl | rfl | rfl | rfl
    all_goals rfl
  case ex =>
    intro D D' h
    have h5 := h (5, 6) (by simp)
    have h6 := h (6, 7) (by simp)
    have h7 := h (7, 8) (by simp)
    have h8 := h (8, 9) (by simp)
    have h9 := h (9, 10) (by simp)
    simp only at h5 h6 h7 h8 h9
    simp only [h5, h6, h7, h8, h9]
  case ss => exact fun w' o s0 => blk_alloc s0 o
  intro b w7 hb hbs hinj hHeld
  have hne := distinct5 (t := 77) (c := #[.int .u32 0, .int .i64 0, .int .u32 0, .int .i64 0, .int .i64 0, .int .u16 0, .int .u16 0, .int .u16 0, .int .u16 0]) b hinj
  have BX0 : Aside0 (Hand.Bx w w7 [((b 5), 77, #[.int .u32 0, .int .i64 0, .int .u32 0, .int .i64 0, .int .i64 0, .int .u16 0, .int .u16 0, .int .u16 0, .int .u16 0]), ((b 6), 77, #[.int .u32 0, .int .i64 0, .int .u32 0, .int .i64 0, .int .i64 0, .int .u16 0, .int .u16 0, .int .u16 0, .int .u16 0]), ((b 7), 77, #[.int .u32 0, .int .i64 0, .int .u32 0, .int .i64 0, .int .i64 0, .int .u16 0, .int .u16 0, .int .u16 0, .int .u16 0]), ((b 8), 77, #[.int .u32 0, .int .i64 0, .int .u32 0, .int .i64 0, .int .i64 0, .int .u16 0, .int .u16 0, .int .u16 0, .int .u16 0]), ((b 9), 77, #[.int .u32 0, .int .i64 0, .int .u32 0, .int .i64 0, .int .i64 0, .int .u16 0, .int .u16 0, .int .u16 0, .int .u16 0]), (ga, 77, #[.int .u32 0, .int .i64 0, .int .u32 0, .int .i64 0, .int .i64 (-1), .int .u16 0, .int .u16 65535, .int .u16 0, .int .u16 65535]), (gh, 67, #[.int .u32 h.dst, .int .u32 h.src, .int .u8 h.pr, .int .u16 h.sp, .int .u16 h.dp]), (gf, 77, #[.int .u32 f.da, .int .i64 f.db, .int .u32 f.sa, .int .i64 f.sb, .int .i64 f.pr, .int .u16 f.sl, .int .u16 f.sh, .int .u16 f.dl, .int .u16 f.dh])]) := ⟨BD.out.many hb [((b 5), 77, #[.int .u32 0, .int .i64 0, .int .u32 0, .int .i64 0, .int .i64 0, .int .u16 0, .int .u16 0, .int .u16 0, .int .u16 0]), ((b 6), 77, #[.int .u32 0, .int .i64 0, .int .u32 0, .int .i64 0, .int .i64 0, .int .u16 0, .int .u16 0, .int .u16 0, .int .u16 0]), ((b 7), 77, #[.int .u32 0, .int .i64 0, .int .u32 0, .int .i64 0, .int .i64 0, .int .u16 0, .int .u16 0, .int .u16 0, .int .u16 0]), ((b 8), 77, #[.int .u32 0, .int .i64 0, .int .u32 0, .int .i64 0, .int .i64 0, .int .u16 0, .int .u16 0, .int .u16 0, .int .u16 0]), ((b 9), 77, #[.int .u32 0, .int .i64 0, .int .u32 0, .int .i64 0, .int .i64 0, .int .u16 0, .int .u16 0, .int .u16 0, .int .u16 0])] (list5 (fun i t hi => hbs (i, t) hi)) hne⟩
  clear BD hb hbs hinj hne
  refine norm_ (a' := ?_) ?_ ?_
  rotate_left
  · simp only [Hand.fill, Act.put, List.setIfInBounds_toArray, List.set_cons_zero, List.set_cons_succ]
    rfl
  refine one_ (i := 10) (N := none) #[true, true, true, true, true, true, true, true, true, true, true, false, false, false, false] rfl rfl (one_of HT_.out (by kernel_rfl)) (by decide) (fun K hK => ?_)
  refine Hand.store_step (by rfl) rfl 77 (.tmp 6) (.tmp 19) rfl [.int .u32 0, .int .i64 0, .int .u32 0, .int .i64 0, .int .i64 (-1), .int .u16 0, .int .u16 65535, .int .u16 0, .int .u16 65535] #[.int .u32 0, .int .i64 0, .int .u32 0, .int .i64 0, .int .i64 (-1), .int .u16 0, .int .u16 65535, .int .u16 0, .int .u16 65535] rfl rfl (BX0.out.at_ 0 rfl) rfl sz77 (by simp) (by simp [Value.oneCell']) rfl (fun w1 hp => ?_)
  have BX1 : Aside0 (Hand.Bx w w1 [((b 5), 77, #[.int .u32 0, .int .i64 0, .int .u32 0, .int .i64 0, .int .i64 (-1), .int .u16 0, .int .u16 65535, .int .u16 0, .int .u16 65535]), ((b 6), 77, #[.int .u32 0, .int .i64 0, .int .u32 0, .int .i64 0, .int .i64 0, .int .u16 0, .int .u16 0, .int .u16 0, .int .u16 0]), ((b 7), 77, #[.int .u32 0, .int .i64 0, .int .u32 0, .int .i64 0, .int .i64 0, .int .u16 0, .int .u16 0, .int .u16 0, .int .u16 0]), ((b 8), 77, #[.int .u32 0, .int .i64 0, .int .u32 0, .int .i64 0, .int .i64 0, .int .u16 0, .int .u16 0, .int .u16 0, .int .u16 0]), ((b 9), 77, #[.int .u32 0, .int .i64 0, .int .u32 0, .int .i64 0, .int .i64 0, .int .u16 0, .int .u16 0, .int .u16 0, .int .u16 0]), (ga, 77, #[.int .u32 0, .int .i64 0, .int .u32 0, .int .i64 0, .int .i64 (-1), .int .u16 0, .int .u16 65535, .int .u16 0, .int .u16 65535]), (gh, 67, #[.int .u32 h.dst, .int .u32 h.src, .int .u8 h.pr, .int .u16 h.sp, .int .u16 h.dp]), (gf, 77, #[.int .u32 f.da, .int .i64 f.db, .int .u32 f.sa, .int .i64 f.sb, .int .i64 f.pr, .int .u16 f.sl, .int .u16 f.sh, .int .u16 f.dl, .int .u16 f.dh])]) := ⟨BX0.out.put 0 rfl hp⟩
  clear hp BX0
  refine hK.out _ _ (BX1.out.at_ 5 rfl) (fun hHeld => ?_)
  clear hK K
  refine one_ (i := 11) (N := none) #[true, true, true, true, true, true, true, true, true, true, true, true, false, false, false] rfl rfl (one_of HT_.out (by kernel_rfl)) (by decide) (fun K hK => ?_)
  refine Hand.store_step (by rfl) rfl 77 (.tmp 7) (.tmp 20) rfl [.int .u32 0, .int .i64 0, .int .u32 0, .int .i64 0, .int .i64 (-1), .int .u16 0, .int .u16 65535, .int .u16 0, .int .u16 65535] #[.int .u32 0, .int .i64 0, .int .u32 0, .int .i64 0, .int .i64 (-1), .int .u16 0, .int .u16 65535, .int .u16 0, .int .u16 65535] rfl rfl (BX1.out.at_ 1 rfl) rfl sz77 (by simp) (by simp [Value.oneCell']) rfl (fun w1 hp => ?_)
  have BX2 : Aside0 (Hand.Bx w w1 [((b 5), 77, #[.int .u32 0, .int .i64 0, .int .u32 0, .int .i64 0, .int .i64 (-1), .int .u16 0, .int .u16 65535, .int .u16 0, .int .u16 65535]), ((b 6), 77, #[.int .u32 0, .int .i64 0, .int .u32 0, .int .i64 0, .int .i64 (-1), .int .u16 0, .int .u16 65535, .int .u16 0, .int .u16 65535]), ((b 7), 77, #[.int .u32 0, .int .i64 0, .int .u32 0, .int .i64 0, .int .i64 0, .int .u16 0, .int .u16 0, .int .u16 0, .int .u16 0]), ((b 8), 77, #[.int .u32 0, .int .i64 0, .int .u32 0, .int .i64 0, .int .i64 0, .int .u16 0, .int .u16 0, .int .u16 0, .int .u16 0]), ((b 9), 77, #[.int .u32 0, .int .i64 0, .int .u32 0, .int .i64 0, .int .i64 0, .int .u16 0, .int .u16 0, .int .u16 0, .int .u16 0]), (ga, 77, #[.int .u32 0, .int .i64 0, .int .u32 0, .int .i64 0, .int .i64 (-1), .int .u16 0, .int .u16 65535, .int .u16 0, .int .u16 65535]), (gh, 67, #[.int .u32 h.dst, .int .u32 h.src, .int .u8 h.pr, .int .u16 h.sp, .int .u16 h.dp]), (gf, 77, #[.int .u32 f.da, .int .i64 f.db, .int .u32 f.sa, .int .i64 f.sb, .int .i64 f.pr, .int .u16 f.sl, .int .u16 f.sh, .int .u16 f.dl, .int .u16 f.dh])]) := ⟨BX1.out.put 1 rfl hp⟩
  clear hp BX1
  refine hK.out _ _ (BX2.out.at_ 5 rfl) (fun hHeld => ?_)
  clear hK K
  refine one_ (i := 12) (N := none) #[true, true, true, true, true, true, true, true, true, true, true, true, true, false, false] rfl rfl (one_of HT_.out (by kernel_rfl)) (by decide) (fun K hK => ?_)
  refine Hand.store_step (by rfl) rfl 77 (.tmp 8) (.tmp 21) rfl [.int .u32 0, .int .i64 0, .int .u32 0, .int .i64 0, .int .i64 (-1), .int .u16 0, .int .u16 65535, .int .u16 0, .int .u16 65535] #[.int .u32 0, .int .i64 0, .int .u32 0, .int .i64 0, .int .i64 (-1), .int .u16 0, .int .u16 65535, .int .u16 0, .int .u16 65535] rfl rfl (BX2.out.at_ 2 rfl) rfl sz77 (by simp) (by simp [Value.oneCell']) rfl (fun w1 hp => ?_)
  have BX3 : Aside0 (Hand.Bx w w1 [((b 5), 77, #[.int .u32 0, .int .i64 0, .int .u32 0, .int .i64 0, .int .i64 (-1), .int .u16 0, .int .u16 65535, .int .u16 0, .int .u16 65535]), ((b 6), 77, #[.int .u32 0, .int .i64 0, .int .u32 0, .int .i64 0, .int .i64 (-1), .int .u16 0, .int .u16 65535, .int .u16 0, .int .u16 65535]), ((b 7), 77, #[.int .u32 0, .int .i64 0, .int .u32 0, .int .i64 0, .int .i64 (-1), .int .u16 0, .int .u16 65535, .int .u16 0, .int .u16 65535]), ((b 8), 77, #[.int .u32 0, .int .i64 0, .int .u32 0, .int .i64 0, .int .i64 0, .int .u16 0, .int .u16 0, .int .u16 0, .int .u16 0]), ((b 9), 77, #[.int .u32 0, .int .i64 0, .int .u32 0, .int .i64 0, .int .i64 0, .int .u16 0, .int .u16 0, .int .u16 0, .int .u16 0]), (ga, 77, #[.int .u32 0, .int .i64 0, .int .u32 0, .int .i64 0, .int .i64 (-1), .int .u16 0, .int .u16 65535, .int .u16 0, .int .u16 65535]), (gh, 67, #[.int .u32 h.dst, .int .u32 h.src, .int .u8 h.pr, .int .u16 h.sp, .int .u16 h.dp]), (gf, 77, #[.int .u32 f.da, .int .i64 f.db, .int .u32 f.sa, .int .i64 f.sb, .int .i64 f.pr, .int .u16 f.sl, .int .u16 f.sh, .int .u16 f.dl, .int .u16 f.dh])]) := ⟨BX2.out.put 2 rfl hp⟩
  clear hp BX2
  refine hK.out _ _ (BX3.out.at_ 5 rfl) (fun hHeld => ?_)
  clear hK K
  refine one_ (i := 13) (N := none) #[true, true, true, true, true, true, true, true, true, true, true, true, true, true, false] rfl rfl (one_of HT_.out (by kernel_rfl)) (by decide) (fun K hK => ?_)
  refine Hand.store_step (by rfl) rfl 77 (.tmp 9) (.tmp 22) rfl [.int .u32 0, .int .i64 0, .int .u32 0, .int .i64 0, .int .i64 (-1), .int .u16 0, .int .u16 65535, .int .u16 0, .int .u16 65535] #[.int .u32 0, .int .i64 0, .int .u32 0, .int .i64 0, .int .i64 (-1), .int .u16 0, .int .u16 65535, .int .u16 0, .int .u16 65535] rfl rfl (BX3.out.at_ 3 rfl) rfl sz77 (by simp) (by simp [Value.oneCell']) rfl (fun w1 hp => ?_)
  have BX4 : Aside0 (Hand.Bx w w1 [((b 5), 77, #[.int .u32 0, .int .i64 0, .int .u32 0, .int .i64 0, .int .i64 (-1), .int .u16 0, .int .u16 65535, .int .u16 0, .int .u16 65535]), ((b 6), 77, #[.int .u32 0, .int .i64 0, .int .u32 0, .int .i64 0, .int .i64 (-1), .int .u16 0, .int .u16 65535, .int .u16 0, .int .u16 65535]), ((b 7), 77, #[.int .u32 0, .int .i64 0, .int .u32 0, .int .i64 0, .int .i64 (-1), .int .u16 0, .int .u16 65535, .int .u16 0, .int .u16 65535]), ((b 8), 77, #[.int .u32 0, .int .i64 0, .int .u32 0, .int .i64 0, .int .i64 (-1), .int .u16 0, .int .u16 65535, .int .u16 0, .int .u16 65535]), ((b 9), 77, #[.int .u32 0, .int .i64 0, .int .u32 0, .int .i64 0, .int .i64 0, .int .u16 0, .int .u16 0, .int .u16 0, .int .u16 0]), (ga, 77, #[.int .u32 0, .int .i64 0, .int .u32 0, .int .i64 0, .int .i64 (-1), .int .u16 0, .int .u16 65535, .int .u16 0, .int .u16 65535]), (gh, 67, #[.int .u32 h.dst, .int .u32 h.src, .int .u8 h.pr, .int .u16 h.sp, .int .u16 h.dp]), (gf, 77, #[.int .u32 f.da, .int .i64 f.db, .int .u32 f.sa, .int .i64 f.sb, .int .i64 f.pr, .int .u16 f.sl, .int .u16 f.sh, .int .u16 f.dl, .int .u16 f.dh])]) := ⟨BX3.out.put 3 rfl hp⟩
  clear hp BX3
  refine hK.out _ _ (BX4.out.at_ 5 rfl) (fun hHeld => ?_)
  clear hK K
  refine one_ (i := 14) (N := none) #[true, true, true, true, true, true, true, true, true, true, true, true, true, true, true] rfl rfl (one_of HT_.out (by kernel_rfl)) (by decide) (fun K hK => ?_)
  refine Hand.store_step (by rfl) rfl 77 (.tmp 10) (.tmp 23) rfl [.int .u32 0, .int .i64 0, .int .u32 0, .int .i64 0, .int .i64 (-1), .int .u16 0, .int .u16 65535, .int .u16 0, .int .u16 65535] #[.int .u32 0, .int .i64 0, .int .u32 0, .int .i64 0, .int .i64 (-1), .int .u16 0, .int .u16 65535, .int .u16 0, .int .u16 65535] rfl rfl (BX4.out.at_ 4 rfl) rfl sz77 (by simp) (by simp [Value.oneCell']) rfl (fun w1 hp => ?_)
  have BX5 : Aside0 (Hand.Bx w w1 [((b 5), 77, #[.int .u32 0, .int .i64 0, .int .u32 0, .int .i64 0, .int .i64 (-1), .int .u16 0, .int .u16 65535, .int .u16 0, .int .u16 65535]), ((b 6), 77, #[.int .u32 0, .int .i64 0, .int .u32 0, .int .i64 0, .int .i64 (-1), .int .u16 0, .int .u16 65535, .int .u16 0, .int .u16 65535]), ((b 7), 77, #[.int .u32 0, .int .i64 0, .int .u32 0, .int .i64 0, .int .i64 (-1), .int .u16 0, .int .u16 65535, .int .u16 0, .int .u16 65535]), ((b 8), 77, #[.int .u32 0, .int .i64 0, .int .u32 0, .int .i64 0, .int .i64 (-1), .int .u16 0, .int .u16 65535, .int .u16 0, .int .u16 65535]), ((b 9), 77, #[.int .u32 0, .int .i64 0, .int .u32 0, .int .i64 0, .int .i64 (-1), .int .u16 0, .int .u16 65535, .int .u16 0, .int .u16 65535]), (ga, 77, #[.int .u32 0, .int .i64 0, .int .u32 0, .int .i64 0, .int .i64 (-1), .int .u16 0, .int .u16 65535, .int .u16 0, .int .u16 65535]), (gh, 67, #[.int .u32 h.dst, .int .u32 h.src, .int .u8 h.pr, .int .u16 h.sp, .int .u16 h.dp]), (gf, 77, #[.int .u32 f.da, .int .i64 f.db, .int .u32 f.sa, .int .i64 f.sb, .int .i64 f.pr, .int .u16 f.sl, .int .u16 f.sh, .int .u16 f.dl, .int .u16 f.dh])]) := ⟨BX4.out.put 4 rfl hp⟩
  clear hp BX4
  refine hK.out _ _ (BX5.out.at_ 5 rfl) (fun hHeld => ?_)
  clear hK K
  refine done_ (done_of HT_.out (by kernel_rfl)) ?_
  go_wp2
  have BE := Aside0.mk (BX5.out.below (below_drew1 (Below.refl _ _)))
  clear BX5 hHeld HT_ HW_
  refine start_ (n := 20) (S := fun w' => w'.heap[gf]? = some (.cells #[.int .u32 f.da, .int .i64 f.db, .int .u32 f.sa, .int .i64 f.sb, .int .i64 f.pr, .int .u16 f.sl, .int .u16 f.sh, .int .u16 f.dl, .int .u16 f.dh] 77 (0, 0))) (ds := []) #[false, false, false, false, false, false, false, false, false, false, false, false, false, false, false, false, false, false, false, false] (by kernel_rfl) rfl rfl ((BE.out.at_ 7 rfl)) (fun hHeld => ?_)
  refine with_tabW parts.tab5 parts.bits5 (fun HT_ HW_ => ?_)
  generalize w1.drew = we at BE hHeld ⊢
  refine pure_ (i := 0) (N := some 24) (v := ?_) (a' := ?_) #[true, false, false, false, false, false, false, false, false, false, false, false, false, false, false, false, false, false, false, false] rfl rfl (any_of HT_.out (by kernel_rfl)) (fun _ _ _ h => h) (Or.inl ⟨by rfl, ?_⟩) ?_ ?_
  rotate_left
  · intro w'
    go_simp
    with_reducible rfl
  rotate_left
  · simp only [Act.put, List.setIfInBounds_toArray, List.set_cons_zero, List.set_cons_succ, i64_w, i32_w]
    rfl
  refine pure_ (i := 2) (N := some 26) (v := ?_) (a' := ?_) #[true, false, true, false, false, false, false, false, false, false, false, false, false, false, false, false, false, false, false, false] rfl rfl (any_of HT_.out (by kernel_rfl)) (fun _ _ _ h => h) (Or.inl ⟨by rfl, ?_⟩) ?_ ?_
  rotate_left
  · intro w'
    go_simp
    with_reducible rfl
  rotate_left
  · simp only [Act.put, List.setIfInBounds_toArray, List.set_cons_zero, List.set_cons_succ, i64_w, i32_w]
    rfl
  refine pure_ (i := 4) (N := some 28) (v := ?_) (a' := ?_) #[true, false, true, false, true, false, false, false, false, false, false, false, false, false, false, false, false, false, false, false] rfl rfl (any_of HT_.out (by kernel_rfl)) (fun _ _ _ h => h) (Or.inl ⟨by rfl, ?_⟩) ?_ ?_
  rotate_left
  · intro w'
    go_simp
    with_reducible rfl
  rotate_left
  · simp only [Act.put, List.setIfInBounds_toArray, List.set_cons_zero, List.set_cons_succ, i64_w, i32_w]
    rfl
  refine pure_ (i := 6) (N := some 30) (v := ?_) (a' := ?_) #[true, false, true, false, true, false, true, false, false, false, false, false, false, false, false, false, false, false, false, false] rfl rfl (any_of HT_.out (by kernel_rfl)) (fun _ _ _ h => h) (Or.inl ⟨by rfl, ?_⟩) ?_ ?_
  rotate_left
  · intro w'
    go_simp
    with_reducible rfl
  rotate_left
  · simp only [Act.put, List.setIfInBounds_toArray, List.set_cons_zero, List.set_cons_succ, i64_w, i32_w]
    rfl
  refine pure_ (i := 8) (N := some 32) (v := ?_) (a' := ?_) #[true, false, true, false, true, false, true, false, true, false, false, false, false, false, false, false, false, false, false, false] rfl rfl (any_of HT_.out (by kernel_rfl)) (fun _ _ _ h => h) (Or.inl ⟨by rfl, ?_⟩) ?_ ?_
  rotate_left
  · intro w'
    go_simp
    with_reducible rfl
  rotate_left
  · simp only [Act.put, List.setIfInBounds_toArray, List.set_cons_zero, List.set_cons_succ, i64_w, i32_w]
    rfl
  refine take_ (i := 1) (N := some 25) (v := ?_) (a' := ?_) #[true, true, true, false, true, false, true, false, true, false, false, false, false, false, false, false, false, false, false, false] rfl rfl (take_ofW HT_.out HW_.out (by kernel_rfl)) (fun _ _ _ h => h) (Or.inl ⟨by rfl, ?_⟩) hHeld ?_ ?_
  rotate_left
  · intro w' s0; have z0 : w'.cell? ⟨gf, 0, none⟩ = some (.int .u32 f.da) := (blk_cell s0 0).trans rfl; have z1 : w'.cell? ⟨gf, 1, none⟩ = some (.int .i64 f.db) := (blk_cell s0 1).trans rfl; have z2 : w'.cell? ⟨gf, 2, none⟩ = some (.int .u32 f.sa) := (blk_cell s0 2).trans rfl; have z3 : w'.cell? ⟨gf, 3, none⟩ = some (.int .i64 f.sb) := (blk_cell s0 3).trans rfl; have z4 : w'.cell? ⟨gf, 4, none⟩ = some (.int .i64 f.pr) := (blk_cell s0 4).trans rfl; have z5 : w'.cell? ⟨gf, 5, none⟩ = some (.int .u16 f.sl) := (blk_cell s0 5).trans rfl; have z6 : w'.cell? ⟨gf, 6, none⟩ = some (.int .u16 f.sh) := (blk_cell s0 6).trans rfl; have z7 : w'.cell? ⟨gf, 7, none⟩ = some (.int .u16 f.dl) := (blk_cell s0 7).trans rfl; have z8 : w'.cell? ⟨gf, 8, none⟩ = some (.int .u16 f.dh) := (blk_cell s0 8).trans rfl
    go_simp
    with_reducible rfl
  rotate_left
  · simp only [Act.put, List.setIfInBounds_toArray, List.set_cons_zero, List.set_cons_succ, i64_w, i32_w]
    rfl
  refine pure_ (i := 10) (N := some 34) (v := ?_) (a' := ?_) #[true, true, true, false, true, false, true, false, true, false, true, false, false, false, false, false, false, false, false, false] rfl rfl (any_of HT_.out (by kernel_rfl)) (fun _ _ _ h => h) (Or.inl ⟨by rfl, ?_⟩) ?_ ?_
  rotate_left
  · intro w'
    go_simp
    with_reducible rfl
  rotate_left
  · simp only [Act.put, List.setIfInBounds_toArray, List.set_cons_zero, List.set_cons_succ, i64_w, i32_w]
    rfl
  refine take_ (i := 3) (N := some 27) (v := ?_) (a' := ?_) #[true, true, true, true, true, false, true, false, true, false, true, false, false, false, false, false, false, false, false, false] rfl rfl (take_ofW HT_.out HW_.out (by kernel_rfl)) (fun _ _ _ h => h) (Or.inl ⟨by rfl, ?_⟩) hHeld ?_ ?_
  rotate_left
  · intro w' s0; have z0 : w'.cell? ⟨gf, 0, none⟩ = some (.int .u32 f.da) := (blk_cell s0 0).trans rfl; have z1 : w'.cell? ⟨gf, 1, none⟩ = some (.int .i64 f.db) := (blk_cell s0 1).trans rfl; have z2 : w'.cell? ⟨gf, 2, none⟩ = some (.int .u32 f.sa) := (blk_cell s0 2).trans rfl; have z3 : w'.cell? ⟨gf, 3, none⟩ = some (.int .i64 f.sb) := (blk_cell s0 3).trans rfl; have z4 : w'.cell? ⟨gf, 4, none⟩ = some (.int .i64 f.pr) := (blk_cell s0 4).trans rfl; have z5 : w'.cell? ⟨gf, 5, none⟩ = some (.int .u16 f.sl) := (blk_cell s0 5).trans rfl; have z6 : w'.cell? ⟨gf, 6, none⟩ = some (.int .u16 f.sh) := (blk_cell s0 6).trans rfl; have z7 : w'.cell? ⟨gf, 7, none⟩ = some (.int .u16 f.dl) := (blk_cell s0 7).trans rfl; have z8 : w'.cell? ⟨gf, 8, none⟩ = some (.int .u16 f.dh) := (blk_cell s0 8).trans rfl
    go_simp
    with_reducible rfl
  rotate_left
  · simp only [Act.put, List.setIfInBounds_toArray, List.set_cons_zero, List.set_cons_succ, i64_w, i32_w]
    rfl
  refine take_ (i := 5) (N := some 29) (v := ?_) (a' := ?_) #[true, true, true, true, true, true, true, false, true, false, true, false, false, false, false, false, false, false, false, false] rfl rfl (take_ofW HT_.out HW_.out (by kernel_rfl)) (fun _ _ _ h => h) (Or.inl ⟨by rfl, ?_⟩) hHeld ?_ ?_
  rotate_left
  · intro w' s0; have z0 : w'.cell? ⟨gf, 0, none⟩ = some (.int .u32 f.da) := (blk_cell s0 0).trans rfl; have z1 : w'.cell? ⟨gf, 1, none⟩ = some (.int .i64 f.db) := (blk_cell s0 1).trans rfl; have z2 : w'.cell? ⟨gf, 2, none⟩ = some (.int .u32 f.sa) := (blk_cell s0 2).trans rfl; have z3 : w'.cell? ⟨gf, 3, none⟩ = some (.int .i64 f.sb) := (blk_cell s0 3).trans rfl; have z4 : w'.cell? ⟨gf, 4, none⟩ = some (.int .i64 f.pr) := (blk_cell s0 4).trans rfl; have z5 : w'.cell? ⟨gf, 5, none⟩ = some (.int .u16 f.sl) := (blk_cell s0 5).trans rfl; have z6 : w'.cell? ⟨gf, 6, none⟩ = some (.int .u16 f.sh) := (blk_cell s0 6).trans rfl; have z7 : w'.cell? ⟨gf, 7, none⟩ = some (.int .u16 f.dl) := (blk_cell s0 7).trans rfl; have z8 : w'.cell? ⟨gf, 8, none⟩ = some (.int .u16 f.dh) := (blk_cell s0 8).trans rfl
    go_simp
    with_reducible rfl
  rotate_left
  · simp only [Act.put, List.setIfInBounds_toArray, List.set_cons_zero, List.set_cons_succ, i64_w, i32_w]
    rfl
  refine take_ (i := 7) (N := some 31) (v := ?_) (a' := ?_) #[true, true, true, true, true, true, true, true, true, false, true, false, false, false, false, false, false, false, false, false] rfl rfl (take_ofW HT_.out HW_.out (by kernel_rfl)) (fun _ _ _ h => h) (Or.inl ⟨by rfl, ?_⟩) hHeld ?_ ?_
  rotate_left
  · intro w' s0; have z0 : w'.cell? ⟨gf, 0, none⟩ = some (.int .u32 f.da) := (blk_cell s0 0).trans rfl; have z1 : w'.cell? ⟨gf, 1, none⟩ = some (.int .i64 f.db) := (blk_cell s0 1).trans rfl; have z2 : w'.cell? ⟨gf, 2, none⟩ = some (.int .u32 f.sa) := (blk_cell s0 2).trans rfl; have z3 : w'.cell? ⟨gf, 3, none⟩ = some (.int .i64 f.sb) := (blk_cell s0 3).trans rfl; have z4 : w'.cell? ⟨gf, 4, none⟩ = some (.int .i64 f.pr) := (blk_cell s0 4).trans rfl; have z5 : w'.cell? ⟨gf, 5, none⟩ = some (.int .u16 f.sl) := (blk_cell s0 5).trans rfl; have z6 : w'.cell? ⟨gf, 6, none⟩ = some (.int .u16 f.sh) := (blk_cell s0 6).trans rfl; have z7 : w'.cell? ⟨gf, 7, none⟩ = some (.int .u16 f.dl) := (blk_cell s0 7).trans rfl; have z8 : w'.cell? ⟨gf, 8, none⟩ = some (.int .u16 f.dh) := (blk_cell s0 8).trans rfl
    go_simp
    with_reducible rfl
  rotate_left
  · simp only [Act.put, List.setIfInBounds_toArray, List.set_cons_zero, List.set_cons_succ, i64_w, i32_w]
    rfl
  refine take_ (i := 9) (N := some 33) (v := ?_) (a' := ?_) #[true, true, true, true, true, true, true, true, true, true, true, false, false, false, false, false, false, false, false, false] rfl rfl (take_ofW HT_.out HW_.out (by kernel_rfl)) (fun _ _ _ h => h) (Or.inl ⟨by rfl, ?_⟩) hHeld ?_ ?_
  rotate_left
  · intro w' s0; have z0 : w'.cell? ⟨gf, 0, none⟩ = some (.int .u32 f.da) := (blk_cell s0 0).trans rfl; have z1 : w'.cell? ⟨gf, 1, none⟩ = some (.int .i64 f.db) := (blk_cell s0 1).trans rfl; have z2 : w'.cell? ⟨gf, 2, none⟩ = some (.int .u32 f.sa) := (blk_cell s0 2).trans rfl; have z3 : w'.cell? ⟨gf, 3, none⟩ = some (.int .i64 f.sb) := (blk_cell s0 3).trans rfl; have z4 : w'.cell? ⟨gf, 4, none⟩ = some (.int .i64 f.pr) := (blk_cell s0 4).trans rfl; have z5 : w'.cell? ⟨gf, 5, none⟩ = some (.int .u16 f.sl) := (blk_cell s0 5).trans rfl; have z6 : w'.cell? ⟨gf, 6, none⟩ = some (.int .u16 f.sh) := (blk_cell s0 6).trans rfl; have z7 : w'.cell? ⟨gf, 7, none⟩ = some (.int .u16 f.dl) := (blk_cell s0 7).trans rfl; have z8 : w'.cell? ⟨gf, 8, none⟩ = some (.int .u16 f.dh) := (blk_cell s0 8).trans rfl
    go_simp
    with_reducible rfl
  rotate_left
  · simp only [Act.put, List.setIfInBounds_toArray, List.set_cons_zero, List.set_cons_succ, i64_w, i32_w]
    rfl
  refine one_ (i := 11) (N := none) #[true, true, true, true, true, true, true, true, true, true, true, true, false, false, false, false, false, false, false, false] rfl rfl (one_of HT_.out (by kernel_rfl)) (by decide) (fun K hK => ?_)
  refine Hand.store_step (by rfl) rfl 42 (.tmp 34) (.tmp 25) rfl [.int .u32 f.da, .int .i64 f.db] #[.int .u32 f.da, .int .i64 f.db, .int .u32 0, .int .i64 0, .int .i64 (-1), .int .u16 0, .int .u16 65535, .int .u16 0, .int .u16 65535] rfl rfl (BE.out.at_ 0 rfl) rfl sz42 (by simp) (by simp [Value.oneCell']) rfl (fun w1 hp => ?_)
  have BY1 : Aside0 (Hand.Bx w w1 [((b 5), 77, #[.int .u32 f.da, .int .i64 f.db, .int .u32 0, .int .i64 0, .int .i64 (-1), .int .u16 0, .int .u16 65535, .int .u16 0, .int .u16 65535]), ((b 6), 77, #[.int .u32 0, .int .i64 0, .int .u32 0, .int .i64 0, .int .i64 (-1), .int .u16 0, .int .u16 65535, .int .u16 0, .int .u16 65535]), ((b 7), 77, #[.int .u32 0, .int .i64 0, .int .u32 0, .int .i64 0, .int .i64 (-1), .int .u16 0, .int .u16 65535, .int .u16 0, .int .u16 65535]), ((b 8), 77, #[.int .u32 0, .int .i64 0, .int .u32 0, .int .i64 0, .int .i64 (-1), .int .u16 0, .int .u16 65535, .int .u16 0, .int .u16 65535]), ((b 9), 77, #[.int .u32 0, .int .i64 0, .int .u32 0, .int .i64 0, .int .i64 (-1), .int .u16 0, .int .u16 65535, .int .u16 0, .int .u16 65535]), (ga, 77, #[.int .u32 0, .int .i64 0, .int .u32 0, .int .i64 0, .int .i64 (-1), .int .u16 0, .int .u16 65535, .int .u16 0, .int .u16 65535]), (gh, 67, #[.int .u32 h.dst, .int .u32 h.src, .int .u8 h.pr, .int .u16 h.sp, .int .u16 h.dp]), (gf, 77, #[.int .u32 f.da, .int .i64 f.db, .int .u32 f.sa, .int .i64 f.sb, .int .i64 f.pr, .int .u16 f.sl, .int .u16 f.sh, .int .u16 f.dl, .int .u16 f.dh])]) := ⟨BE.out.put 0 rfl hp⟩
  clear hp BE
  refine hK.out _ _ ((BY1.out.at_ 7 rfl)) (fun hHeld => ?_)
  clear hK K
  refine pure_ (i := 12) (N := some 35) (v := ?_) (a' := ?_) #[true, true, true, true, true, true, true, true, true, true, true, true, true, false, false, false, false, false, false, false] rfl rfl (any_of HT_.out (by kernel_rfl)) (fun _ _ _ h => h) (Or.inl ⟨by rfl, ?_⟩) ?_ ?_
  rotate_left
  · intro w'
    go_simp
    with_reducible rfl
  rotate_left
  · simp only [Act.put, List.setIfInBounds_toArray, List.set_cons_zero, List.set_cons_succ, i64_w, i32_w]
    rfl
  refine one_ (i := 13) (N := none) #[true, true, true, true, true, true, true, true, true, true, true, true, true, true, false, false, false, false, false, false] rfl rfl (one_of HT_.out (by kernel_rfl)) (by decide) (fun K hK => ?_)
  refine Hand.store_step (by rfl) rfl 42 (.tmp 35) (.tmp 27) rfl [.int .u32 f.sa, .int .i64 f.sb] #[.int .u32 0, .int .i64 0, .int .u32 f.sa, .int .i64 f.sb, .int .i64 (-1), .int .u16 0, .int .u16 65535, .int .u16 0, .int .u16 65535] rfl rfl (BY1.out.at_ 1 rfl) rfl sz42 (by simp) (by simp [Value.oneCell']) rfl (fun w1 hp => ?_)
  have BY2 : Aside0 (Hand.Bx w w1 [((b 5), 77, #[.int .u32 f.da, .int .i64 f.db, .int .u32 0, .int .i64 0, .int .i64 (-1), .int .u16 0, .int .u16 65535, .int .u16 0, .int .u16 65535]), ((b 6), 77, #[.int .u32 0, .int .i64 0, .int .u32 f.sa, .int .i64 f.sb, .int .i64 (-1), .int .u16 0, .int .u16 65535, .int .u16 0, .int .u16 65535]), ((b 7), 77, #[.int .u32 0, .int .i64 0, .int .u32 0, .int .i64 0, .int .i64 (-1), .int .u16 0, .int .u16 65535, .int .u16 0, .int .u16 65535]), ((b 8), 77, #[.int .u32 0, .int .i64 0, .int .u32 0, .int .i64 0, .int .i64 (-1), .int .u16 0, .int .u16 65535, .int .u16 0, .int .u16 65535]), ((b 9), 77, #[.int .u32 0, .int .i64 0, .int .u32 0, .int .i64 0, .int .i64 (-1), .int .u16 0, .int .u16 65535, .int .u16 0, .int .u16 65535]), (ga, 77, #[.int .u32 0, .int .i64 0, .int .u32 0, .int .i64 0, .int .i64 (-1), .int .u16 0, .int .u16 65535, .int .u16 0, .int .u16 65535]), (gh, 67, #[.int .u32 h.dst, .int .u32 h.src, .int .u8 h.pr, .int .u16 h.sp, .int .u16 h.dp]), (gf, 77, #[.int .u32 f.da, .int .i64 f.db, .int .u32 f.sa, .int .i64 f.sb, .int .i64 f.pr, .int .u16 f.sl, .int .u16 f.sh, .int .u16 f.dl, .int .u16 f.dh])]) := ⟨BY1.out.put 1 rfl hp⟩
  clear hp BY1
  refine hK.out _ _ ((BY2.out.at_ 7 rfl)) (fun hHeld => ?_)
  clear hK K
  refine pure_ (i := 14) (N := some 36) (v := ?_) (a' := ?_) #[true, true, true, true, true, true, true, true, true, true, true, true, true, true, true, false, false, false, false, false] rfl rfl (any_of HT_.out (by kernel_rfl)) (fun _ _ _ h => h) (Or.inl ⟨by rfl, ?_⟩) ?_ ?_
  rotate_left
  · intro w'
    go_simp
    with_reducible rfl
  rotate_left
  · simp only [Act.put, List.setIfInBounds_toArray, List.set_cons_zero, List.set_cons_succ, i64_w, i32_w]
    rfl
  refine one_ (i := 15) (N := none) #[true, true, true, true, true, true, true, true, true, true, true, true, true, true, true, true, false, false, false, false] rfl rfl (one_of HT_.out (by kernel_rfl)) (by decide) (fun K hK => ?_)
  refine Hand.store_step (by rfl) rfl 3 (.tmp 36) (.tmp 29) rfl [.int .i64 f.pr] #[.int .u32 0, .int .i64 0, .int .u32 0, .int .i64 0, .int .i64 f.pr, .int .u16 0, .int .u16 65535, .int .u16 0, .int .u16 65535] rfl rfl (BY2.out.at_ 2 rfl) rfl sz3 (by simp) (by simp [Value.oneCell']) rfl (fun w1 hp => ?_)
  have BY3 : Aside0 (Hand.Bx w w1 [((b 5), 77, #[.int .u32 f.da, .int .i64 f.db, .int .u32 0, .int .i64 0, .int .i64 (-1), .int .u16 0, .int .u16 65535, .int .u16 0, .int .u16 65535]), ((b 6), 77, #[.int .u32 0, .int .i64 0, .int .u32 f.sa, .int .i64 f.sb, .int .i64 (-1), .int .u16 0, .int .u16 65535, .int .u16 0, .int .u16 65535]), ((b 7), 77, #[.int .u32 0, .int .i64 0, .int .u32 0, .int .i64 0, .int .i64 f.pr, .int .u16 0, .int .u16 65535, .int .u16 0, .int .u16 65535]), ((b 8), 77, #[.int .u32 0, .int .i64 0, .int .u32 0, .int .i64 0, .int .i64 (-1), .int .u16 0, .int .u16 65535, .int .u16 0, .int .u16 65535]), ((b 9), 77, #[.int .u32 0, .int .i64 0, .int .u32 0, .int .i64 0, .int .i64 (-1), .int .u16 0, .int .u16 65535, .int .u16 0, .int .u16 65535]), (ga, 77, #[.int .u32 0, .int .i64 0, .int .u32 0, .int .i64 0, .int .i64 (-1), .int .u16 0, .int .u16 65535, .int .u16 0, .int .u16 65535]), (gh, 67, #[.int .u32 h.dst, .int .u32 h.src, .int .u8 h.pr, .int .u16 h.sp, .int .u16 h.dp]), (gf, 77, #[.int .u32 f.da, .int .i64 f.db, .int .u32 f.sa, .int .i64 f.sb, .int .i64 f.pr, .int .u16 f.sl, .int .u16 f.sh, .int .u16 f.dl, .int .u16 f.dh])]) := ⟨BY2.out.put 2 rfl hp⟩
  clear hp BY2
  refine hK.out _ _ ((BY3.out.at_ 7 rfl)) (fun hHeld => ?_)
  clear hK K
  refine pure_ (i := 16) (N := some 37) (v := ?_) (a' := ?_) #[true, true, true, true, true, true, true, true, true, true, true, true, true, true, true, true, true, false, false, false] rfl rfl (any_of HT_.out (by kernel_rfl)) (fun _ _ _ h => h) (Or.inl ⟨by rfl, ?_⟩) ?_ ?_
  rotate_left
  · intro w'
    go_simp
    with_reducible rfl
  rotate_left
  · simp only [Act.put, List.setIfInBounds_toArray, List.set_cons_zero, List.set_cons_succ, i64_w, i32_w]
    rfl
  refine one_ (i := 17) (N := none) #[true, true, true, true, true, true, true, true, true, true, true, true, true, true, true, true, true, true, false, false] rfl rfl (one_of HT_.out (by kernel_rfl)) (by decide) (fun K hK => ?_)
  refine Hand.store_step (by rfl) rfl 61 (.tmp 37) (.tmp 31) rfl [.int .u16 f.sl, .int .u16 f.sh] #[.int .u32 0, .int .i64 0, .int .u32 0, .int .i64 0, .int .i64 (-1), .int .u16 f.sl, .int .u16 f.sh, .int .u16 0, .int .u16 65535] rfl rfl (BY3.out.at_ 3 rfl) rfl sz61 (by simp) (by simp [Value.oneCell']) rfl (fun w1 hp => ?_)
  have BY4 : Aside0 (Hand.Bx w w1 [((b 5), 77, #[.int .u32 f.da, .int .i64 f.db, .int .u32 0, .int .i64 0, .int .i64 (-1), .int .u16 0, .int .u16 65535, .int .u16 0, .int .u16 65535]), ((b 6), 77, #[.int .u32 0, .int .i64 0, .int .u32 f.sa, .int .i64 f.sb, .int .i64 (-1), .int .u16 0, .int .u16 65535, .int .u16 0, .int .u16 65535]), ((b 7), 77, #[.int .u32 0, .int .i64 0, .int .u32 0, .int .i64 0, .int .i64 f.pr, .int .u16 0, .int .u16 65535, .int .u16 0, .int .u16 65535]), ((b 8), 77, #[.int .u32 0, .int .i64 0, .int .u32 0, .int .i64 0, .int .i64 (-1), .int .u16 f.sl, .int .u16 f.sh, .int .u16 0, .int .u16 65535]), ((b 9), 77, #[.int .u32 0, .int .i64 0, .int .u32 0, .int .i64 0, .int .i64 (-1), .int .u16 0, .int .u16 65535, .int .u16 0, .int .u16 65535]), (ga, 77, #[.int .u32 0, .int .i64 0, .int .u32 0, .int .i64 0, .int .i64 (-1), .int .u16 0, .int .u16 65535, .int .u16 0, .int .u16 65535]), (gh, 67, #[.int .u32 h.dst, .int .u32 h.src, .int .u8 h.pr, .int .u16 h.sp, .int .u16 h.dp]), (gf, 77, #[.int .u32 f.da, .int .i64 f.db, .int .u32 f.sa, .int .i64 f.sb, .int .i64 f.pr, .int .u16 f.sl, .int .u16 f.sh, .int .u16 f.dl, .int .u16 f.dh])]) := ⟨BY3.out.put 3 rfl hp⟩
  clear hp BY3
  refine hK.out _ _ ((BY4.out.at_ 7 rfl)) (fun hHeld => ?_)
  clear hK K
  refine pure_ (i := 18) (N := some 38) (v := ?_) (a' := ?_) #[true, true, true, true, true, true, true, true, true, true, true, true, true, true, true, true, true, true, true, false] rfl rfl (any_of HT_.out (by kernel_rfl)) (fun _ _ _ h => h) (Or.inl ⟨by rfl, ?_⟩) ?_ ?_
  rotate_left
  · intro w'
    go_simp
    with_reducible rfl
  rotate_left
  · simp only [Act.put, List.setIfInBounds_toArray, List.set_cons_zero, List.set_cons_succ, i64_w, i32_w]
    rfl
  refine one_ (i := 19) (N := none) #[true, true, true, true, true, true, true, true, true, true, true, true, true, true, true, true, true, true, true, true] rfl rfl (one_of HT_.out (by kernel_rfl)) (by decide) (fun K hK => ?_)
  refine Hand.store_step (by rfl) rfl 61 (.tmp 38) (.tmp 33) rfl [.int .u16 f.dl, .int .u16 f.dh] #[.int .u32 0, .int .i64 0, .int .u32 0, .int .i64 0, .int .i64 (-1), .int .u16 0, .int .u16 65535, .int .u16 f.dl, .int .u16 f.dh] rfl rfl (BY4.out.at_ 4 rfl) rfl sz61 (by simp) (by simp [Value.oneCell']) rfl (fun w1 hp => ?_)
  have BY5 : Aside0 (Hand.Bx w w1 [((b 5), 77, #[.int .u32 f.da, .int .i64 f.db, .int .u32 0, .int .i64 0, .int .i64 (-1), .int .u16 0, .int .u16 65535, .int .u16 0, .int .u16 65535]), ((b 6), 77, #[.int .u32 0, .int .i64 0, .int .u32 f.sa, .int .i64 f.sb, .int .i64 (-1), .int .u16 0, .int .u16 65535, .int .u16 0, .int .u16 65535]), ((b 7), 77, #[.int .u32 0, .int .i64 0, .int .u32 0, .int .i64 0, .int .i64 f.pr, .int .u16 0, .int .u16 65535, .int .u16 0, .int .u16 65535]), ((b 8), 77, #[.int .u32 0, .int .i64 0, .int .u32 0, .int .i64 0, .int .i64 (-1), .int .u16 f.sl, .int .u16 f.sh, .int .u16 0, .int .u16 65535]), ((b 9), 77, #[.int .u32 0, .int .i64 0, .int .u32 0, .int .i64 0, .int .i64 (-1), .int .u16 0, .int .u16 65535, .int .u16 f.dl, .int .u16 f.dh]), (ga, 77, #[.int .u32 0, .int .i64 0, .int .u32 0, .int .i64 0, .int .i64 (-1), .int .u16 0, .int .u16 65535, .int .u16 0, .int .u16 65535]), (gh, 67, #[.int .u32 h.dst, .int .u32 h.src, .int .u8 h.pr, .int .u16 h.sp, .int .u16 h.dp]), (gf, 77, #[.int .u32 f.da, .int .i64 f.db, .int .u32 f.sa, .int .i64 f.sb, .int .i64 f.pr, .int .u16 f.sl, .int .u16 f.sh, .int .u16 f.dl, .int .u16 f.dh])]) := ⟨BY4.out.put 4 rfl hp⟩
  clear hp BY4
  refine hK.out _ _ ((BY5.out.at_ 7 rfl)) (fun hHeld => ?_)
  clear hK K
  refine done_ (done_of HT_.out (by kernel_rfl)) ?_
  clear hHeld HT_ HW_
  go_wp2_with (first
    | ((with_reducible refine gate_dst (N := 39) rfl ?_); refine wpList_load_row rfl 77 (.tmp 6) rfl _ rfl _ _ _ _ (BY5.out.at_ 0 rfl) Tryd.underlying77 rfl sz77 ?_)
    | ((with_reducible refine gate_dst (N := 40) rfl ?_); refine wpList_load_row rfl 77 (.tmp 7) rfl _ rfl _ _ _ _ (BY5.out.at_ 1 rfl) Tryd.underlying77 rfl sz77 ?_)
    | ((with_reducible refine gate_dst (N := 41) rfl ?_); refine wpList_load_row rfl 77 (.tmp 8) rfl _ rfl _ _ _ _ (BY5.out.at_ 2 rfl) Tryd.underlying77 rfl sz77 ?_)
    | ((with_reducible refine gate_dst (N := 42) rfl ?_); refine wpList_load_row rfl 77 (.tmp 9) rfl _ rfl _ _ _ _ (BY5.out.at_ 3 rfl) Tryd.underlying77 rfl sz77 ?_)
    | ((with_reducible refine gate_dst (N := 43) rfl ?_); refine wpList_load_row rfl 77 (.tmp 10) rfl _ rfl _ _ _ _ (BY5.out.at_ 4 rfl) Tryd.underlying77 rfl sz77 ?_)
    | ((with_reducible refine gate_dst (N := 44) rfl ?_); refine Kd.R_lit k77 _ 77 ?hg (N := 44) ?hd (xs := [(toS (p1 f)), (toS (p2 f)), (toS (p3 f)), (toS (p4 f)), (toS (p5 f))]) (inner := [.int .u32 f.da, .int .i64 f.db, .int .u32 0, .int .i64 0, .int .i64 (-1), .int .u16 0, .int .u16 65535, .int .u16 0, .int .u16 65535, .int .u32 0, .int .i64 0, .int .u32 f.sa, .int .i64 f.sb, .int .i64 (-1), .int .u16 0, .int .u16 65535, .int .u16 0, .int .u16 65535, .int .u32 0, .int .i64 0, .int .u32 0, .int .i64 0, .int .i64 f.pr, .int .u16 0, .int .u16 65535, .int .u16 0, .int .u16 65535, .int .u32 0, .int .i64 0, .int .u32 0, .int .i64 0, .int .i64 (-1), .int .u16 f.sl, .int .u16 f.sh, .int .u16 0, .int .u16 65535, .int .u32 0, .int .i64 0, .int .u32 0, .int .i64 0, .int .i64 (-1), .int .u16 0, .int .u16 65535, .int .u16 f.dl, .int .u16 f.dh]) (ok := fun _ => True) (okp := fun _ => True) ?hr ?hp (fun _ hk => hk) trivial (Below.refl _ _) (Nat.le_refl _) (by simp) ?_; (case hd => rfl); (case hg => rfl); (case hr => first | (go_simp; done) | (go_simp; rfl)); (case hp => exact Reps.c9 (show Kd.M k77 _ _ _ (toS (p1 f)) [.int .u32 f.da, .int .i64 f.db, .int .u32 0, .int .i64 0, .int .i64 (-1), .int .u16 0, .int .u16 65535, .int .u16 0, .int .u16 65535] from k77_mkM _ _ _ (toS (p1 f))) (Reps.c9 (show Kd.M k77 _ _ _ (toS (p2 f)) [.int .u32 0, .int .i64 0, .int .u32 f.sa, .int .i64 f.sb, .int .i64 (-1), .int .u16 0, .int .u16 65535, .int .u16 0, .int .u16 65535] from k77_mkM _ _ _ (toS (p2 f))) (Reps.c9 (show Kd.M k77 _ _ _ (toS (p3 f)) [.int .u32 0, .int .i64 0, .int .u32 0, .int .i64 0, .int .i64 f.pr, .int .u16 0, .int .u16 65535, .int .u16 0, .int .u16 65535] from k77_mkM _ _ _ (toS (p3 f))) (Reps.c9 (show Kd.M k77 _ _ _ (toS (p4 f)) [.int .u32 0, .int .i64 0, .int .u32 0, .int .i64 0, .int .i64 (-1), .int .u16 f.sl, .int .u16 f.sh, .int .u16 0, .int .u16 65535] from k77_mkM _ _ _ (toS (p4 f))) (Reps.c9 (show Kd.M k77 _ _ _ (toS (p5 f)) [.int .u32 0, .int .i64 0, .int .u32 0, .int .i64 0, .int .i64 (-1), .int .u16 0, .int .u16 65535, .int .u16 f.dl, .int .u16 f.dh] from k77_mkM _ _ _ (toS (p5 f))) (Reps.none _ 9)))))); intro v9 w9 ho hb9 hg9 hx9; obtain ⟨A9, c9, e9, hc9, hr9⟩ := Kd.R_reads ho; replace hr9 : Kd.C k77 w9 A9 5 (parts f) := hr9; replace e9 : v9 = .slice A9 5 c9 := e9; subst e9; have CR := Aside0.mk hr9; have BZ : Aside0 (Hand.Bx w w9 [(ga, 77, #[.int .u32 0, .int .i64 0, .int .u32 0, .int .i64 0, .int .i64 (-1), .int .u16 0, .int .u16 65535, .int .u16 0, .int .u16 65535]), (gh, 67, #[.int .u32 h.dst, .int .u32 h.src, .int .u8 h.pr, .int .u16 h.sp, .int .u16 h.dp]), (gf, 77, #[.int .u32 f.da, .int .i64 f.db, .int .u32 f.sa, .int .i64 f.sb, .int .i64 f.pr, .int .u16 f.sl, .int .u16 f.sh, .int .u16 f.dl, .int .u16 f.dh])]) := ⟨(BY5.out.below hb9).rest 5⟩; clear ho hb9 hg9 hx9 hc9 hr9))
  clear BY5
  go_loopg [11, 46] 5 (fun kq v11 v46 wl => ∃ i : Nat, i + kq = 5 ∧ v46 = .int .i64 i ∧ v11 = .bool (acc f h i) ∧ Aside0 (Kd.C k77 wl A9 5 (parts f)) ∧ Aside0 (Hand.Bx w wl [(ga, 77, #[.int .u32 0, .int .i64 0, .int .u32 0, .int .i64 0, .int .i64 (-1), .int .u16 0, .int .u16 65535, .int .u16 0, .int .u16 65535]), (gh, 67, #[.int .u32 h.dst, .int .u32 h.src, .int .u8 h.pr, .int .u16 h.sp, .int .u16 h.dp]), (gf, 77, #[.int .u32 f.da, .int .i64 f.db, .int .u32 f.sa, .int .i64 f.sb, .int .i64 f.pr, .int .u16 f.sl, .int .u16 f.sh, .int .u16 f.dl, .int .u16 f.dh])]))
  case atStart => exact ⟨0, by omega, rfl, rfl, CR, BZ⟩
  case round =>
    clear CR BZ
    obtain ⟨i, hi, rfl, rfl, CR, BZ⟩ := hrel
    have HI := Aside0.mk hi
    by_cases hlt : i < 5
    · have hcn : decide ((i : Int) < 5) = true := decide_eq_true (by omega)
      have p : 0 ≤ (i : Int) := by omega
      have q : (i : Int) < 5 := by omega
      obtain ⟨ad, e1, hx0, hx1, hx2, hx3, hx4, hx5, hx6, hx7, hx8⟩ := at_T77 CR.out (i : Int) p q
      cases e1
      have e2 : (i : Int).toNat = i := by omega
      rw [show rd_T77 (parts f) (i : Int) = toS (pv f i) by unfold rd_T77; rw [e2]; exact parts_at f hlt] at hx0 hx1 hx2 hx3 hx4 hx5 hx6 hx7 hx8
      rw [e2] at hx0 hx1 hx2 hx3 hx4 hx5 hx6 hx7 hx8
      have hok := ok_pv O.out i
      have hacc : acc f h (i + 1) = (acc f h i && matchB (pv f i) h) := rfl
      have HWI := Aside0.mk (show wrap64 ((i : Int) + 1) = ((i + 1 : Nat) : Int) by unfold wrap64; omega)
      have HLT := Aside0.mk hlt
      generalize pv f i = x at hx0 hx1 hx2 hx3 hx4 hx5 hx6 hx7 hx8 hok hacc
      replace hx0 : wr.cell? (ad.add (i * 9)) = some (.int .u32 x.da) := hx0
      replace hx1 : wr.cell? ⟨(ad.add (i * 9)).block, (ad.add (i * 9)).off + 1, none⟩ = some (.int .i64 x.db) := hx1
      replace hx2 : wr.cell? ⟨(ad.add (i * 9)).block, (ad.add (i * 9)).off + 2, none⟩ = some (.int .u32 x.sa) := hx2
      replace hx3 : wr.cell? ⟨(ad.add (i * 9)).block, (ad.add (i * 9)).off + 3, none⟩ = some (.int .i64 x.sb) := hx3
      replace hx4 : wr.cell? ⟨(ad.add (i * 9)).block, (ad.add (i * 9)).off + 4, none⟩ = some (.int .i64 x.pr) := hx4
      replace hx5 : wr.cell? ⟨(ad.add (i * 9)).block, (ad.add (i * 9)).off + 5, none⟩ = some (.int .u16 x.sl) := hx5
      replace hx6 : wr.cell? ⟨(ad.add (i * 9)).block, (ad.add (i * 9)).off + 6, none⟩ = some (.int .u16 x.sh) := hx6
      replace hx7 : wr.cell? ⟨(ad.add (i * 9)).block, (ad.add (i * 9)).off + 7, none⟩ = some (.int .u16 x.dl) := hx7
      replace hx8 : wr.cell? ⟨(ad.add (i * 9)).block, (ad.add (i * 9)).off + 8, none⟩ = some (.int .u16 x.dh) := hx8
      have E1 := Aside0.mk (part_check hok (k := 200) (Nat.le_refl _))
      have E2 := Aside0.mk (part_meet hok)
      have E3 := Aside0.mk (part_match hok HB.out)
      have HA := Aside0.mk hacc
      replace p := eq_true p
      replace q := eq_true q
      clear hi hlt e2 hok hacc
      obtain ⟨c, hc⟩ : ∃ c, acc f h i = c := ⟨_, rfl⟩
      rw [hc]
      have HCC := Aside0.mk hc
      clear hc
      cases c with
      | true =>
        go_wp2_with (first
          | ((with_reducible refine gate_dst (N := 13) rfl ?_); refine box_event ?hg (N := 13) ?hd (cs := #[.int .u32 0, .int .i64 0, .int .u32 0, .int .i64 0, .int .i64 0, .int .u16 0, .int .u16 0, .int .u16 0, .int .u16 0]) (t := 77) ?hr ?_; (case hd => rfl); (case hg => rfl); (case hr => first | (go_simp; done) | (go_simp; rfl)); intro gx hgx wx hbox hb; have B1 := Aside0.mk (BZ.out.cons hb (Nat.le_of_eq hgx.symm) hbox); have D0 := Aside0.mk hb; have GE := Aside0.mk (Nat.le_of_eq hgx.symm); clear hx0 hx1 hx2 hx3 hx4 hx5 hx6 hx7 hx8; clear hgx hbox hb)
          | ((with_reducible refine gate_ (.store 77 (.tmp 13) (.tmp 49)) rfl ?_); refine Hand.wpList_store_blk rfl rfl 77 (.tmp 13) (.tmp 49) rfl [.int .u32 x.da, .int .i64 x.db, .int .u32 x.sa, .int .i64 x.sb, .int .i64 x.pr, .int .u16 x.sl, .int .u16 x.sh, .int .u16 x.dl, .int .u16 x.dh] #[.int .u32 x.da, .int .i64 x.db, .int .u32 x.sa, .int .i64 x.sb, .int .i64 x.pr, .int .u16 x.sl, .int .u16 x.sh, .int .u16 x.dl, .int .u16 x.dh] rfl rfl (B1.out.at_ 0 rfl) rfl sz77 (by simp) (by simp [Value.oneCell']) rfl (fun ws hp => ?_); have B2 : Aside0 (Hand.Bx w ws [(gx, 77, #[.int .u32 x.da, .int .i64 x.db, .int .u32 x.sa, .int .i64 x.sb, .int .i64 x.pr, .int .u16 x.sl, .int .u16 x.sh, .int .u16 x.dl, .int .u16 x.dh]), (ga, 77, #[.int .u32 0, .int .i64 0, .int .u32 0, .int .i64 0, .int .i64 (-1), .int .u16 0, .int .u16 65535, .int .u16 0, .int .u16 65535]), (gh, 67, #[.int .u32 h.dst, .int .u32 h.src, .int .u8 h.pr, .int .u16 h.sp, .int .u16 h.dp]), (gf, 77, #[.int .u32 f.da, .int .i64 f.db, .int .u32 f.sa, .int .i64 f.sb, .int .i64 f.pr, .int .u16 f.sl, .int .u16 f.sh, .int .u16 f.dl, .int .u16 f.dh])]) := ⟨B1.out.put 0 rfl hp⟩; have D1 := Aside0.mk (hp.bl _ D0.out GE.out); clear hp)
          | ((with_reducible refine gate_dst (N := 50) rfl ?_); refine wpList_load_row rfl 77 (.tmp 13) rfl _ rfl _ _ _ _ (B2.out.at_ 0 rfl) Tryd.underlying77 rfl sz77 ?_)
          | (go_at_call 42; (with_reducible refine (filter_Check.calls 200 x.da x.db x.sa x.sb x.pr x.sl x.sh x.dl x.dh 0 _ E1.out).mono ?_); rintro e wx ⟨rfl, hb⟩; have B3 := Aside0.mk (B2.out.below hb); have D2 := Aside0.mk hb; have z0 : wx.cell? ⟨gx, 0, none⟩ = some (.int .u32 x.da) := (blk_cell (B3.out.at_ 0 rfl) 0).trans rfl; have z1 : wx.cell? ⟨gx, 1, none⟩ = some (.int .i64 x.db) := (blk_cell (B3.out.at_ 0 rfl) 1).trans rfl; have z2 : wx.cell? ⟨gx, 2, none⟩ = some (.int .u32 x.sa) := (blk_cell (B3.out.at_ 0 rfl) 2).trans rfl; have z3 : wx.cell? ⟨gx, 3, none⟩ = some (.int .i64 x.sb) := (blk_cell (B3.out.at_ 0 rfl) 3).trans rfl; have z4 : wx.cell? ⟨gx, 4, none⟩ = some (.int .i64 x.pr) := (blk_cell (B3.out.at_ 0 rfl) 4).trans rfl; have z5 : wx.cell? ⟨gx, 5, none⟩ = some (.int .u16 x.sl) := (blk_cell (B3.out.at_ 0 rfl) 5).trans rfl; have z6 : wx.cell? ⟨gx, 6, none⟩ = some (.int .u16 x.sh) := (blk_cell (B3.out.at_ 0 rfl) 6).trans rfl; have z7 : wx.cell? ⟨gx, 7, none⟩ = some (.int .u16 x.dl) := (blk_cell (B3.out.at_ 0 rfl) 7).trans rfl; have z8 : wx.cell? ⟨gx, 8, none⟩ = some (.int .u16 x.dh) := (blk_cell (B3.out.at_ 0 rfl) 8).trans rfl; have y0 : wx.cell? ⟨ga, 0, none⟩ = some (.int .u32 0) := (blk_cell (B3.out.at_ 1 rfl) 0).trans rfl; have y1 : wx.cell? ⟨ga, 1, none⟩ = some (.int .i64 0) := (blk_cell (B3.out.at_ 1 rfl) 1).trans rfl; have y2 : wx.cell? ⟨ga, 2, none⟩ = some (.int .u32 0) := (blk_cell (B3.out.at_ 1 rfl) 2).trans rfl; have y3 : wx.cell? ⟨ga, 3, none⟩ = some (.int .i64 0) := (blk_cell (B3.out.at_ 1 rfl) 3).trans rfl; have y4 : wx.cell? ⟨ga, 4, none⟩ = some (.int .i64 (-1)) := (blk_cell (B3.out.at_ 1 rfl) 4).trans rfl; have y5 : wx.cell? ⟨ga, 5, none⟩ = some (.int .u16 0) := (blk_cell (B3.out.at_ 1 rfl) 5).trans rfl; have y6 : wx.cell? ⟨ga, 6, none⟩ = some (.int .u16 65535) := (blk_cell (B3.out.at_ 1 rfl) 6).trans rfl; have y7 : wx.cell? ⟨ga, 7, none⟩ = some (.int .u16 0) := (blk_cell (B3.out.at_ 1 rfl) 7).trans rfl; have y8 : wx.cell? ⟨ga, 8, none⟩ = some (.int .u16 65535) := (blk_cell (B3.out.at_ 1 rfl) 8).trans rfl; clear hb)
          | (go_at_call 48; (with_reducible refine (filter_Meet.calls 200 x.da x.db x.sa x.sb x.pr x.sl x.sh x.dl x.dh 0 0 0 0 (-1) 0 65535 0 65535 true _ E2.out).mono ?_); rintro e wx ⟨rfl, hb⟩; clear z0 z1 z2 z3 z4 z5 z6 z7 z8 y0 y1 y2 y3 y4 y5 y6 y7 y8; have B4' := Aside0.mk (B3.out.below hb); have B4 : Aside0 (Hand.Bx w wx [(ga, 77, #[.int .u32 0, .int .i64 0, .int .u32 0, .int .i64 0, .int .i64 (-1), .int .u16 0, .int .u16 65535, .int .u16 0, .int .u16 65535]), (gh, 67, #[.int .u32 h.dst, .int .u32 h.src, .int .u8 h.pr, .int .u16 h.sp, .int .u16 h.dp]), (gf, 77, #[.int .u32 f.da, .int .i64 f.db, .int .u32 f.sa, .int .i64 f.sb, .int .i64 f.pr, .int .u16 f.sl, .int .u16 f.sh, .int .u16 f.dl, .int .u16 f.dh])]) := ⟨B4'.out.rest 1⟩; have D3 := Aside0.mk hb; have z0 : wx.cell? ⟨gx, 0, none⟩ = some (.int .u32 x.da) := (blk_cell (B4'.out.at_ 0 rfl) 0).trans rfl; have z1 : wx.cell? ⟨gx, 1, none⟩ = some (.int .i64 x.db) := (blk_cell (B4'.out.at_ 0 rfl) 1).trans rfl; have z2 : wx.cell? ⟨gx, 2, none⟩ = some (.int .u32 x.sa) := (blk_cell (B4'.out.at_ 0 rfl) 2).trans rfl; have z3 : wx.cell? ⟨gx, 3, none⟩ = some (.int .i64 x.sb) := (blk_cell (B4'.out.at_ 0 rfl) 3).trans rfl; have z4 : wx.cell? ⟨gx, 4, none⟩ = some (.int .i64 x.pr) := (blk_cell (B4'.out.at_ 0 rfl) 4).trans rfl; have z5 : wx.cell? ⟨gx, 5, none⟩ = some (.int .u16 x.sl) := (blk_cell (B4'.out.at_ 0 rfl) 5).trans rfl; have z6 : wx.cell? ⟨gx, 6, none⟩ = some (.int .u16 x.sh) := (blk_cell (B4'.out.at_ 0 rfl) 6).trans rfl; have z7 : wx.cell? ⟨gx, 7, none⟩ = some (.int .u16 x.dl) := (blk_cell (B4'.out.at_ 0 rfl) 7).trans rfl; have z8 : wx.cell? ⟨gx, 8, none⟩ = some (.int .u16 x.dh) := (blk_cell (B4'.out.at_ 0 rfl) 8).trans rfl; have v0 : wx.cell? ⟨gh, 0, none⟩ = some (.int .u32 h.dst) := (blk_cell (B4'.out.at_ 2 rfl) 0).trans rfl; have v1 : wx.cell? ⟨gh, 1, none⟩ = some (.int .u32 h.src) := (blk_cell (B4'.out.at_ 2 rfl) 1).trans rfl; have v2 : wx.cell? ⟨gh, 2, none⟩ = some (.int .u8 h.pr) := (blk_cell (B4'.out.at_ 2 rfl) 2).trans rfl; have v3 : wx.cell? ⟨gh, 3, none⟩ = some (.int .u16 h.sp) := (blk_cell (B4'.out.at_ 2 rfl) 3).trans rfl; have v4 : wx.cell? ⟨gh, 4, none⟩ = some (.int .u16 h.dp) := (blk_cell (B4'.out.at_ 2 rfl) 4).trans rfl; clear hb)
          | (go_at_call 44; (with_reducible refine (filter_Match.calls x.da x.db x.sa x.sb x.pr x.sl x.sh x.dl x.dh h.dst h.src h.pr h.sp h.dp _ _ E3.out).mono ?_); rintro e wx ⟨rfl, hb⟩; clear z0 z1 z2 z3 z4 z5 z6 z7 z8 v0 v1 v2 v3 v4; have B5 := Aside0.mk (B4.out.below hb); have D4 := Aside0.mk hb; clear hb))
        go_roundg (5 - (i + 1))
        case measure => have := HI.out; have := HLT.out; omega
        case rel => exact ⟨i + 1, by have := HI.out; have := HLT.out; omega, by rw [HWI.out], by rw [HA.out, HCC.out, Bool.true_and], ⟨Kd.C_below (Kd.C_below (Kd.C_below (Kd.C_below CR.out D1.out) D2.out) D3.out) D4.out⟩, B5⟩
      | false =>
        go_wp2_with (first
          | ((with_reducible refine gate_dst (N := 13) rfl ?_); refine box_event ?hg (N := 13) ?hd (cs := #[.int .u32 0, .int .i64 0, .int .u32 0, .int .i64 0, .int .i64 0, .int .u16 0, .int .u16 0, .int .u16 0, .int .u16 0]) (t := 77) ?hr ?_; (case hd => rfl); (case hg => rfl); (case hr => first | (go_simp; done) | (go_simp; rfl)); intro gx hgx wx hbox hb; have B1 := Aside0.mk (BZ.out.cons hb (Nat.le_of_eq hgx.symm) hbox); have D0 := Aside0.mk hb; have GE := Aside0.mk (Nat.le_of_eq hgx.symm); clear hx0 hx1 hx2 hx3 hx4 hx5 hx6 hx7 hx8; clear hgx hbox hb)
          | ((with_reducible refine gate_ (.store 77 (.tmp 13) (.tmp 49)) rfl ?_); refine Hand.wpList_store_blk rfl rfl 77 (.tmp 13) (.tmp 49) rfl [.int .u32 x.da, .int .i64 x.db, .int .u32 x.sa, .int .i64 x.sb, .int .i64 x.pr, .int .u16 x.sl, .int .u16 x.sh, .int .u16 x.dl, .int .u16 x.dh] #[.int .u32 x.da, .int .i64 x.db, .int .u32 x.sa, .int .i64 x.sb, .int .i64 x.pr, .int .u16 x.sl, .int .u16 x.sh, .int .u16 x.dl, .int .u16 x.dh] rfl rfl (B1.out.at_ 0 rfl) rfl sz77 (by simp) (by simp [Value.oneCell']) rfl (fun ws hp => ?_); have B2 : Aside0 (Hand.Bx w ws [(gx, 77, #[.int .u32 x.da, .int .i64 x.db, .int .u32 x.sa, .int .i64 x.sb, .int .i64 x.pr, .int .u16 x.sl, .int .u16 x.sh, .int .u16 x.dl, .int .u16 x.dh]), (ga, 77, #[.int .u32 0, .int .i64 0, .int .u32 0, .int .i64 0, .int .i64 (-1), .int .u16 0, .int .u16 65535, .int .u16 0, .int .u16 65535]), (gh, 67, #[.int .u32 h.dst, .int .u32 h.src, .int .u8 h.pr, .int .u16 h.sp, .int .u16 h.dp]), (gf, 77, #[.int .u32 f.da, .int .i64 f.db, .int .u32 f.sa, .int .i64 f.sb, .int .i64 f.pr, .int .u16 f.sl, .int .u16 f.sh, .int .u16 f.dl, .int .u16 f.dh])]) := ⟨B1.out.put 0 rfl hp⟩; have D1 := Aside0.mk (hp.bl _ D0.out GE.out); clear hp)
          | ((with_reducible refine gate_dst (N := 50) rfl ?_); refine wpList_load_row rfl 77 (.tmp 13) rfl _ rfl _ _ _ _ (B2.out.at_ 0 rfl) Tryd.underlying77 rfl sz77 ?_)
          | (go_at_call 42; (with_reducible refine (filter_Check.calls 200 x.da x.db x.sa x.sb x.pr x.sl x.sh x.dl x.dh 0 _ E1.out).mono ?_); rintro e wx ⟨rfl, hb⟩; have B3 := Aside0.mk (B2.out.below hb); have D2 := Aside0.mk hb; have z0 : wx.cell? ⟨gx, 0, none⟩ = some (.int .u32 x.da) := (blk_cell (B3.out.at_ 0 rfl) 0).trans rfl; have z1 : wx.cell? ⟨gx, 1, none⟩ = some (.int .i64 x.db) := (blk_cell (B3.out.at_ 0 rfl) 1).trans rfl; have z2 : wx.cell? ⟨gx, 2, none⟩ = some (.int .u32 x.sa) := (blk_cell (B3.out.at_ 0 rfl) 2).trans rfl; have z3 : wx.cell? ⟨gx, 3, none⟩ = some (.int .i64 x.sb) := (blk_cell (B3.out.at_ 0 rfl) 3).trans rfl; have z4 : wx.cell? ⟨gx, 4, none⟩ = some (.int .i64 x.pr) := (blk_cell (B3.out.at_ 0 rfl) 4).trans rfl; have z5 : wx.cell? ⟨gx, 5, none⟩ = some (.int .u16 x.sl) := (blk_cell (B3.out.at_ 0 rfl) 5).trans rfl; have z6 : wx.cell? ⟨gx, 6, none⟩ = some (.int .u16 x.sh) := (blk_cell (B3.out.at_ 0 rfl) 6).trans rfl; have z7 : wx.cell? ⟨gx, 7, none⟩ = some (.int .u16 x.dl) := (blk_cell (B3.out.at_ 0 rfl) 7).trans rfl; have z8 : wx.cell? ⟨gx, 8, none⟩ = some (.int .u16 x.dh) := (blk_cell (B3.out.at_ 0 rfl) 8).trans rfl; have y0 : wx.cell? ⟨ga, 0, none⟩ = some (.int .u32 0) := (blk_cell (B3.out.at_ 1 rfl) 0).trans rfl; have y1 : wx.cell? ⟨ga, 1, none⟩ = some (.int .i64 0) := (blk_cell (B3.out.at_ 1 rfl) 1).trans rfl; have y2 : wx.cell? ⟨ga, 2, none⟩ = some (.int .u32 0) := (blk_cell (B3.out.at_ 1 rfl) 2).trans rfl; have y3 : wx.cell? ⟨ga, 3, none⟩ = some (.int .i64 0) := (blk_cell (B3.out.at_ 1 rfl) 3).trans rfl; have y4 : wx.cell? ⟨ga, 4, none⟩ = some (.int .i64 (-1)) := (blk_cell (B3.out.at_ 1 rfl) 4).trans rfl; have y5 : wx.cell? ⟨ga, 5, none⟩ = some (.int .u16 0) := (blk_cell (B3.out.at_ 1 rfl) 5).trans rfl; have y6 : wx.cell? ⟨ga, 6, none⟩ = some (.int .u16 65535) := (blk_cell (B3.out.at_ 1 rfl) 6).trans rfl; have y7 : wx.cell? ⟨ga, 7, none⟩ = some (.int .u16 0) := (blk_cell (B3.out.at_ 1 rfl) 7).trans rfl; have y8 : wx.cell? ⟨ga, 8, none⟩ = some (.int .u16 65535) := (blk_cell (B3.out.at_ 1 rfl) 8).trans rfl; clear hb)
          | (go_at_call 48; (with_reducible refine (filter_Meet.calls 200 x.da x.db x.sa x.sb x.pr x.sl x.sh x.dl x.dh 0 0 0 0 (-1) 0 65535 0 65535 true _ E2.out).mono ?_); rintro e wx ⟨rfl, hb⟩; clear z0 z1 z2 z3 z4 z5 z6 z7 z8 y0 y1 y2 y3 y4 y5 y6 y7 y8; have B4' := Aside0.mk (B3.out.below hb); have B4 : Aside0 (Hand.Bx w wx [(ga, 77, #[.int .u32 0, .int .i64 0, .int .u32 0, .int .i64 0, .int .i64 (-1), .int .u16 0, .int .u16 65535, .int .u16 0, .int .u16 65535]), (gh, 67, #[.int .u32 h.dst, .int .u32 h.src, .int .u8 h.pr, .int .u16 h.sp, .int .u16 h.dp]), (gf, 77, #[.int .u32 f.da, .int .i64 f.db, .int .u32 f.sa, .int .i64 f.sb, .int .i64 f.pr, .int .u16 f.sl, .int .u16 f.sh, .int .u16 f.dl, .int .u16 f.dh])]) := ⟨B4'.out.rest 1⟩; have D3 := Aside0.mk hb; have z0 : wx.cell? ⟨gx, 0, none⟩ = some (.int .u32 x.da) := (blk_cell (B4'.out.at_ 0 rfl) 0).trans rfl; have z1 : wx.cell? ⟨gx, 1, none⟩ = some (.int .i64 x.db) := (blk_cell (B4'.out.at_ 0 rfl) 1).trans rfl; have z2 : wx.cell? ⟨gx, 2, none⟩ = some (.int .u32 x.sa) := (blk_cell (B4'.out.at_ 0 rfl) 2).trans rfl; have z3 : wx.cell? ⟨gx, 3, none⟩ = some (.int .i64 x.sb) := (blk_cell (B4'.out.at_ 0 rfl) 3).trans rfl; have z4 : wx.cell? ⟨gx, 4, none⟩ = some (.int .i64 x.pr) := (blk_cell (B4'.out.at_ 0 rfl) 4).trans rfl; have z5 : wx.cell? ⟨gx, 5, none⟩ = some (.int .u16 x.sl) := (blk_cell (B4'.out.at_ 0 rfl) 5).trans rfl; have z6 : wx.cell? ⟨gx, 6, none⟩ = some (.int .u16 x.sh) := (blk_cell (B4'.out.at_ 0 rfl) 6).trans rfl; have z7 : wx.cell? ⟨gx, 7, none⟩ = some (.int .u16 x.dl) := (blk_cell (B4'.out.at_ 0 rfl) 7).trans rfl; have z8 : wx.cell? ⟨gx, 8, none⟩ = some (.int .u16 x.dh) := (blk_cell (B4'.out.at_ 0 rfl) 8).trans rfl; have v0 : wx.cell? ⟨gh, 0, none⟩ = some (.int .u32 h.dst) := (blk_cell (B4'.out.at_ 2 rfl) 0).trans rfl; have v1 : wx.cell? ⟨gh, 1, none⟩ = some (.int .u32 h.src) := (blk_cell (B4'.out.at_ 2 rfl) 1).trans rfl; have v2 : wx.cell? ⟨gh, 2, none⟩ = some (.int .u8 h.pr) := (blk_cell (B4'.out.at_ 2 rfl) 2).trans rfl; have v3 : wx.cell? ⟨gh, 3, none⟩ = some (.int .u16 h.sp) := (blk_cell (B4'.out.at_ 2 rfl) 3).trans rfl; have v4 : wx.cell? ⟨gh, 4, none⟩ = some (.int .u16 h.dp) := (blk_cell (B4'.out.at_ 2 rfl) 4).trans rfl; clear hb))
        go_roundg (5 - (i + 1))
        case measure => have := HI.out; have := HLT.out; omega
        case rel => exact ⟨i + 1, by have := HI.out; have := HLT.out; omega, by rw [HWI.out], by rw [HA.out, HCC.out, Bool.false_and], ⟨Kd.C_below (Kd.C_below (Kd.C_below CR.out D1.out) D2.out) D3.out⟩, B4⟩
    · have hcn : decide ((i : Int) < 5) = false := decide_eq_false (by omega)
      obtain rfl : i = 5 := by omega
      rw [acc_all HB.out]
      have EM := Aside0.mk (part_match O.out HB.out)
      clear hi hlt
      go_wp2_with (first
        | (go_at_call 46; (with_reducible refine (crossbucklaw04_awake.calls 206 true _ (Hand.Good.below true false hGG.out BZ.out.bl rfl rfl) (awake04 (by omega))).mono ?_); rintro e wx ⟨rfl, hb⟩; have B8 := Aside0.mk (BZ.out.below hb); have z0 : wx.cell? ⟨gf, 0, none⟩ = some (.int .u32 f.da) := (blk_cell (B8.out.at_ 2 rfl) 0).trans rfl; have z1 : wx.cell? ⟨gf, 1, none⟩ = some (.int .i64 f.db) := (blk_cell (B8.out.at_ 2 rfl) 1).trans rfl; have z2 : wx.cell? ⟨gf, 2, none⟩ = some (.int .u32 f.sa) := (blk_cell (B8.out.at_ 2 rfl) 2).trans rfl; have z3 : wx.cell? ⟨gf, 3, none⟩ = some (.int .i64 f.sb) := (blk_cell (B8.out.at_ 2 rfl) 3).trans rfl; have z4 : wx.cell? ⟨gf, 4, none⟩ = some (.int .i64 f.pr) := (blk_cell (B8.out.at_ 2 rfl) 4).trans rfl; have z5 : wx.cell? ⟨gf, 5, none⟩ = some (.int .u16 f.sl) := (blk_cell (B8.out.at_ 2 rfl) 5).trans rfl; have z6 : wx.cell? ⟨gf, 6, none⟩ = some (.int .u16 f.sh) := (blk_cell (B8.out.at_ 2 rfl) 6).trans rfl; have z7 : wx.cell? ⟨gf, 7, none⟩ = some (.int .u16 f.dl) := (blk_cell (B8.out.at_ 2 rfl) 7).trans rfl; have z8 : wx.cell? ⟨gf, 8, none⟩ = some (.int .u16 f.dh) := (blk_cell (B8.out.at_ 2 rfl) 8).trans rfl; have v0 : wx.cell? ⟨gh, 0, none⟩ = some (.int .u32 h.dst) := (blk_cell (B8.out.at_ 1 rfl) 0).trans rfl; have v1 : wx.cell? ⟨gh, 1, none⟩ = some (.int .u32 h.src) := (blk_cell (B8.out.at_ 1 rfl) 1).trans rfl; have v2 : wx.cell? ⟨gh, 2, none⟩ = some (.int .u8 h.pr) := (blk_cell (B8.out.at_ 1 rfl) 2).trans rfl; have v3 : wx.cell? ⟨gh, 3, none⟩ = some (.int .u16 h.sp) := (blk_cell (B8.out.at_ 1 rfl) 3).trans rfl; have v4 : wx.cell? ⟨gh, 4, none⟩ = some (.int .u16 h.dp) := (blk_cell (B8.out.at_ 1 rfl) 4).trans rfl; clear hb)
        | (go_at_call 44; (with_reducible refine (filter_Match.calls f.da f.db f.sa f.sb f.pr f.sl f.sh f.dl f.dh h.dst h.src h.pr h.sp h.dp _ _ EM.out).mono ?_); rintro e wx ⟨rfl, hb⟩; clear z0 z1 z2 z3 z4 z5 z6 z7 z8 v0 v1 v2 v3 v4; have B9 := Aside0.mk (B8.out.below hb); clear hb))
      go_ret
      exact ⟨rfl, B9.out.bl⟩
end Go.Proofs.YtloclimoffhbhaaDoor.PFq
