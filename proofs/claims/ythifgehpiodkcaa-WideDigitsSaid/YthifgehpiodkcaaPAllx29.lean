-- Written by wip/myprint.py (this session's own driver); Lean checks it.
import Derived.Test.YthifgehpiodkcaaPAllx0
import Derived.Test.YthifgehpiodkcaaPAllx28
namespace Go.Proofs.Ythifgehpiodkcaa.PAll
open Go.RowKit Go.Proofs.YthifgehpiodkcaaW.PrintWords Go.Proofs.YthifgehpiodkcaaW.PrintLast Go.Proofs.YthifgehpiodkcaaW.PrintMore
attribute [local go_sem] max2_int min2_int max_two min_two max_three min_three max_four min_four   -- for this text's walks alone
set_option linter.unusedVariables false
set_option linter.unusedSimpArgs false

/-! ### wide_Parse: function 10 (by hand) -/
def numberBad (l : List UInt8) : Bool := l.isEmpty || (decide (1 < l.length) && l.headD 0 == 48)
/-- The digits of a text, one by one, into a count of two words; what is wrong first. -/
def wideGo : List UInt8 → Int → Int → Option (Int × Int × Int)
  | [], hi, lo => some (hi, lo, 0)
  | c :: l, hi, lo => if c.toNat < 48 ∨ 57 < c.toNat then some (0, 0, 6) else
    (bits_Mul64.f lo 10).bind fun m => (bits_Mul64.f hi 10).bind fun n => if Hand.addC m.2 ((c.toNat : Int) - 48) 0 ≤ 1 then
      (if IntKind.u64.wrap (IntKind.u64.wrap (n.1 + Hand.addC n.2 m.1 0) + Hand.addC (Hand.addS n.2 m.1 0) 0 (Hand.addC m.2 ((c.toNat : Int) - 48) 0)) > 0 then some (0, 0, 5)
        else wideGo l (Hand.addS (Hand.addS n.2 m.1 0) 0 (Hand.addC m.2 ((c.toNat : Int) - 48) 0)) (Hand.addS m.2 ((c.toNat : Int) - 48) 0)) else none
def wide_Parse.f (a0 : ByteArray) : Option (Int × Int × Int) := if numberBad a0.data.toList = true then some (0, 0, 6) else wideGo a0.data.toList 0 0
theorem wideGo_drop (s : ByteArray) (pos : Nat) (hi lo : Int) (h : pos < s.size) : wideGo (s.data.toList.drop pos) hi lo = wideGo (s[pos] :: s.data.toList.drop (pos + 1)) hi lo := by
  have : s.data.toList.drop pos = s[pos] :: s.data.toList.drop (pos + 1) := by
    rw [List.drop_eq_getElem_cons (by simpa using h)]; rfl
  rw [this]
theorem number_ne {s : ByteArray} (h : 0 < s.size) : s.toList.isEmpty = false ∧ ¬ s.toList = [] := by
  have : ¬ s.toList = [] := by
    rw [ByteArray.toList_eq]
    intro e
    have := congrArg List.length e
    rw [Array.length_toList, List.length_nil] at this
    have h2 : s.size = s.data.size := rfl
    omega
  exact ⟨by simpa using this, this⟩
theorem iterPos_of {w : World} {k : Nat} {s : ByteArray} {p : Nat} (h : w.heap[k]? = some (.stringIter s p)) : w.iterPos k = p := by simp [World.iterPos, h]
set_option maxHeartbeats 4000000 in
set_option maxRecDepth 1000000 in
theorem wide_Parse.calls (a0 : ByteArray) (r1 r2 r3 : Int) (w : World) (h : wide_Parse.f a0 = some (r1, r2, r3)) :
    Calls Try.prog 10 #[.string a0] w fun e w' => e = .returned (.tuple #[.agg #[.int .u64 r1, .int .u64 r2], .int .i64 r3]) ∧ Below w.heap.size w w' := by
  have hu25 := Try.underlying25
  have hadd0 := Hand.add_run0
  have haddC := Hand.add_runC
  have HB := Aside0.mk (Below.refl w.heap.size w)
  have hf : (if numberBad a0.data.toList = true then some ((0 : Int), (0 : Int), (6 : Int)) else wideGo a0.data.toList 0 0) = some (r1, r2, r3) := h
  clear h
  rcases Nat.lt_or_ge 0 a0.size with h0 | h0
  · obtain ⟨e1, e2⟩ := number_ne h0
    have hl : a0.data.toList = a0[0] :: a0.data.toList.drop 1 := by
      have : a0.data.toList.drop 0 = a0[0] :: a0.data.toList.drop 1 := by
        rw [List.drop_eq_getElem_cons (by simpa using h0)]; rfl
      exact this
    have hemp : a0.data.toList.isEmpty = false := by rw [hl]; rfl
    have hhd : a0.data.toList.headD 0 = a0[0] := by rw [hl]; rfl
    have hlen : a0.data.toList.length = a0.size := by simp
    rcases Nat.lt_or_ge 1 a0.size with h1 | h1
    · have h1' : (1 : Int) < a0.size := by omega
      by_cases h2 : a0[0].toNat = 48
      · have h3 : ((a0[0].toNat : Int) == 48) = true := by rw [h2]; rfl
        have h4 : numberBad a0.data.toList = true := by
          unfold numberBad
          rw [hemp, hhd, hlen, Bool.false_or, Bool.and_eq_true, decide_eq_true_iff, beq_iff_eq]
          exact ⟨h1, UInt8.toNat_inj.1 h2⟩
        rw [if_pos h4] at hf
        simp only [Option.some.injEq, Prod.mk.injEq] at hf
        have HE := Aside0.mk hf
        clear hf h4 hl hemp hhd hlen h2
        go_enter Try.func10, Try.ntmps10
        go_wp2_with (first | ((with_reducible refine gate_dst (N := 2) rfl ?_); refine box_event ?hg (N := 2) ?hd (cs := #[.int .u64 0, .int .u64 0]) (t := 25) ?hr ?_; (case hd => rfl); (case hg => rfl); (case hr => first | (go_simp; done) | (go_simp; rfl)); intro g2 hg w2 hbox hb; have B2 := Aside0.mk hbox; have G2 := Aside0.mk (show w.heap.size ≤ g2 by rw [hg]; exact Nat.le_refl _); have HB2 := Aside0.mk (below_step HB.out hb); clear HB; have hz0 := blk_cell B2.out 0; have hz1 := blk_cell B2.out 1; have hy0 := blk_frozen B2.out 0; have hy1 := blk_frozen B2.out 1; clear hb hbox hg))
        refine bodyPost_ret (results_ct rfl _ _ g2 25 #[.int .u64 0, .int .u64 0] (0, 0) _ rfl (blk_put (blk_put B2.out 0 _ rfl) 1 _ rfl) Try.underlying25 rfl (by kernel_rfl)) rfl ?_
        obtain ⟨rfl, rfl, rfl⟩ := HE.out
        exact ⟨rfl, below_set (below_set HB2.out G2.out) G2.out⟩
      · have h3 : ((a0[0].toNat : Int) == 48) = false := by rw [beq_eq_false_iff_ne]; omega
        have h4 : ¬ numberBad a0.data.toList = true := by
          unfold numberBad
          rw [hemp, hhd, Bool.false_or, Bool.and_eq_true, beq_iff_eq]
          exact fun h => h2 (by rw [h.2]; rfl)
        rw [if_neg h4] at hf
        have HF := Aside0.mk hf
        clear hf h4 hl hemp hhd hlen h2
        go_enter Try.func10, Try.ntmps10
        go_wp2_with (first | ((with_reducible refine gate_dst (N := 2) rfl ?_); refine box_event ?hg (N := 2) ?hd (cs := #[.int .u64 0, .int .u64 0]) (t := 25) ?hr ?_; (case hd => rfl); (case hg => rfl); (case hr => first | (go_simp; done) | (go_simp; rfl)); intro g2 hg w2 hbox hb; have B2 := Aside0.mk hbox; have G2 := Aside0.mk (show w.heap.size ≤ g2 by rw [hg]; exact Nat.le_refl _); have HB2 := Aside0.mk (below_step HB.out hb); clear HB; have hz0 := blk_cell B2.out 0; have hz1 := blk_cell B2.out 1; have hy0 := blk_frozen B2.out 0; have hy1 := blk_frozen B2.out 1; clear hb hbox hg) | ((with_reducible refine gate_dst (N := 4) rfl ?_); refine box_event ?hg (N := 4) ?hd (cs := #[.int .u64 0, .int .u64 0]) (t := 25) ?hr ?_; (case hd => rfl); (case hg => rfl); (case hr => first | (go_simp; done) | (go_simp; rfl)); intro g4 hg w4 hbox hb; have B4 := Aside0.mk hbox; have N24 := Aside0.mk (show g2 ≠ g4 by rw [hg]; exact Nat.ne_of_lt (blk_lt B2.out)); have G4 := Aside0.mk (show w.heap.size ≤ g4 by rw [hg]; exact below_size HB2.out); have B2a := Aside0.mk (blk_below B2.out hb); have HB4 := Aside0.mk (below_step HB2.out hb); clear HB2 B2 hz0 hz1 hy0 hy1; clear hb hbox hg))
        have BI := Aside0.mk (below_alloc HB4.out (.stringIter a0 0))
        have I2 := Aside0.mk (blk_alloc B2a.out (.stringIter a0 0))
        have I4 := Aside0.mk (blk_alloc B4.out (.stringIter a0 0))
        have I0 := Aside0.mk (blk_new w4 (.stringIter a0 0))
        have L2 := Aside0.mk (blk_lt B2a.out)
        have L4 := Aside0.mk (blk_lt B4.out)
        have GI := Aside0.mk (below_size HB4.out)
        clear HB4 B2a B4
        change Code.wp _ _ _ _ (w4.alloc (.stringIter a0 0))
        generalize w4.heap.size = gi at I0 L2 L4 GI
        generalize w4.alloc (.stringIter a0 0) = wi at BI I2 I4 I0
        go_loopw [] (fun wr => ∃ (pos : Nat) (hi lo : Int), wr.heap[gi]? = some (.stringIter a0 pos) ∧ wr.heap[g2]? = some (.cells #[.int .u64 0, .int .u64 0] 25 (0, 0)) ∧ wr.heap[g4]? = some (.cells #[.int .u64 hi, .int .u64 lo] 25 (0, 0)) ∧ wideGo (a0.data.toList.drop pos) hi lo = some (r1, r2, r3) ∧ pos ≤ a0.size ∧ Below w.heap.size w wr) (fun wr => a0.size - wr.iterPos gi)
        case atStart => exact ⟨0, 0, 0, I0.out, I2.out, I4.out, HF.out, Nat.zero_le _, BI.out⟩
        case round =>
          clear BI I2 I4 I0 HF
          obtain ⟨pos, hi, lo, hk, hb2, hb4, hc, hle, hbw⟩ := hrel
          have HK := Aside0.mk hk
          have HB2 := Aside0.mk hb2
          have HB4 := Aside0.mk hb4
          have HBW := Aside0.mk hbw
          have HLE := Aside0.mk hle
          have HC := Aside0.mk hc
          clear hk hb2 hb4 hbw hle hc
          by_cases hp : pos < a0.size
          · have HD := Aside0.mk (HC.out.symm.trans (wideGo_drop a0 pos hi lo hp)).symm
            clear HC
            by_cases ha : (a0[pos]'hp).toNat < 128
            · have hnx : ∀ ty, (Instr.next (.pointer (some ⟨gi, 0, none⟩)) true ty).run Try.prog wr = _ := fun ty => Lib.run_next_ascii_at wr gi a0 pos ty HK.out hp ha
              have J0 := Aside0.mk (Lib.iterAt_heap wr gi a0 pos (pos + 1) HK.out)
              have J2 := Aside0.mk ((Lib.iterAt_other wr gi g2 a0 (pos + 1) (Nat.ne_of_lt L2.out)).trans HB2.out)
              have J4 := Aside0.mk ((Lib.iterAt_other wr gi g4 a0 (pos + 1) (Nat.ne_of_lt L4.out)).trans HB4.out)
              have JB := Aside0.mk (Lib.below_iterAt HBW.out GI.out a0 (pos + 1))
              clear HB2 HB4 HBW
              by_cases hd : (a0[pos]'hp).toNat < 48 ∨ 57 < (a0[pos]'hp).toNat
              · have HE := Aside0.mk (show some ((0 : Int), (0 : Int), (6 : Int)) = some (r1, r2, r3) by have := HD.out; rw [wideGo, if_pos hd] at this; exact this)
                clear HD
                have hz0 := blk_cell J2.out 0
                have hz1 := blk_cell J2.out 1
                have hy0 := blk_frozen J2.out 0
                have hy1 := blk_frozen J2.out 1
                rcases hd with hd | hd
                all_goals
                  go_wp2
                  refine bodyPost_ret (results_ct rfl _ _ g2 25 #[.int .u64 0, .int .u64 0] (0, 0) _ rfl (blk_put (blk_put J2.out 0 _ rfl) 1 _ rfl) Try.underlying25 rfl (by kernel_rfl)) rfl ?_
                  have := HE.out
                  simp only [Option.some.injEq, Prod.mk.injEq] at this
                  obtain ⟨rfl, rfl, rfl⟩ := this
                  exact ⟨rfl, below_set (below_set JB.out G2.out) G2.out⟩
              · have hd1 : 48 ≤ (a0[pos]'hp).toNat := by omega
                have hd2 : (a0[pos]'hp).toNat ≤ 57 := by omega
                have hg := HD.out
                rw [wideGo, if_neg hd] at hg
                obtain ⟨⟨m1, m2⟩, hm, hg⟩ := Option.bind_eq_some_iff.mp hg
                obtain ⟨⟨n1, n2⟩, hn, hg⟩ := Option.bind_eq_some_iff.mp hg
                by_cases hmore : Hand.addC m2 (((a0[pos]'hp).toNat : Int) - 48) 0 ≤ 1
                case neg => rw [if_neg hmore] at hg; cases hg
                rw [if_pos hmore] at hg
                have HM := Aside0.mk hm
                have HN := Aside0.mk hn
                have HG := Aside0.mk hg
                clear hm hn hg HD hd
                have hc0 := (blk_cell J4.out 0).trans rfl
                have hc1 := (blk_cell J4.out 1).trans rfl
                have hf0 := blk_frozen J4.out 0
                have hf1 := blk_frozen J4.out 1
                have hz0 := blk_cell J2.out 0
                have hz1 := blk_cell J2.out 1
                have hy0 := blk_frozen J2.out 0
                have hy1 := blk_frozen J2.out 1
                by_cases hov : IntKind.u64.wrap (IntKind.u64.wrap (n1 + Hand.addC n2 m1 0) + Hand.addC (Hand.addS n2 m1 0) 0 (Hand.addC m2 (((a0[pos]'hp).toNat : Int) - 48) 0)) > 0
                · have HE := Aside0.mk (show some ((0 : Int), (0 : Int), (5 : Int)) = some (r1, r2, r3) by have := HG.out; rw [if_pos hov] at this; exact this)
                  have hov1 : decide (0 < IntKind.u64.wrap (IntKind.u64.wrap (n1 + Hand.addC n2 m1 0) + Hand.addC (Hand.addS n2 m1 0) 0 (Hand.addC m2 (((a0[pos]'hp).toNat : Int) - 48) 0))) = true := decide_eq_true hov
                  clear HG
                  go_wp2_with (first
                    | (go_at_call 26; (with_reducible refine (bits_Mul64.calls lo 10 m1 m2 _ HM.out).mono ?_); rintro e w' ⟨rfl, ⟨nd, rfl⟩⟩)
                    | (go_at_call 26; (with_reducible refine (bits_Mul64.calls hi 10 n1 n2 _ HN.out).mono ?_); rintro e w' ⟨rfl, ⟨nd, rfl⟩⟩))
        
                  refine bodyPost_ret (results_ct rfl _ _ g2 25 #[.int .u64 0, .int .u64 0] (0, 0) _ rfl (blk_put (blk_put (by (with_reducible repeat (first | refine blk_drewN ?_ _ | refine blk_drew ?_ | refine blk_alloc ?_ _)); exact J2.out) 0 _ rfl) 1 _ rfl) Try.underlying25 rfl (by kernel_rfl)) rfl ?_
                  have := HE.out
                  simp only [Option.some.injEq, Prod.mk.injEq] at this
                  obtain ⟨rfl, rfl, rfl⟩ := this
                  exact ⟨rfl, below_set (below_set (pw_below_drewN JB.out _) G2.out) G2.out⟩
                · have HE := Aside0.mk (show wideGo (a0.data.toList.drop (pos + 1)) _ _ = some (r1, r2, r3) by have := HG.out; rw [if_neg hov] at this; exact this)
                  have hov1 : decide (0 < IntKind.u64.wrap (IntKind.u64.wrap (n1 + Hand.addC n2 m1 0) + Hand.addC (Hand.addS n2 m1 0) 0 (Hand.addC m2 (((a0[pos]'hp).toNat : Int) - 48) 0))) = false := decide_eq_false hov
                  clear HG
                  go_wp2_with (first
                    | (go_at_call 26; (with_reducible refine (bits_Mul64.calls lo 10 m1 m2 _ HM.out).mono ?_); rintro e w' ⟨rfl, ⟨nd, rfl⟩⟩)
                    | (go_at_call 26; (with_reducible refine (bits_Mul64.calls hi 10 n1 n2 _ HN.out).mono ?_); rintro e w' ⟨rfl, ⟨nd, rfl⟩⟩))
        
                  go_roundw
                  case rel => exact ⟨pos + 1, _, _, (Below.heap_setCell _ _ _ gi (Nat.ne_of_gt L4.out)).trans ((Below.heap_setCell _ _ _ gi (Nat.ne_of_gt L4.out)).trans J0.out), blk_far (blk_far (by (with_reducible repeat (first | refine blk_drewN ?_ _ | refine blk_drew ?_ | refine blk_alloc ?_ _)); exact J2.out) N24.out _) N24.out _, blk_put (blk_put (by (with_reducible repeat (first | refine blk_drewN ?_ _ | refine blk_drew ?_ | refine blk_alloc ?_ _)); exact J4.out) 0 _ rfl) 1 _ rfl, HE.out, hp, below_set (below_set (pw_below_drewN JB.out _) G4.out) G4.out⟩
                  case measure =>
                    refine Nat.lt_of_le_of_lt (Nat.le_of_eq (congrArg (fun q => a0.size - q) (iterPos_of (s := a0) (p := pos + 1) ((Below.heap_setCell _ _ _ gi (Nat.ne_of_gt L4.out)).trans ((Below.heap_setCell _ _ _ gi (Nat.ne_of_gt L4.out)).trans J0.out))))) ?_
                    rw [iterPos_of HK.out]
                    omega
            · obtain ⟨k1, k2⟩ := decode_high a0 pos hp (by omega)
              have hnx : ∀ ty, (Instr.next (.pointer (some ⟨gi, 0, none⟩)) true ty).run Try.prog wr = _ := fun ty => Lib.run_next_any_at wr gi a0 pos ty HK.out hp
              have J2 := Aside0.mk ((Lib.iterAt_other wr gi g2 a0 (pos + (Utf8.decode a0 pos).2) (Nat.ne_of_lt L2.out)).trans HB2.out)
              have JB := Aside0.mk (Lib.below_iterAt HBW.out GI.out a0 (pos + (Utf8.decode a0 pos).2))
              have HE := Aside0.mk (show some ((0 : Int), (0 : Int), (6 : Int)) = some (r1, r2, r3) by have := HD.out; rw [wideGo, if_pos (.inr (by omega))] at this; exact this)
              clear HD HK HB2 HB4 HBW
              have k3 : (57 : Int) < ((Utf8.decode a0 pos).1 : Int) := by omega
              have hz0 := blk_cell J2.out 0
              have hz1 := blk_cell J2.out 1
              have hy0 := blk_frozen J2.out 0
              have hy1 := blk_frozen J2.out 1
              go_wp2
              refine bodyPost_ret (results_ct rfl _ _ g2 25 #[.int .u64 0, .int .u64 0] (0, 0) _ rfl (blk_put (blk_put J2.out 0 _ rfl) 1 _ rfl) Try.underlying25 rfl (by kernel_rfl)) rfl ?_
              have := HE.out
              simp only [Option.some.injEq, Prod.mk.injEq] at this
              obtain ⟨rfl, rfl, rfl⟩ := this
              exact ⟨rfl, below_set (below_set JB.out G2.out) G2.out⟩
          · have hnx : ∀ ty, (Instr.next (.pointer (some ⟨gi, 0, none⟩)) true ty).run Try.prog wr = _ := fun ty => Lib.run_next_end_at wr gi a0 pos ty HK.out hp
            have HE := Aside0.mk (show some (hi, lo, (0 : Int)) = some (r1, r2, r3) by have := HC.out; rw [List.drop_eq_nil_of_le (by simp; omega), wideGo] at this; exact this)
            clear HC
            have hc0 := (blk_cell HB4.out 0).trans rfl
            have hc1 := (blk_cell HB4.out 1).trans rfl
            have hz0 := blk_cell HB2.out 0
            have hz1 := blk_cell HB2.out 1
            have hy0 := blk_frozen HB2.out 0
            have hy1 := blk_frozen HB2.out 1
            go_wp2
            refine bodyPost_ret (results_ct rfl _ _ g2 25 #[.int .u64 hi, .int .u64 lo] (0, 0) _ rfl (blk_put (blk_put HB2.out 0 _ rfl) 1 _ rfl) Try.underlying25 rfl (by kernel_rfl)) rfl ?_
            have := HE.out
            simp only [Option.some.injEq, Prod.mk.injEq] at this
            obtain ⟨rfl, rfl, rfl⟩ := this
            exact ⟨rfl, below_set (below_set HBW.out G2.out) G2.out⟩
    · have h1' : (a0.size : Int) ≤ 1 := by omega
      have h4 : ¬ numberBad a0.data.toList = true := by
        unfold numberBad
        rw [hemp, Bool.false_or, Bool.and_eq_true, decide_eq_true_iff, hlen]
        exact fun h => by omega
      rw [if_neg h4] at hf
      have HF := Aside0.mk hf
      clear hf h4 hl hemp hhd hlen
      go_enter Try.func10, Try.ntmps10
      go_wp2_with (first | ((with_reducible refine gate_dst (N := 2) rfl ?_); refine box_event ?hg (N := 2) ?hd (cs := #[.int .u64 0, .int .u64 0]) (t := 25) ?hr ?_; (case hd => rfl); (case hg => rfl); (case hr => first | (go_simp; done) | (go_simp; rfl)); intro g2 hg w2 hbox hb; have B2 := Aside0.mk hbox; have G2 := Aside0.mk (show w.heap.size ≤ g2 by rw [hg]; exact Nat.le_refl _); have HB2 := Aside0.mk (below_step HB.out hb); clear HB; have hz0 := blk_cell B2.out 0; have hz1 := blk_cell B2.out 1; have hy0 := blk_frozen B2.out 0; have hy1 := blk_frozen B2.out 1; clear hb hbox hg) | ((with_reducible refine gate_dst (N := 4) rfl ?_); refine box_event ?hg (N := 4) ?hd (cs := #[.int .u64 0, .int .u64 0]) (t := 25) ?hr ?_; (case hd => rfl); (case hg => rfl); (case hr => first | (go_simp; done) | (go_simp; rfl)); intro g4 hg w4 hbox hb; have B4 := Aside0.mk hbox; have N24 := Aside0.mk (show g2 ≠ g4 by rw [hg]; exact Nat.ne_of_lt (blk_lt B2.out)); have G4 := Aside0.mk (show w.heap.size ≤ g4 by rw [hg]; exact below_size HB2.out); have B2a := Aside0.mk (blk_below B2.out hb); have HB4 := Aside0.mk (below_step HB2.out hb); clear HB2 B2 hz0 hz1 hy0 hy1; clear hb hbox hg))
      have BI := Aside0.mk (below_alloc HB4.out (.stringIter a0 0))
      have I2 := Aside0.mk (blk_alloc B2a.out (.stringIter a0 0))
      have I4 := Aside0.mk (blk_alloc B4.out (.stringIter a0 0))
      have I0 := Aside0.mk (blk_new w4 (.stringIter a0 0))
      have L2 := Aside0.mk (blk_lt B2a.out)
      have L4 := Aside0.mk (blk_lt B4.out)
      have GI := Aside0.mk (below_size HB4.out)
      clear HB4 B2a B4
      change Code.wp _ _ _ _ (w4.alloc (.stringIter a0 0))
      generalize w4.heap.size = gi at I0 L2 L4 GI
      generalize w4.alloc (.stringIter a0 0) = wi at BI I2 I4 I0
      go_loopw [] (fun wr => ∃ (pos : Nat) (hi lo : Int), wr.heap[gi]? = some (.stringIter a0 pos) ∧ wr.heap[g2]? = some (.cells #[.int .u64 0, .int .u64 0] 25 (0, 0)) ∧ wr.heap[g4]? = some (.cells #[.int .u64 hi, .int .u64 lo] 25 (0, 0)) ∧ wideGo (a0.data.toList.drop pos) hi lo = some (r1, r2, r3) ∧ pos ≤ a0.size ∧ Below w.heap.size w wr) (fun wr => a0.size - wr.iterPos gi)
      case atStart => exact ⟨0, 0, 0, I0.out, I2.out, I4.out, HF.out, Nat.zero_le _, BI.out⟩
      case round =>
        clear BI I2 I4 I0 HF
        obtain ⟨pos, hi, lo, hk, hb2, hb4, hc, hle, hbw⟩ := hrel
        have HK := Aside0.mk hk
        have HB2 := Aside0.mk hb2
        have HB4 := Aside0.mk hb4
        have HBW := Aside0.mk hbw
        have HLE := Aside0.mk hle
        have HC := Aside0.mk hc
        clear hk hb2 hb4 hbw hle hc
        by_cases hp : pos < a0.size
        · have HD := Aside0.mk (HC.out.symm.trans (wideGo_drop a0 pos hi lo hp)).symm
          clear HC
          by_cases ha : (a0[pos]'hp).toNat < 128
          · have hnx : ∀ ty, (Instr.next (.pointer (some ⟨gi, 0, none⟩)) true ty).run Try.prog wr = _ := fun ty => Lib.run_next_ascii_at wr gi a0 pos ty HK.out hp ha
            have J0 := Aside0.mk (Lib.iterAt_heap wr gi a0 pos (pos + 1) HK.out)
            have J2 := Aside0.mk ((Lib.iterAt_other wr gi g2 a0 (pos + 1) (Nat.ne_of_lt L2.out)).trans HB2.out)
            have J4 := Aside0.mk ((Lib.iterAt_other wr gi g4 a0 (pos + 1) (Nat.ne_of_lt L4.out)).trans HB4.out)
            have JB := Aside0.mk (Lib.below_iterAt HBW.out GI.out a0 (pos + 1))
            clear HB2 HB4 HBW
            by_cases hd : (a0[pos]'hp).toNat < 48 ∨ 57 < (a0[pos]'hp).toNat
            · have HE := Aside0.mk (show some ((0 : Int), (0 : Int), (6 : Int)) = some (r1, r2, r3) by have := HD.out; rw [wideGo, if_pos hd] at this; exact this)
              clear HD
              have hz0 := blk_cell J2.out 0
              have hz1 := blk_cell J2.out 1
              have hy0 := blk_frozen J2.out 0
              have hy1 := blk_frozen J2.out 1
              rcases hd with hd | hd
              all_goals
                go_wp2
                refine bodyPost_ret (results_ct rfl _ _ g2 25 #[.int .u64 0, .int .u64 0] (0, 0) _ rfl (blk_put (blk_put J2.out 0 _ rfl) 1 _ rfl) Try.underlying25 rfl (by kernel_rfl)) rfl ?_
                have := HE.out
                simp only [Option.some.injEq, Prod.mk.injEq] at this
                obtain ⟨rfl, rfl, rfl⟩ := this
                exact ⟨rfl, below_set (below_set JB.out G2.out) G2.out⟩
            · have hd1 : 48 ≤ (a0[pos]'hp).toNat := by omega
              have hd2 : (a0[pos]'hp).toNat ≤ 57 := by omega
              have hg := HD.out
              rw [wideGo, if_neg hd] at hg
              obtain ⟨⟨m1, m2⟩, hm, hg⟩ := Option.bind_eq_some_iff.mp hg
              obtain ⟨⟨n1, n2⟩, hn, hg⟩ := Option.bind_eq_some_iff.mp hg
              by_cases hmore : Hand.addC m2 (((a0[pos]'hp).toNat : Int) - 48) 0 ≤ 1
              case neg => rw [if_neg hmore] at hg; cases hg
              rw [if_pos hmore] at hg
              have HM := Aside0.mk hm
              have HN := Aside0.mk hn
              have HG := Aside0.mk hg
              clear hm hn hg HD hd
              have hc0 := (blk_cell J4.out 0).trans rfl
              have hc1 := (blk_cell J4.out 1).trans rfl
              have hf0 := blk_frozen J4.out 0
              have hf1 := blk_frozen J4.out 1
              have hz0 := blk_cell J2.out 0
              have hz1 := blk_cell J2.out 1
              have hy0 := blk_frozen J2.out 0
              have hy1 := blk_frozen J2.out 1
              by_cases hov : IntKind.u64.wrap (IntKind.u64.wrap (n1 + Hand.addC n2 m1 0) + Hand.addC (Hand.addS n2 m1 0) 0 (Hand.addC m2 (((a0[pos]'hp).toNat : Int) - 48) 0)) > 0
              · have HE := Aside0.mk (show some ((0 : Int), (0 : Int), (5 : Int)) = some (r1, r2, r3) by have := HG.out; rw [if_pos hov] at this; exact this)
                have hov1 : decide (0 < IntKind.u64.wrap (IntKind.u64.wrap (n1 + Hand.addC n2 m1 0) + Hand.addC (Hand.addS n2 m1 0) 0 (Hand.addC m2 (((a0[pos]'hp).toNat : Int) - 48) 0))) = true := decide_eq_true hov
                clear HG
                go_wp2_with (first
                  | (go_at_call 26; (with_reducible refine (bits_Mul64.calls lo 10 m1 m2 _ HM.out).mono ?_); rintro e w' ⟨rfl, ⟨nd, rfl⟩⟩)
                  | (go_at_call 26; (with_reducible refine (bits_Mul64.calls hi 10 n1 n2 _ HN.out).mono ?_); rintro e w' ⟨rfl, ⟨nd, rfl⟩⟩))
      
                refine bodyPost_ret (results_ct rfl _ _ g2 25 #[.int .u64 0, .int .u64 0] (0, 0) _ rfl (blk_put (blk_put (by (with_reducible repeat (first | refine blk_drewN ?_ _ | refine blk_drew ?_ | refine blk_alloc ?_ _)); exact J2.out) 0 _ rfl) 1 _ rfl) Try.underlying25 rfl (by kernel_rfl)) rfl ?_
                have := HE.out
                simp only [Option.some.injEq, Prod.mk.injEq] at this
                obtain ⟨rfl, rfl, rfl⟩ := this
                exact ⟨rfl, below_set (below_set (pw_below_drewN JB.out _) G2.out) G2.out⟩
              · have HE := Aside0.mk (show wideGo (a0.data.toList.drop (pos + 1)) _ _ = some (r1, r2, r3) by have := HG.out; rw [if_neg hov] at this; exact this)
                have hov1 : decide (0 < IntKind.u64.wrap (IntKind.u64.wrap (n1 + Hand.addC n2 m1 0) + Hand.addC (Hand.addS n2 m1 0) 0 (Hand.addC m2 (((a0[pos]'hp).toNat : Int) - 48) 0))) = false := decide_eq_false hov
                clear HG
                go_wp2_with (first
                  | (go_at_call 26; (with_reducible refine (bits_Mul64.calls lo 10 m1 m2 _ HM.out).mono ?_); rintro e w' ⟨rfl, ⟨nd, rfl⟩⟩)
                  | (go_at_call 26; (with_reducible refine (bits_Mul64.calls hi 10 n1 n2 _ HN.out).mono ?_); rintro e w' ⟨rfl, ⟨nd, rfl⟩⟩))
      
                go_roundw
                case rel => exact ⟨pos + 1, _, _, (Below.heap_setCell _ _ _ gi (Nat.ne_of_gt L4.out)).trans ((Below.heap_setCell _ _ _ gi (Nat.ne_of_gt L4.out)).trans J0.out), blk_far (blk_far (by (with_reducible repeat (first | refine blk_drewN ?_ _ | refine blk_drew ?_ | refine blk_alloc ?_ _)); exact J2.out) N24.out _) N24.out _, blk_put (blk_put (by (with_reducible repeat (first | refine blk_drewN ?_ _ | refine blk_drew ?_ | refine blk_alloc ?_ _)); exact J4.out) 0 _ rfl) 1 _ rfl, HE.out, hp, below_set (below_set (pw_below_drewN JB.out _) G4.out) G4.out⟩
                case measure =>
                  refine Nat.lt_of_le_of_lt (Nat.le_of_eq (congrArg (fun q => a0.size - q) (iterPos_of (s := a0) (p := pos + 1) ((Below.heap_setCell _ _ _ gi (Nat.ne_of_gt L4.out)).trans ((Below.heap_setCell _ _ _ gi (Nat.ne_of_gt L4.out)).trans J0.out))))) ?_
                  rw [iterPos_of HK.out]
                  omega
          · obtain ⟨k1, k2⟩ := decode_high a0 pos hp (by omega)
            have hnx : ∀ ty, (Instr.next (.pointer (some ⟨gi, 0, none⟩)) true ty).run Try.prog wr = _ := fun ty => Lib.run_next_any_at wr gi a0 pos ty HK.out hp
            have J2 := Aside0.mk ((Lib.iterAt_other wr gi g2 a0 (pos + (Utf8.decode a0 pos).2) (Nat.ne_of_lt L2.out)).trans HB2.out)
            have JB := Aside0.mk (Lib.below_iterAt HBW.out GI.out a0 (pos + (Utf8.decode a0 pos).2))
            have HE := Aside0.mk (show some ((0 : Int), (0 : Int), (6 : Int)) = some (r1, r2, r3) by have := HD.out; rw [wideGo, if_pos (.inr (by omega))] at this; exact this)
            clear HD HK HB2 HB4 HBW
            have k3 : (57 : Int) < ((Utf8.decode a0 pos).1 : Int) := by omega
            have hz0 := blk_cell J2.out 0
            have hz1 := blk_cell J2.out 1
            have hy0 := blk_frozen J2.out 0
            have hy1 := blk_frozen J2.out 1
            go_wp2
            refine bodyPost_ret (results_ct rfl _ _ g2 25 #[.int .u64 0, .int .u64 0] (0, 0) _ rfl (blk_put (blk_put J2.out 0 _ rfl) 1 _ rfl) Try.underlying25 rfl (by kernel_rfl)) rfl ?_
            have := HE.out
            simp only [Option.some.injEq, Prod.mk.injEq] at this
            obtain ⟨rfl, rfl, rfl⟩ := this
            exact ⟨rfl, below_set (below_set JB.out G2.out) G2.out⟩
        · have hnx : ∀ ty, (Instr.next (.pointer (some ⟨gi, 0, none⟩)) true ty).run Try.prog wr = _ := fun ty => Lib.run_next_end_at wr gi a0 pos ty HK.out hp
          have HE := Aside0.mk (show some (hi, lo, (0 : Int)) = some (r1, r2, r3) by have := HC.out; rw [List.drop_eq_nil_of_le (by simp; omega), wideGo] at this; exact this)
          clear HC
          have hc0 := (blk_cell HB4.out 0).trans rfl
          have hc1 := (blk_cell HB4.out 1).trans rfl
          have hz0 := blk_cell HB2.out 0
          have hz1 := blk_cell HB2.out 1
          have hy0 := blk_frozen HB2.out 0
          have hy1 := blk_frozen HB2.out 1
          go_wp2
          refine bodyPost_ret (results_ct rfl _ _ g2 25 #[.int .u64 hi, .int .u64 lo] (0, 0) _ rfl (blk_put (blk_put HB2.out 0 _ rfl) 1 _ rfl) Try.underlying25 rfl (by kernel_rfl)) rfl ?_
          have := HE.out
          simp only [Option.some.injEq, Prod.mk.injEq] at this
          obtain ⟨rfl, rfl, rfl⟩ := this
          exact ⟨rfl, below_set (below_set HBW.out G2.out) G2.out⟩
  · have hl : a0.data.toList = [] := List.eq_nil_of_length_eq_zero (Nat.le_zero.1 h0)
    have h4 : numberBad a0.data.toList = true := by rw [hl]; rfl
    have e1 : a0.toList = [] := (ByteArray.toList_eq a0).trans hl
    rw [if_pos h4] at hf
    simp only [Option.some.injEq, Prod.mk.injEq] at hf
    have HE := Aside0.mk hf
    clear hf h4 hl
    go_enter Try.func10, Try.ntmps10
    go_wp2_with (first | ((with_reducible refine gate_dst (N := 2) rfl ?_); refine box_event ?hg (N := 2) ?hd (cs := #[.int .u64 0, .int .u64 0]) (t := 25) ?hr ?_; (case hd => rfl); (case hg => rfl); (case hr => first | (go_simp; done) | (go_simp; rfl)); intro g2 hg w2 hbox hb; have B2 := Aside0.mk hbox; have G2 := Aside0.mk (show w.heap.size ≤ g2 by rw [hg]; exact Nat.le_refl _); have HB2 := Aside0.mk (below_step HB.out hb); clear HB; have hz0 := blk_cell B2.out 0; have hz1 := blk_cell B2.out 1; have hy0 := blk_frozen B2.out 0; have hy1 := blk_frozen B2.out 1; clear hb hbox hg))
    refine bodyPost_ret (results_ct rfl _ _ g2 25 #[.int .u64 0, .int .u64 0] (0, 0) _ rfl (blk_put (blk_put B2.out 0 _ rfl) 1 _ rfl) Try.underlying25 rfl (by kernel_rfl)) rfl ?_
    obtain ⟨rfl, rfl, rfl⟩ := HE.out
    exact ⟨rfl, below_set (below_set HB2.out G2.out) G2.out⟩

end Go.Proofs.Ythifgehpiodkcaa.PAll
