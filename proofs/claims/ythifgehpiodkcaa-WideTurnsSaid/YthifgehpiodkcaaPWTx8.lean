-- Written by wip/myprint.py (this session's own driver); Lean checks it.
import Derived.Test.YthifgehpiodkcaaPWTx0
import Derived.Test.YthifgehpiodkcaaPWTx3
import Derived.Test.YthifgehpiodkcaaPWTx7
namespace Go.Proofs.Ythifgehpiodkcaa.PWT
open Go.RowKit Go.Proofs.YthifgehpiodkcaaW.PrintWords Go.Proofs.YthifgehpiodkcaaW.PrintLast Go.Proofs.YthifgehpiodkcaaW.PrintMore
attribute [local go_sem] max2_int min2_int max_two min_two max_three min_three max_four min_four   -- for this text's walks alone
set_option linter.unusedVariables false
set_option linter.unusedSimpArgs false

/-! ### wide_Count_Print: function 9 (by hand) -/
/-- A number's value as a natural number. -/
def numAt : Value → Nat
  | .int _ n => n.toNat
  | _ => 0
def printGo : Nat → Int → Int → Nat → List Int → Option ByteArray
  | 0, _, _, _, _ => none
  | k + 1, hi, lo, at_, suf => (wide_Count_tenth.f k hi lo).bind fun t => if 0 < at_ then (if (t.1 == 0 && (t.2.1 == 0)) = true then some (strOfNums ((48 + t.2.2) % 256 :: suf)) else printGo k t.1 t.2.1 (at_ - 1) ((48 + t.2.2) % 256 :: suf)) else none
theorem printGo_mono : ∀ k hi lo at_ suf, LeO (printGo k hi lo at_ suf) (printGo (k + 1) hi lo at_ suf)
  | 0, _, _, _, _ => LeO.none _
  | k + 1, hi, lo, at_, suf => by
    rw [printGo, printGo]
    refine LeO.bind (wide_Count_tenth.mono _ _ _) (fun t => ?_)
    refine LeO.ite (LeO.ite (LeO.refl _) (printGo_mono k _ _ _ _)) (LeO.refl _)
def wide_Count_Print.f (k : Nat) (a0_0 a0_1 : Int) : Option ByteArray := printGo k a0_0 a0_1 40 []
theorem wide_Count_Print.mono : ∀ a0 a1 k, LeO (wide_Count_Print.f k a0 a1) (wide_Count_Print.f (k + 1) a0 a1) := fun a0 a1 k => printGo_mono k a0 a1 40 []
theorem bytesAt {w : World} {g n : Nat} {cs : Array Value} {suf : List Int} (hn : n < 40) (hb : w.heap[g]? = some (.cells cs 47 (0, 0))) (hsz : cs.size = 40) (h : cs.toList.drop n = suf.map (Value.int .u8)) : (Kd.int .u8).C w (some ⟨g, n, none⟩) (40 - n) suf := by
  have hl : suf.length = 40 - n := by
    have := congrArg List.length h
    rw [List.length_drop, Array.length_toList, hsz, List.length_map] at this
    exact this.symm
  refine ⟨hl, by omega, fun _ => ⟨⟨g, n, none⟩, rfl, fun j p hj => ⟨[.int .u8 p], rfl, rfl, fun i u hu => ?_⟩⟩⟩
  cases i with
  | zero =>
    obtain rfl : Value.int .u8 p = u := by simpa using hu
    have h1 : (cs.toList.drop n)[j]? = some (Value.int .u8 p) := by rw [h, List.getElem?_map, hj]; rfl
    rw [List.getElem?_drop, Array.getElem?_toList] at h1
    have h2 := blk_cell hb (n + j)
    rw [h1] at h2
    rw [← h2]
    have e : ∀ a : Nat, (⟨g, n, none⟩ : Addr).add a = ⟨g, n + a, none⟩ := fun a => by simp [Addr.add]
    rw [e]
    have e2 : j * (Kd.int .u8).sz + 0 = j := Nat.mul_one j
    rw [e2]
  | succ i => simp at hu
theorem sliceAt47 (g n : Nat) (hn : n < 40) (w : World) : (Instr.sliceAt 47 (.pointer (some ⟨g, 0, none⟩)) (some (.int .i64 (n : Int))) none none).run Try.prog w = .ok (.slice (some ⟨g, n, none⟩) (40 - n) (40 - n)) w := by
  have e : Try.prog.arrayLen 47 = 40 := by kernel_rfl
  have e2 : Try.prog.elem 47 = 5 := by kernel_rfl
  have hu : Try.prog.underlying 47 = some (.array (Try.prog.arrayLen 47) (Try.prog.elem 47)) := by rw [e, e2]; exact Try.underlying47
  rw [run_sliceAt_array_l w 47 ⟨g, 0, none⟩ hu .i64 (n : Int) (by omega) (by rw [e]; omega), e, e2]
  have h1 : ¬ 40 = n := by omega
  simp [slicedAt, h1, go_sem]
set_option maxHeartbeats 4000000 in
set_option maxRecDepth 100000 in
theorem wide_Count_Print.calls (k : Nat) (a0_0 a0_1 : Int) (r : ByteArray) (w : World) (h : wide_Count_Print.f k a0_0 a0_1 = some r) :
    Calls Try.prog 9 #[.agg #[.int .u64 a0_0, .int .u64 a0_1]] w fun e w' => e = .returned (.string r) ∧ Below w.heap.size w w' := by
  have hu25 := Try.underlying25
  have hu47 := Try.underlying47
  have hu50 := Try.underlying50
  have hu5 := Try.underlying5
  have hu9 := Try.underlying9
  have HB := Aside0.mk (Below.refl w.heap.size w)
  have HF := Aside0.mk h
  clear h
  go_enter Try.func9, Try.ntmps9
  go_wp2_with (first
    | ((with_reducible refine gate_dst (N := 1) rfl ?_); refine box_event ?hg (N := 1) ?hd (cs := #[.int .u64 a0_0, .int .u64 a0_1]) (t := 25) ?hr ?_; (case hd => rfl); (case hg => rfl); (case hr => first | (go_simp; done) | (go_simp; rfl)); intro g1 hg w1 hbox hb; have B1 := Aside0.mk hbox; have HB1 := Aside0.mk hb; have G1 := Aside0.mk (show w.heap.size ≤ g1 by rw [hg]; exact Nat.le_refl _); clear hb hbox hg HB)
    | ((with_reducible refine gate_dst (N := 3) rfl ?_); refine box_event ?hg (N := 3) ?hd (cs := Array.replicate 40 (.int .u8 0)) (t := 47) ?hr ?_; (case hd => rfl); (case hg => rfl); (case hr => first | (go_simp; done) | (go_simp; rfl)); intro g3 hg w3 hbox hb; have B3 := Aside0.mk hbox; have N13 := Aside0.mk (show g1 ≠ g3 by rw [hg]; exact Nat.ne_of_lt (blk_lt B1.out)); have G3 := Aside0.mk (show w.heap.size ≤ g3 by rw [hg]; exact below_size HB1.out); have B1' := Aside0.mk (blk_below B1.out hb); have HB := Aside0.mk (below_step HB1.out hb); clear hb hbox hg HB1 B1))
  go_loopw [4] (fun v4 wr => ∃ (k' : Nat) (hi lo : Int) (at_ : Nat) (suf : List Int) (cs : Array Value), v4 = .int .i64 (at_ : Int) ∧ printGo k' hi lo at_ suf = some r ∧ at_ ≤ 40 ∧ wr.heap[g1]? = some (.cells #[.int .u64 hi, .int .u64 lo] 25 (0, 0)) ∧ wr.heap[g3]? = some (.cells cs 47 (0, 0)) ∧ cs.size = 40 ∧ cs.toList.drop at_ = suf.map (Value.int .u8) ∧ Below w.heap.size w wr) (fun v4 _ => numAt v4)
  case atStart => exact ⟨k, a0_0, a0_1, 40, [], _, rfl, HF.out, Nat.le_refl _, B1'.out, B3.out, rfl, rfl, HB.out⟩
  case round =>
    clear HF B3 B1' HB
    obtain ⟨k', hi, lo, at_, suf, cs, rfl, hF, hle, hb1, hb3, hsz, hsuf, hbw⟩ := hrel
    cases k' with
    | zero => rw [printGo] at hF; cases hF
    | succ k1 =>
      rw [printGo] at hF
      obtain ⟨⟨t1, t2, t3⟩, hten, hF⟩ := Option.bind_eq_some_iff.mp hF
      by_cases hpos : 0 < at_
      case neg => rw [if_neg hpos] at hF; cases hF
      rw [if_pos hpos] at hF
      obtain ⟨n, rfl⟩ : ∃ n, at_ = n + 1 := ⟨at_ - 1, by omega⟩
      have HT := Aside0.mk hten
      have HFF := Aside0.mk hF
      have HLE := Aside0.mk hle
      have HB1 := Aside0.mk hb1
      have HB3 := Aside0.mk hb3
      have HSZ := Aside0.mk hsz
      have HSUF := Aside0.mk hsuf
      have HBW := Aside0.mk hbw
      have hcz0 : wr.cell? ⟨g1, 0, none⟩ = some (.int .u64 hi) := (blk_cell hb1 0).trans rfl
      have hcz1 : wr.cell? ⟨g1, 1, none⟩ = some (.int .u64 lo) := (blk_cell hb1 1).trans rfl
      have hat : wrap64 (((n + 1 : Nat) : Int) - 1) = (n : Int) := by unfold wrap64; omega
      have hn40 : n < 40 := by omega
      clear hten hF hle hb1 hb3 hsz hsuf hbw hpos
      generalize hN : ((n + 1 : Nat) : Int) = N at hat ⊢
      have HN := Aside0.mk hN
      clear hN hF
      obtain ⟨cn, hcn⟩ : ∃ u, cs[n]? = some u := ⟨_, Array.getElem?_eq_getElem (by rw [HSZ.out]; exact hn40)⟩
      have HCN := Aside0.mk hcn
      clear hcn
      have H9 : (cs.setIfInBounds n (.int .u8 ((48 + t3) % 256))).toList.drop n = ((48 + t3) % 256 :: suf).map (Value.int .u8) := by
        have hl : n < cs.toList.length := by rw [Array.length_toList, HSZ.out]; exact hn40
        rw [Array.toList_setIfInBounds, List.drop_eq_getElem_cons (by simpa using hl), List.getElem_set_self, List.drop_set_of_lt (Nat.lt_succ_self n), HSUF.out]
        rfl
      have hn0 : (0 : Int) ≤ (n : Int) := Int.natCast_nonneg _
      have hn1 : (n : Int) < 40 := by omega
      have HSS := Aside0.mk (show cs.size = (cs.setIfInBounds n (.int .u8 ((48 + t3) % 256))).size by simp)
      have H9a := Aside0.mk H9
      clear H9
      cases hz : (t1 == 0 && (t2 == 0)) with
      | true =>
        have HZ : Aside0 (wide_Count_Zero.f t1 t2 = some true) := ⟨congrArg some hz⟩
        have HR : Aside0 (strOfNums ((48 + t3) % 256 :: suf) = r) := ⟨by have := HFF.out; rw [if_pos hz] at this; exact Option.some.inj this⟩
        clear HFF hz
        go_wp2_with (first
          | ((with_reducible refine gate_callee (f := 25) rfl ?_); refine goesL_ (some 8) rfl rfl Try.func25 (by kernel_rfl) rfl #[.agg #[.int .u64 hi, .int .u64 lo]] rfl (by (try simp only [List.map_toArray, List.map_cons, List.map_nil]); first | done | rfl) ?_; (with_reducible refine (wide_Count_tenth.calls k1 hi lo t1 t2 t3 _ HT.out).mono ?_); rintro e w6 ⟨rfl, hb⟩; refine ⟨_, rfl, ?_⟩
             have B1 := Aside0.mk (blk_below HB1.out hb); have B3 := Aside0.mk (blk_below HB3.out hb); have HBX := Aside0.mk (below_step HBW.out hb); clear hb HB1 HB3 HBW hcz0 hcz1
             have hd0 : w6.cell? ⟨g1, 0, none⟩ = some (.int .u64 hi) := (blk_cell B1.out 0).trans rfl
             have hd1 : w6.cell? ⟨g1, 1, none⟩ = some (.int .u64 lo) := (blk_cell B1.out 1).trans rfl
             have hf0 := blk_frozen B1.out 0
             have hf1 := blk_frozen B1.out 1
             have C1 := Aside0.mk (blk_put (blk_put B1.out 0 (.int .u64 t1) rfl) 1 (.int .u64 t2) rfl)
             have C3 := Aside0.mk (blk_far (blk_far B3.out (p := ⟨g1, 0, none⟩) N13.out.symm (.int .u64 t1)) (p := ⟨g1, 1, none⟩) N13.out.symm (.int .u64 t2))
             have he0 : ((w6.setCell ⟨g1, 0, none⟩ (.int .u64 t1)).setCell ⟨g1, 1, none⟩ (.int .u64 t2)).cell? ⟨g3, n, none⟩ = some cn := (blk_cell C3.out n).trans HCN.out
             have he1 := blk_frozen C3.out n
             have D3 := Aside0.mk (blk_put C3.out n (.int .u8 ((48 + t3) % 256)) rfl)
             have D1 := Aside0.mk (blk_far C1.out (p := ⟨g3, n, none⟩) N13.out (.int .u8 ((48 + t3) % 256)))
             have hi0 := blk_cell D1.out 0
             have hi1 := blk_cell D1.out 1)
          | ((with_reducible refine gate_callee (f := 23) rfl ?_); refine goesL_ (some 18) rfl rfl Try.func23 (by kernel_rfl) rfl #[.agg #[.int .u64 t1, .int .u64 t2]] rfl (by (try simp only [List.map_toArray, List.map_cons, List.map_nil]); first | done | rfl) ?_; (with_reducible refine (wide_Count_Zero.calls t1 t2 true _ HZ.out).mono ?_); rintro e w8 ⟨rfl, hb⟩; refine ⟨_, rfl, ?_⟩
             have HBY := Aside0.mk (below_step (below_set (below_set (below_set HBX.out G1.out) G1.out) G3.out) hb)
             have E1 := Aside0.mk (blk_below D1.out hb); have E3 := Aside0.mk (blk_below D3.out hb); clear hb HBX D1 D3
             have hsl := sliceAt47 g3 n hn40 w8
             have hcv := Kd.C_string (P := Try.prog) (A := some ⟨g3, n, none⟩) (c := 40 - n) Try.underlying50 Try.underlying5 Try.underlying9 (bytesAt hn40 E3.out (HSS.out.symm.trans HSZ.out) H9a.out)))
        go_ret
        exact ⟨by first | rfl | (rw [HR.out]; rfl), HBY.out⟩
      | false =>
        have HZ : Aside0 (wide_Count_Zero.f t1 t2 = some false) := ⟨congrArg some hz⟩
        have HR : Aside0 (printGo k1 t1 t2 n ((48 + t3) % 256 :: suf) = some r) := ⟨by have := HFF.out; rw [if_neg (by rw [hz]; decide)] at this; exact this⟩
        clear HFF hz
        go_wp2_with (first
          | ((with_reducible refine gate_callee (f := 25) rfl ?_); refine goesL_ (some 8) rfl rfl Try.func25 (by kernel_rfl) rfl #[.agg #[.int .u64 hi, .int .u64 lo]] rfl (by (try simp only [List.map_toArray, List.map_cons, List.map_nil]); first | done | rfl) ?_; (with_reducible refine (wide_Count_tenth.calls k1 hi lo t1 t2 t3 _ HT.out).mono ?_); rintro e w6 ⟨rfl, hb⟩; refine ⟨_, rfl, ?_⟩
             have B1 := Aside0.mk (blk_below HB1.out hb); have B3 := Aside0.mk (blk_below HB3.out hb); have HBX := Aside0.mk (below_step HBW.out hb); clear hb HB1 HB3 HBW hcz0 hcz1
             have hd0 : w6.cell? ⟨g1, 0, none⟩ = some (.int .u64 hi) := (blk_cell B1.out 0).trans rfl
             have hd1 : w6.cell? ⟨g1, 1, none⟩ = some (.int .u64 lo) := (blk_cell B1.out 1).trans rfl
             have hf0 := blk_frozen B1.out 0
             have hf1 := blk_frozen B1.out 1
             have C1 := Aside0.mk (blk_put (blk_put B1.out 0 (.int .u64 t1) rfl) 1 (.int .u64 t2) rfl)
             have C3 := Aside0.mk (blk_far (blk_far B3.out (p := ⟨g1, 0, none⟩) N13.out.symm (.int .u64 t1)) (p := ⟨g1, 1, none⟩) N13.out.symm (.int .u64 t2))
             have he0 : ((w6.setCell ⟨g1, 0, none⟩ (.int .u64 t1)).setCell ⟨g1, 1, none⟩ (.int .u64 t2)).cell? ⟨g3, n, none⟩ = some cn := (blk_cell C3.out n).trans HCN.out
             have he1 := blk_frozen C3.out n
             have D3 := Aside0.mk (blk_put C3.out n (.int .u8 ((48 + t3) % 256)) rfl)
             have D1 := Aside0.mk (blk_far C1.out (p := ⟨g3, n, none⟩) N13.out (.int .u8 ((48 + t3) % 256)))
             have hi0 := blk_cell D1.out 0
             have hi1 := blk_cell D1.out 1)
          | ((with_reducible refine gate_callee (f := 23) rfl ?_); refine goesL_ (some 18) rfl rfl Try.func23 (by kernel_rfl) rfl #[.agg #[.int .u64 t1, .int .u64 t2]] rfl (by (try simp only [List.map_toArray, List.map_cons, List.map_nil]); first | done | rfl) ?_; (with_reducible refine (wide_Count_Zero.calls t1 t2 false _ HZ.out).mono ?_); rintro e w8 ⟨rfl, hb⟩; refine ⟨_, rfl, ?_⟩
             have HBY := Aside0.mk (below_step (below_set (below_set (below_set HBX.out G1.out) G1.out) G3.out) hb)
             have E1 := Aside0.mk (blk_below D1.out hb); have E3 := Aside0.mk (blk_below D3.out hb); clear hb HBX D1 D3))
        (try simp only [Act.put, List.setIfInBounds_toArray, List.set_cons_zero, List.set_cons_succ, hat])
        go_roundw
        case rel => exact ⟨k1, t1, t2, n, _, _, by first | rfl | exact congrArg _ hat, HR.out, by omega, E1.out, E3.out, HSS.out.symm.trans HSZ.out, H9a.out, HBY.out⟩
        case measure => have := HN.out; simp only [numAt]; omega

end Go.Proofs.Ythifgehpiodkcaa.PWT
