-- Written by wip/myprint.py and wip/merge.py (this session's own programs); Lean checks it.
import Derived.Test.YtdemogdagemagaaPTgx0
namespace Go.Proofs.Ytdemogdagemagaa.PTg
open Go.RowKit Go.Proofs.YtdemogdagemagaaW.PrintWords Go.Proofs.YtdemogdagemagaaW.PrintLast Go.Proofs.YtdemogdagemagaaW.PrintMore
attribute [local go_sem] max2_int min2_int max_two min_two max_three min_three max_four min_four   -- for this text's walks alone
set_option linter.unusedVariables false
set_option linter.unusedSimpArgs false

/-! ### topo_links: function 45 (by hand) -/
theorem laidOut : laidOutB Try.prog = true := by kernel_rfl
theorem row93 : 93 < Try.prog.types.size := of_decide_eq_true (by kernel_rfl)
theorem law93 : Go.Maps.Keyed Try.prog 93 := Go.Maps.Keyed.of_law (deep_law_laid laidOut (m := 2) (by omega) row93 (by kernel_rfl) (by rw [Try.underlying93]))
theorem keyT : Try.prog.keyType 93 = true := by kernel_rfl
theorem key93 (a b : Int) (ha : (Lit.int .i64 a).wf = true) (hb : (Lit.int .i64 b).wf = true) : ∃ kl, keyOf Try.prog 93 (.agg #[.int .i64 a, .int .i64 b]) = some kl := by
  have hf : (Value.agg #[.int .i64 a, .int .i64 b]).formed Try.prog 93 = true := by
    simp [Value.formed, Try.underlying93]; kernel_rfl
  obtain ⟨m, hm⟩ : ∃ m, Try.prog.types.size + 1 = m + 2 := ⟨Try.prog.types.size - 1, by have := row93; omega⟩
  have hc3 : Try.prog.cellsOf 3 = 1 := by kernel_rfl
  have hc93 : Try.prog.cellsOf 93 = 2 := by kernel_rfl
  have h3 : ∀ x : Int, (Lit.int .i64 x).wf = true → Try.prog.keyLits (m + 1) 3 [.int .i64 x] = some [.int .i64 x] := fun x hx => by
    simp [Program.keyLits, Try.underlying3, hx]
  refine ⟨.string (keyBytes [.int .i64 a, .int .i64 b]), ?_⟩
  simp only [keyOf, Try.underlying93, keyT, hf, Bool.and_self, if_true, hm]
  have h : Try.prog.keyLits (m + 2) 93 [.int .i64 a, .int .i64 b] = some [.int .i64 a, .int .i64 b] := by
    unfold Program.keyLits
    simp only [Try.underlying93]
    simp [hc93, hc3, h3 a ha, h3 b hb]
  simp [Value.cells, h]

open Go.Proofs.Ytdemogdagemagaa.Hand
def portE (ps : List Int) (d p : Int) : Int := if d < 0 ∨ (ps.length : Int) ≤ d then 10 else if p < 0 ∨ rd ps d ≤ p then 11 else 0
/-- The ends of links, one behind the other. -/
def ends (l : List S39) : List (Int × Int) := l.flatMap fun x => [(x.f0, x.f1), (x.f2, x.f3)]
/-- What is wrong with ends, behind those that were seen. -/
def linkGo (ps : List Int) (s : Int × Int → Bool) : List (Int × Int) → Int
  | [] => 0
  | x :: r => if portE ps x.1 x.2 ≠ 0 then portE ps x.1 x.2 else if s x = true then 12 else linkGo ps (fun z => if z = x then true else s z) r
def encE (x : Int × Int) : Value := .agg #[.int .i64 x.1, .int .i64 x.2]
theorem encE_inj (x y : Int × Int) (h : encE x = encE y) : x = y := by
  simp [encE] at h
  exact Prod.ext h.1 h.2
theorem port_f (l0 : List Int) (l1 : List S39) (l2 : List S52) (a b : Int) : topo_Port.f 1 l0 l1 l2 a b = some (portE l0 a b) := by
  unfold topo_Port.f portE
  by_cases h1 : a < 0
  · simp [h1, topo_Port.j0]
  · by_cases h2 : (l0.length : Int) ≤ a
    · simp [h2, topo_Port.j0]
    · have h3 : 0 ≤ a := by omega
      have h4 : a < (l0.length : Int) := by omega
      by_cases h5 : b < 0
      · simp [h1, h2, topo_Port.j0, h5]
      · by_cases h6 : rd l0 a ≤ b
        · simp [h1, h2, topo_Port.j0, h5, h3, h4, h6]
        · simp [h1, h2, topo_Port.j0, h5, h3, h4, h6]
/-- What holds of the world in a round: the topology's box, the map of what was seen. -/
def St (w wr : World) (g1 gm : Nat) (v0 v1 v2 : Value) (n : Nat) (s : Int × Int → Bool) : Prop :=
  wr.heap[g1]? = some (.cells #[v0, v1, v2] 26 (0, 0)) ∧ MapB Try.prog 93 4 encE wr gm n s ∧ Below w.heap.size w wr ∧ w.heap.size ≤ g1 ∧ w.heap.size ≤ gm
theorem St.step {w wr w2 : World} {g1 gm n : Nat} {v0 v1 v2 : Value} {s : Int × Int → Bool} (h : St w wr g1 gm v0 v1 v2 n s) (hb : Below wr.heap.size wr w2) : St w w2 g1 gm v0 v1 v2 n s :=
  ⟨blk_below h.1 hb, h.2.1.below hb, below_step h.2.2.1 hb, h.2.2.2.1, h.2.2.2.2⟩
theorem St.start {w w4 : World} {g1 : Nat} {v0 v1 v2 : Value} (hb : Below w.heap.size w w4) (hbox : w4.heap[g1]? = some (.cells #[v0, v1, v2] 26 (0, 0))) (hg : g1 = w.heap.size) : St w (w4.alloc (.map #[] 0)) g1 w4.heap.size v0 v1 v2 0 (fun _ => false) :=
  ⟨blk_alloc hbox _, MapB.made _ _ _ _ _, below_alloc hb _, by omega, hb.size⟩
theorem St.set {w wr : World} {g1 gm n g : Nat} {v0 v1 v2 : Value} {s : Int × Int → Bool} (h : St w wr g1 gm v0 v1 v2 n s) (h1 : g1 ≠ g) (h2 : gm ≠ g) (hg : w.heap.size ≤ g) (i : Nat) (u : Value) : St w (wr.setCell ⟨g, i, none⟩ u) g1 gm v0 v1 v2 n s :=
  ⟨blk_far h.1 h1 u, h.2.1.kept (row := some g) ⟨rfl, rfl, rfl, by simp [World.setCell], fun k hk hne => Below.heap_setCell _ _ _ _ (fun e => hne (by rw [e]))⟩ (fun e => h2 (Option.some.inj e)), below_set h.2.2.1 hg, h.2.2.2.1, h.2.2.2.2⟩
theorem St.upd {w wr w2 : World} {g1 gm n : Nat} {v0 v1 v2 : Value} {s s' : Int × Int → Bool} (h : St w wr g1 gm v0 v1 v2 n s) (h2 : MapB Try.prog 93 4 encE w2 gm (n + 1) s') (hg : wr.grownBy w2 (some gm)) : St w w2 g1 gm v0 v1 v2 (n + 1) s' := by
  have hne : g1 ≠ gm := fun e => by
    obtain ⟨D, ⟨es, cl, hb, _⟩, _⟩ := h.2.1
    have := h.1
    rw [e, hb] at this
    cases this
  exact ⟨blk_grown h.1 hg (fun e => hne (Option.some.inj e)), h2, h.2.2.1.grown hg h.2.2.1.size (fun k hk => by cases hk; exact h.2.2.2.2), h.2.2.2.1, h.2.2.2.2⟩
theorem St.below {w wr : World} {g1 gm n : Nat} {v0 v1 v2 : Value} {s : Int × Int → Bool} (h : St w wr g1 gm v0 v1 v2 n s) : Below w.heap.size w wr := h.2.2.1
theorem St.mapB {w wr : World} {g1 gm n : Nat} {v0 v1 v2 : Value} {s : Int × Int → Bool} (h : St w wr g1 gm v0 v1 v2 n s) : MapB Try.prog 93 4 encE wr gm n s := h.2.1
theorem St.lt1 {w wr : World} {g1 gm n : Nat} {v0 v1 v2 : Value} {s : Int × Int → Bool} (h : St w wr g1 gm v0 v1 v2 n s) : g1 < wr.heap.size := blk_lt h.1
theorem St.lt2 {w wr : World} {g1 gm n : Nat} {v0 v1 v2 : Value} {s : Int × Int → Bool} (h : St w wr g1 gm v0 v1 v2 n s) : gm < wr.heap.size := h.2.1.lt
theorem ends_drop (l : List S39) (i : Nat) (x : S39) (h : i < l.length) (hx : rd_T39 l (i : Int) = x) : ends (l.drop i) = [(x.f0, x.f1), (x.f2, x.f3)] ++ ends (l.drop (i + 1)) := by
  have e : l.drop i = x :: l.drop (i + 1) := by
    rw [List.drop_eq_getElem_cons h, ← hx]
    simp [rd_T39, List.getD, h]
  rw [e]; rfl
theorem two_drop (p q : Int × Int) (j : Nat) (h : j < 2) : ∃ y, [p, q].drop j = y :: [p, q].drop (j + 1) ∧ ∀ w, (Instr.index 111 (.agg #[.int .i64 p.1, .int .i64 p.2, .int .i64 q.1, .int .i64 q.2]) (.int .i64 (j : Int))).run Try.prog w = .ok (.agg #[.int .i64 y.1, .int .i64 y.2]) w := by
  have : j = 0 ∨ j = 1 := by omega
  rcases this with rfl | rfl
  · exact ⟨p, rfl, fun w => by kernel_rfl⟩
  · exact ⟨q, rfl, fun w => by kernel_rfl⟩
theorem portE_zero {ps : List Int} {d p : Int} (h : portE ps d p = 0) : 0 ≤ d ∧ d < ps.length ∧ 0 ≤ p ∧ p < rd ps d := by
  unfold portE at h
  split at h
  · simp at h
  · split at h
    · simp at h
    · omega
theorem rd_mem (ps : List Int) (d : Int) (h0 : 0 ≤ d) (h1 : d < ps.length) : rd ps d ∈ ps := by
  have : d.toNat < ps.length := by omega
  simp [rd, List.getD, this]
theorem key_of {ps : List Int} {y : Int × Int} (h : portE ps y.1 y.2 = 0) (hl : ps.length ≤ 1000000) (hp : ∀ n ∈ ps, n ≤ 1000000) : ∃ kl, keyOf Try.prog 93 (encE y) = some kl := by
  obtain ⟨h0, h1, h2, h3⟩ := portE_zero h
  have := hp _ (rd_mem ps y.1 h0 h1)
  exact key93 _ _ (WalkArith.wf_i64 (by omega)) (WalkArith.wf_i64 (by omega))
theorem zeroB (w : World) : (zeroValue 4).run Try.prog w = .ok (.bool false) w := by kernel_rfl
set_option maxHeartbeats 4000000 in
set_option maxRecDepth 100000 in
theorem topo_links.walk_ (A0 : Option Addr) (c0 : Nat) (l0 : List Int) (A1 : Option Addr) (c1 : Nat) (l1 : List (S39)) (A2 : Option Addr) (c2 : Nat) (l2 : List (S52)) (r : Int) (w : World) (hr0 : Kd.C (Kd.int .i64) w A0 l0.length l0) (hc0 : l0.length ≤ c0) (hr1 : Kd.C k39 w A1 l1.length l1) (hc1 : l1.length ≤ c1) (hr2 : Kd.C k52 w A2 l2.length l2) (hc2 : l2.length ≤ c2)
    (hm : l1.length ≤ 1000000) (hl : l0.length ≤ 1000000) (hp : ∀ n ∈ l0, n ≤ 1000000) (h : linkGo l0 (fun _ => false) (ends l1) = r) :
    Calls Try.prog 45 #[.agg #[.slice A0 l0.length c0, .slice A1 l1.length c1, .slice A2 l2.length c2]] w fun e w' => e = .returned (.int .i64 r) ∧ Below w.heap.size w w' := by
  have HR0 := Aside0.mk hr0
  have HR1 := Aside0.mk hr1
  have HR2 := Aside0.mk hr2
  have HC0 := Aside0.mk hc0
  have HC1 := Aside0.mk hc1
  have HC2 := Aside0.mk hc2
  have HP := Aside0.mk hp
  have HB := Aside0.mk (Below.refl w.heap.size w)
  have H' := Aside0.mk h
  clear hr0 hr1 hr2 hc0 hc1 hc2 hp h
  have hmm := @run_makeMap Try.prog
  go_enter Try.func45, Try.ntmps45
  go_wp2_with (first | ((with_reducible refine gate_dst (N := 1) rfl ?_); refine box_event ?hg (N := 1) ?hd (cs := #[.slice A0 l0.length c0, .slice A1 l1.length c1, .slice A2 l2.length c2]) (t := 26) ?hr ?_; (case hd => rfl); (case hg => rfl); (case hr => first | (go_simp; done) | (go_simp; rfl)); intro g1 hg w4 hbox hb; have HS := Aside0.mk (St.start hb hbox hg); have hcz1 : w4.cell? ⟨g1, 1, none⟩ = some (.slice A1 l1.length c1) := (blk_cell hbox 1).trans rfl; have hlt1 := blk_lt hbox; clear hg hbox hb))
  clear hcz1 hmm hlt1
  go_loopg [13] l1.length (fun kq v13 wr => ∃ (i n : Nat) (s : Int × Int → Bool), i + kq = l1.length ∧ n = 2 * i ∧ v13 = .int .i64 i ∧ Aside0 (linkGo l0 s (ends (l1.drop i)) = r) ∧ Aside0 (St w wr g1 w4.heap.size (.slice A0 l0.length c0) (.slice A1 l1.length c1) (.slice A2 l2.length c2) n s))
  case atStart => exact ⟨0, 0, _, by omega, rfl, rfl, H', HS⟩
  case round =>
    clear H' HS
    obtain ⟨i, n, s, hi, hn, rfl, HA, HS⟩ := hrel
    have HI := Aside0.mk hi
    have HN := Aside0.mk hn
    clear hn
    by_cases hlt : i < l1.length
    · obtain ⟨ad, ead, hx0, hx1, hx2, hx3⟩ := at_T39 (Kd.C_below HR1.out HS.out.2.2.1) (i : Int) (by omega) (by omega)
      cases ead
      have e2 : (i : Int).toNat = i := by omega
      rw [e2] at hx0 hx1 hx2 hx3
      clear hi e2
      generalize hx : rd_T39 l1 (i : Int) = x at hx0 hx1 hx2 hx3
      have HX := Aside0.mk hx
      clear hx
      go_wp2_with (first | ((with_reducible refine gate_dst (N := 5) rfl ?_); refine box_event ?hg (N := 5) ?hd (cs := #[.int .i64 0, .int .i64 0, .int .i64 0, .int .i64 0]) (t := 39) ?hr ?_; (case hd => rfl); (case hg => rfl); (case hr => first | (go_simp; done) | (go_simp; rfl)); intro g5 hg w5 hbox hb; have HS5 := Aside0.mk (HS.out.step hb); have BK5 := Aside0.mk hbox; have hcz0 : w5.cell? ⟨g5, 0, none⟩ = some (.int .i64 0) := (blk_cell hbox 0).trans rfl; have hcz1 : w5.cell? ⟨g5, 1, none⟩ = some (.int .i64 0) := (blk_cell hbox 1).trans rfl; have hcz2 : w5.cell? ⟨g5, 2, none⟩ = some (.int .i64 0) := (blk_cell hbox 2).trans rfl; have hcz3 : w5.cell? ⟨g5, 3, none⟩ = some (.int .i64 0) := (blk_cell hbox 3).trans rfl; have hf0 := blk_frozen hbox 0; have hf1 := blk_frozen hbox 1; have hf2 := blk_frozen hbox 2; have hf3 := blk_frozen hbox 3; have HN1 := Aside0.mk (show g1 ≠ g5 by have := HS.out.lt1; omega); have HN2 := Aside0.mk (show w4.heap.size ≠ g5 by have := HS.out.lt2; omega); have HW5 := Aside0.mk (show w.heap.size ≤ g5 by have := HS.out.2.2.1.size; omega); clear HS hbox hb hg))
      have HD := Aside0.mk (two_drop (x.f0, x.f1) (x.f2, x.f3))
      have HA2 := Aside0.mk ((ends_drop l1 i x hlt HX.out) ▸ HA.out)
      have HSW := Aside0.mk ((((HS5.out.set HN1.out HN2.out HW5.out 0 (.int .i64 x.f0)).set HN1.out HN2.out HW5.out 1 (.int .i64 x.f1)).set HN1.out HN2.out HW5.out 2 (.int .i64 x.f2)).set HN1.out HN2.out HW5.out 3 (.int .i64 x.f3))
      clear HA HS5 BK5 hx0 hx1 hx2 hx3 hcz0 hcz1 hcz2 hcz3 hf0 hf1 hf2 hf3 HX
      go_loopg [28] 2 (fun kq v28 wq => ∃ (j m : Nat) (s : Int × Int → Bool), j + kq = 2 ∧ m + kq = 2 * i + 2 ∧ v28 = .int .i64 j ∧ Aside0 (linkGo l0 s (([(x.f0, x.f1), (x.f2, x.f3)] : List (Int × Int)).drop j ++ ends (l1.drop (i + 1))) = r) ∧ Aside0 (St w wq g1 w4.heap.size (.slice A0 l0.length c0) (.slice (some ad) l1.length c1) (.slice A2 l2.length c2) m s))
      case atStart => exact ⟨0, n, s, rfl, by have := HN.out; omega, rfl, HA2, HSW⟩
      case round =>
        clear HA2 HSW HN
        obtain ⟨j, m, s, hj, hm2, rfl, HA, HS⟩ := hrel
        have HJ := Aside0.mk hj
        have HM2 := Aside0.mk hm2
        clear hm2
        by_cases hj2 : j < 2
        · obtain ⟨⟨a, b⟩, hd, hix⟩ := HD.out j hj2
          rw [hd] at HA
          have HA := Aside0.mk (show (if portE l0 a b ≠ 0 then portE l0 a b else if s (a, b) = true then 12 else linkGo l0 (fun z => if z = (a, b) then true else s z) (([(x.f0, x.f1), (x.f2, x.f3)] : List (Int × Int)).drop (j + 1) ++ ends (l1.drop (i + 1)))) = r from HA.out)
          clear hj hd
          have hport := Aside0.mk (port_f l0 l1 l2 a b)
          by_cases hp : portE l0 a b = 0
          · have HE := Aside0.mk ((if_neg (show ¬ portE l0 a b ≠ 0 by simpa using hp)).symm.trans HA.out)
            obtain ⟨kl, hkl⟩ := key_of (y := (a, b)) hp hl HP.out
            have HK := Aside0.mk hkl
            rw [hp] at hport
            clear HA hp hkl
            by_cases hs : s (a, b) = true
            · have HE2 := Aside0.mk ((if_pos hs).symm.trans HE.out)
              have HSS := Aside0.mk hs
              clear hs HE
              go_wp2_with (first
                | ((with_reducible refine gate_dst (N := 7) rfl ?_); refine box_event ?hg (N := 7) ?hd (cs := #[.int .i64 0, .int .i64 0]) (t := 93) ?hr ?_; (case hd => rfl); (case hg => rfl); (case hr => first | (go_simp; done) | (go_simp; rfl)); intro g7 hg w7 hbox hb; have HS7 := Aside0.mk (HS.out.step hb); have BK7 := Aside0.mk hbox; have hcz0 : w7.cell? ⟨g7, 0, none⟩ = some (.int .i64 0) := (blk_cell hbox 0).trans rfl; have hcz1 : w7.cell? ⟨g7, 1, none⟩ = some (.int .i64 0) := (blk_cell hbox 1).trans rfl; have hf0 := blk_frozen hbox 0; have hf1 := blk_frozen hbox 1; have hk0 : w7.cell? ⟨g1, 0, none⟩ = some (.slice A0 l0.length c0) := (blk_cell HS7.out.1 0).trans rfl; have hk1 : w7.cell? ⟨g1, 1, none⟩ = some (.slice (some ad) l1.length c1) := (blk_cell HS7.out.1 1).trans rfl; have hk2 : w7.cell? ⟨g1, 2, none⟩ = some (.slice A2 l2.length c2) := (blk_cell HS7.out.1 2).trans rfl; have hn1 : g1 ≠ g7 := (by have := HS.out.lt1; omega); have hn1' : g7 ≠ g1 := fun e => hn1 e.symm; have HN2 := Aside0.mk (show w4.heap.size ≠ g7 by have := HS.out.lt2; omega); have HW7 := Aside0.mk (show w.heap.size ≤ g7 by have := HS.out.2.2.1.size; omega); clear HS hbox hb hg)
                | (go_at_call 15; have HSW := Aside0.mk ((HS7.out.set hn1 HN2.out HW7.out 0 (.int .i64 a)).set hn1 HN2.out HW7.out 1 (.int .i64 b)); have BKW := Aside0.mk (blk_put (blk_put BK7.out 0 (.int .i64 a) rfl) 1 (.int .i64 b) rfl); (with_reducible refine (topo_Port.calls 1 _ _ l0 _ _ l1 _ _ l2 a b 0 _ (Kd.C_below HR0.out HSW.out.below) HC0.out (Kd.C_below HR1.out HSW.out.below) HC1.out (Kd.C_below HR2.out HSW.out.below) HC2.out hport.out).mono ?_); rintro e w8 ⟨rfl, hb8⟩; have hy0 : w8.cell? ⟨g7, 0, none⟩ = some (.int .i64 a) := (blk_cell (blk_below BKW.out hb8) 0).trans rfl; have hy1 : w8.cell? ⟨g7, 1, none⟩ = some (.int .i64 b) := (blk_cell (blk_below BKW.out hb8) 1).trans rfl; have HS8 := Aside0.mk (HSW.out.step hb8); clear hb8 HS7 BK7 hcz0 hcz1 hf0 hf1 hk0 hk1 hk2 BKW HSW)
                | (at_lookup; refine wpList_lookup_b rfl _ _ 110 rfl law93 Try.underlying110 Try.underlying4 (zeroB _) rfl HS8.out.mapB (a, b) rfl HK.out ?_; rw [HSS.out]))
              go_ret
              exact ⟨by rw [← HE2.out]; rfl, HS8.out.2.2.1⟩
            · have HE2 := Aside0.mk ((if_neg hs).symm.trans HE.out)
              have HSS := Aside0.mk (show s (a, b) = false by simpa using hs)
              clear hs HE
              go_wp2_with (first
                | ((with_reducible refine gate_dst (N := 7) rfl ?_); refine box_event ?hg (N := 7) ?hd (cs := #[.int .i64 0, .int .i64 0]) (t := 93) ?hr ?_; (case hd => rfl); (case hg => rfl); (case hr => first | (go_simp; done) | (go_simp; rfl)); intro g7 hg w7 hbox hb; have HS7 := Aside0.mk (HS.out.step hb); have BK7 := Aside0.mk hbox; have hcz0 : w7.cell? ⟨g7, 0, none⟩ = some (.int .i64 0) := (blk_cell hbox 0).trans rfl; have hcz1 : w7.cell? ⟨g7, 1, none⟩ = some (.int .i64 0) := (blk_cell hbox 1).trans rfl; have hf0 := blk_frozen hbox 0; have hf1 := blk_frozen hbox 1; have hk0 : w7.cell? ⟨g1, 0, none⟩ = some (.slice A0 l0.length c0) := (blk_cell HS7.out.1 0).trans rfl; have hk1 : w7.cell? ⟨g1, 1, none⟩ = some (.slice (some ad) l1.length c1) := (blk_cell HS7.out.1 1).trans rfl; have hk2 : w7.cell? ⟨g1, 2, none⟩ = some (.slice A2 l2.length c2) := (blk_cell HS7.out.1 2).trans rfl; have hn1 : g1 ≠ g7 := (by have := HS.out.lt1; omega); have hn1' : g7 ≠ g1 := fun e => hn1 e.symm; have HN2 := Aside0.mk (show w4.heap.size ≠ g7 by have := HS.out.lt2; omega); have HW7 := Aside0.mk (show w.heap.size ≤ g7 by have := HS.out.2.2.1.size; omega); clear HS hbox hb hg)
                | (go_at_call 15; have HSW := Aside0.mk ((HS7.out.set hn1 HN2.out HW7.out 0 (.int .i64 a)).set hn1 HN2.out HW7.out 1 (.int .i64 b)); have BKW := Aside0.mk (blk_put (blk_put BK7.out 0 (.int .i64 a) rfl) 1 (.int .i64 b) rfl); (with_reducible refine (topo_Port.calls 1 _ _ l0 _ _ l1 _ _ l2 a b 0 _ (Kd.C_below HR0.out HSW.out.below) HC0.out (Kd.C_below HR1.out HSW.out.below) HC1.out (Kd.C_below HR2.out HSW.out.below) HC2.out hport.out).mono ?_); rintro e w8 ⟨rfl, hb8⟩; have hy0 : w8.cell? ⟨g7, 0, none⟩ = some (.int .i64 a) := (blk_cell (blk_below BKW.out hb8) 0).trans rfl; have hy1 : w8.cell? ⟨g7, 1, none⟩ = some (.int .i64 b) := (blk_cell (blk_below BKW.out hb8) 1).trans rfl; have HS8 := Aside0.mk (HSW.out.step hb8); clear hb8 HS7 BK7 hcz0 hcz1 hf0 hf1 hk0 hk1 hk2 BKW HSW)
                | (at_lookup; refine wpList_lookup_b rfl _ _ 110 rfl law93 Try.underlying110 Try.underlying4 (zeroB _) rfl HS8.out.mapB (a, b) rfl HK.out ?_; rw [HSS.out])
                | (at_mapUpdate; refine wpList_update_b rfl _ _ _ 110 rfl law93 Try.underlying110 Try.underlying4 (by unfold maxLen; have := HM2.out; omega) encE_inj rfl HS8.out.mapB (a, b) true rfl rfl HK.out ?_; intro w9 hmb9 hgr9; have HS9 := Aside0.mk (HS8.out.upd hmb9 hgr9); clear hmb9 hgr9))
              go_roundg (2 - (j + 1))
              case measure => have := HJ.out; omega
              case rel => exact ⟨j + 1, m + 1, _, by have := HJ.out; omega, by have := HJ.out; have := HM2.out; omega, by go_num, HE2, HS9⟩
          · have HE := Aside0.mk ((if_pos (show portE l0 a b ≠ 0 from hp)).symm.trans HA.out)
            generalize portE l0 a b = pe at hp HE hport
            have hp1 : (pe != 0) = true := by simpa using hp
            clear HA
            go_wp2_with (first
              | ((with_reducible refine gate_dst (N := 7) rfl ?_); refine box_event ?hg (N := 7) ?hd (cs := #[.int .i64 0, .int .i64 0]) (t := 93) ?hr ?_; (case hd => rfl); (case hg => rfl); (case hr => first | (go_simp; done) | (go_simp; rfl)); intro g7 hg w7 hbox hb; have HS7 := Aside0.mk (HS.out.step hb); have BK7 := Aside0.mk hbox; have hcz0 : w7.cell? ⟨g7, 0, none⟩ = some (.int .i64 0) := (blk_cell hbox 0).trans rfl; have hcz1 : w7.cell? ⟨g7, 1, none⟩ = some (.int .i64 0) := (blk_cell hbox 1).trans rfl; have hf0 := blk_frozen hbox 0; have hf1 := blk_frozen hbox 1; have hk0 : w7.cell? ⟨g1, 0, none⟩ = some (.slice A0 l0.length c0) := (blk_cell HS7.out.1 0).trans rfl; have hk1 : w7.cell? ⟨g1, 1, none⟩ = some (.slice (some ad) l1.length c1) := (blk_cell HS7.out.1 1).trans rfl; have hk2 : w7.cell? ⟨g1, 2, none⟩ = some (.slice A2 l2.length c2) := (blk_cell HS7.out.1 2).trans rfl; have hn1 : g1 ≠ g7 := (by have := HS.out.lt1; omega); have hn1' : g7 ≠ g1 := fun e => hn1 e.symm; have HN2 := Aside0.mk (show w4.heap.size ≠ g7 by have := HS.out.lt2; omega); have HW7 := Aside0.mk (show w.heap.size ≤ g7 by have := HS.out.2.2.1.size; omega); clear HS hbox hb hg)
              | (go_at_call 15; have HSW := Aside0.mk ((HS7.out.set hn1 HN2.out HW7.out 0 (.int .i64 a)).set hn1 HN2.out HW7.out 1 (.int .i64 b)); have BKW := Aside0.mk (blk_put (blk_put BK7.out 0 (.int .i64 a) rfl) 1 (.int .i64 b) rfl); (with_reducible refine (topo_Port.calls 1 _ _ l0 _ _ l1 _ _ l2 a b pe _ (Kd.C_below HR0.out HSW.out.below) HC0.out (Kd.C_below HR1.out HSW.out.below) HC1.out (Kd.C_below HR2.out HSW.out.below) HC2.out hport.out).mono ?_); rintro e w8 ⟨rfl, hb8⟩; have HB8 := Aside0.mk (below_step HSW.out.below hb8); clear hb8))
            go_ret
            exact ⟨by rw [← HE.out]; rfl, HB8.out⟩
        · have hj3 : j = 2 := by omega
          have HA2 := Aside0.mk (show linkGo l0 s (ends (l1.drop (i + 1))) = r by have := HA.out; rw [hj3] at this; exact this)
          clear hj3 hj HA
          go_wp2
          go_roundg (l1.length - (i + 1))
          case measure => have := HI.out; omega
          case rel => exact ⟨i + 1, m, s, by have := HI.out; omega, by have := HJ.out; have := HM2.out; omega, by go_num, HA2, HS⟩
    · have e0 : i = l1.length := by omega
      have H := HA.out
      rw [e0, List.drop_length] at H
      clear e0 HA hi HI HN
      go_wp2
      go_ret
      exact ⟨by rw [← H]; rfl, HS.out.2.2.1⟩
def topo_links.f (l0 : List Int) (l1 : List S39) (l2 : List S52) : Option Int := if l1.length ≤ 1000000 ∧ l0.length ≤ 1000000 ∧ ∀ n ∈ l0, n ≤ 1000000 then some (linkGo l0 (fun _ => false) (ends l1)) else none
theorem topo_links.calls (A0 : Option Addr) (c0 : Nat) (l0 : List Int) (A1 : Option Addr) (c1 : Nat) (l1 : List (S39)) (A2 : Option Addr) (c2 : Nat) (l2 : List (S52)) (r : Int) (w : World) (hr0 : Kd.C (Kd.int .i64) w A0 l0.length l0) (hc0 : l0.length ≤ c0) (hr1 : Kd.C k39 w A1 l1.length l1) (hc1 : l1.length ≤ c1) (hr2 : Kd.C k52 w A2 l2.length l2) (hc2 : l2.length ≤ c2)
    (h : topo_links.f l0 l1 l2 = some r) :
    Calls Try.prog 45 #[.agg #[.slice A0 l0.length c0, .slice A1 l1.length c1, .slice A2 l2.length c2]] w fun e w' => e = .returned (.int .i64 r) ∧ Below w.heap.size w w' := by
  unfold topo_links.f at h
  split at h
  case isFalse => cases h
  rename_i hm
  exact topo_links.walk_ A0 c0 l0 A1 c1 l1 A2 c2 l2 r w hr0 hc0 hr1 hc1 hr2 hc2 hm.1 hm.2.1 hm.2.2 (Option.some.inj h)

end Go.Proofs.Ytdemogdagemagaa.PTg

namespace Go.Proofs.Ytdemogdagemagaa.PTg
open Go.RowKit Go.Proofs.YtdemogdagemagaaW.PrintWords Go.Proofs.YtdemogdagemagaaW.PrintLast Go.Proofs.YtdemogdagemagaaW.PrintMore
attribute [local go_sem] max2_int min2_int max_two min_two max_three min_three max_four min_four   -- for this text's walks alone
set_option linter.unusedVariables false
set_option linter.unusedSimpArgs false

/-! ### cidr_mask: function 68 -/
def cidr_mask.f (a0 : Int) : Option (Int) := if a0 ≤ 0 then (some 0) else (if 0 ≤ (wrap64 (32 - (mn a0 32))) then (some (shl .u32 4294967295 (wrap64 (32 - (mn a0 32))))) else (none))
set_option maxHeartbeats 8000000 in
set_option maxRecDepth 100000 in
theorem cidr_mask.calls (a0 : Int) (r : Int) (w : World) (h : cidr_mask.f a0 = some r) :
    Calls Try.prog 68 #[.int .i64 a0] w fun e w' => e = .returned (.int .u32 r) ∧ Below w.heap.size w w' := by
  have HB := Aside0.mk (Below.refl w.heap.size w)
  have H : (if a0 ≤ 0 then (some 0) else (if 0 ≤ (wrap64 (32 - (mn a0 32))) then (some (shl .u32 4294967295 (wrap64 (32 - (mn a0 32))))) else (none))) = some r := h
  clear h
  by_cases c2 : a0 ≤ 0
  · rw [if_pos c2] at H
    have c2b0 : decide (a0 ≤ 0) = true := decide_eq_true c2
    clear c2
    obtain rfl := Option.some.inj H
    go_enter Try.func68, Try.ntmps68
    go_wp2
    go_ret
    exact ⟨by first | rfl | (simp [errW_none, errW_some] <;> rfl) | (simp [*, errW_none, errW_some] <;> rfl), by repeat (first | (with_reducible first | exact HB.out | apply below_alloc | apply pw_below_drewN | apply below_drew1) | exact HB.out)⟩
  · rw [if_neg c2] at H
    have c2b0 : decide (a0 ≤ 0) = false := decide_eq_false c2
    clear c2
    obtain ⟨ji3, hji3⟩ : ∃ j_ : Int, (mn a0 32) = j_ := ⟨_, rfl⟩
    replace H : (if 0 ≤ (wrap64 (32 - (ji3))) then (some (shl .u32 4294967295 (wrap64 (32 - (ji3))))) else (none)) = some r := by first | (rw [hji3] at H; exact H) | (simp only [hji3] at H ⊢; exact H)
    (try (have hji3h : ji3 ≤ 32 := by (rw [← hji3]; unfold mn; (repeat' split) <;> omega)))
    (try (have hji3g : ji3 ≤ 64 := by omega))
    have hji3_ : (if 32 < a0 then 32 else a0) = ji3 := hji3
    obtain ⟨ji4, hji4⟩ : ∃ j_ : Int, (wrap64 (32 - (ji3))) = j_ := ⟨_, rfl⟩
    replace H : (if 0 ≤ (ji4) then (some (shl .u32 4294967295 (ji4))) else (none)) = some r := by first | (rw [hji4] at H; exact H) | (simp only [hji4] at H ⊢; exact H)
    have hji4w : (IntKind.i64.wrap (32 - (ji3))) = ji4 := (i64_w _).trans hji4
    by_cases c5 : 0 ≤ (ji4)
    · rw [if_pos c5] at H
      have c5b0 := eq_true c5
      have c5b1 : decide (0 ≤ (ji4)) = true := decide_eq_true c5
      clear c5
      obtain ⟨ji6, hji6⟩ : ∃ j_ : Int, (shl .u32 4294967295 (ji4)) = j_ := ⟨_, rfl⟩
      replace H : (some ji6) = some r := by first | (rw [hji6] at H; exact H) | (simp only [hji6] at H ⊢; exact H)
      have hji6_ : (IntKind.u32.wrap (4294967295 * 2 ^ min (ji4).toNat 32)) = ji6 := hji6
      have hji6z : (ji4) ≤ 32 → (IntKind.u32.wrap (4294967295 * 2 ^ (ji4).toNat)) = ji6 := shl_small hji6
      obtain rfl := Option.some.inj H
      go_enter Try.func68, Try.ntmps68
      go_wp2
      go_ret
      exact ⟨by first | rfl | (simp [errW_none, errW_some] <;> rfl) | (simp only [← hji3, ← hji4, ← hji6]; first | rfl | (simp [errW_none, errW_some] <;> rfl)) | (simp [*, errW_none, errW_some] <;> rfl), by repeat (first | (with_reducible first | exact HB.out | apply below_alloc | apply pw_below_drewN | apply below_drew1) | exact HB.out)⟩
    · rw [if_neg c5] at H
      exact absurd H (by simp)

end Go.Proofs.Ytdemogdagemagaa.PTg
