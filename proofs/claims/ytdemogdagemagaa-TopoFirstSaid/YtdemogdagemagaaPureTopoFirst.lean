/- crossbucklaw05.TopoFirst answers true for every topology, port and header: as numbers. No condition of its own. -/
import Derived.Test.YtdemogdagemagaaTopo
import Derived.Test.YtdemogdagemagaaFactsTt
import Derived.Test.YtdemogdagemagaaPTgx12
import Derived.Test.YtdemogdagemagaaPTgx13
namespace Go.Proofs.Ytdemogdagemagaa.Pure
open Go Go.RowKit Go.Proofs.Ytdemogdagemagaa.PTg Go.Proofs.YtdemogdagemagaaW.PrintWords Go.Proofs.YtdemogdagemagaaW.PrintLast Go.Proofs.YtdemogdagemagaaW.PrintMore Go.Proofs.Ytdemogdagemagaa.Facts
set_option linter.unusedVariables false
set_option linter.unusedSimpArgs false
/-- The first entry of a port, and a way, that a header passes tells. -/
def permGo (d p : Int) (i : Bool) (h : Hdr) : List S52 → Bool
  | [] => true
  | a :: r => if a.f0 = d ∧ a.f1 = p ∧ a.f2 = i ∧ matchB (flt a) h = true then a.f3 else permGo d p i h r
theorem permGo_skip {d p : Int} {i : Bool} {h : Hdr} {a : S52} {r : List S52} (hn : ¬ (a.f0 = d ∧ a.f1 = p ∧ a.f2 = i ∧ matchB (flt a) h = true)) : permGo d p i h (a :: r) = permGo d p i h r := if_neg hn
theorem permGo_hit {d p : Int} {i : Bool} {h : Hdr} {a : S52} {r : List S52} (hn : a.f0 = d ∧ a.f1 = p ∧ a.f2 = i ∧ matchB (flt a) h = true) : permGo d p i h (a :: r) = a.f3 := if_pos hn
/-- Entries that Check lets be: their filters may be. -/
def AcesRight (acs : List S52) : Prop := ∀ a ∈ acs, (flt a).bd ∧ checkV (flt a) = 0
theorem right_of {ps : List Int} {acs : List S52} (h : ∀ a ∈ acs, (flt a).bd) (h0 : aceGo ps acs = 0) : AcesRight acs := by
  induction acs with
  | nil => intro a ha; cases ha
  | cons x r ih =>
    rw [aceGo] at h0
    by_cases c : portE ps x.f0 x.f1 = 0
    · rw [if_pos c] at h0
      by_cases c2 : checkV (flt x) = 0
      · rw [if_pos c2] at h0
        intro a ha
        rcases List.mem_cons.1 ha with rfl | ha
        · exact ⟨h _ List.mem_cons_self, c2⟩
        · exact ih (fun a ha => h a (List.mem_cons_of_mem _ ha)) h0 a ha
      · rw [if_neg c2] at h0; exact absurd h0 c2
    · rw [if_neg c] at h0; exact absurd h0 c
theorem topoV_zero {ps : List Int} {ls : List S39} {acs : List S52} (h : topoV ps ls acs = 0) : ps.length ≤ 16 ∧ acs.length ≤ 32 ∧ ps.any badN = false ∧ linkGo ps (fun _ => false) (ends ls) = 0 ∧ aceGo ps acs = 0 := by
  unfold topoV at h
  split at h
  · cases h
  · rename_i c
    split at h
    · cases h
    · rename_i c2
      split at h
      · rename_i c3
        exact ⟨by omega, by omega, by simpa using c2, c3, h⟩
      · rename_i c3; exact absurd h c3
theorem filt {a : S52} (h : (flt a).bd ∧ checkV (flt a) = 0) {x : Hdr} (hx : x.bd) : filter_Match.f a.f4.f0.f0 a.f4.f0.f1 a.f4.f1.f0 a.f4.f1.f1 a.f4.f2 a.f4.f3.f0 a.f4.f3.f1 a.f4.f4.f0 a.f4.f4.f1 x.1 x.2 x.3 x.4 x.5 = some (matchB (flt a) x) := by
  obtain ⟨r1, r2, _⟩ := checkV_zero.1 h.2
  obtain ⟨b0, b1, _⟩ := rightB_iff.1 r1
  obtain ⟨c0, c1, _⟩ := rightB_iff.1 r2
  exact tmatch_eq h.1 hx b0 b1 c0 c1
theorem tPermit_ev (ps : List Int) (ls : List S39) (acs : List S52) (hn : acs.length ≤ 1000000) (hr : AcesRight acs) (d p : Int) (b : Bool) (x : Hdr) (hx : x.bd) : Ev (fun k => topo_Permit.f k ps ls acs d p b x.1 x.2 x.3 x.4 x.5) (permGo d p b x acs) := by
  have h : ∀ e i : Nat, i + e = acs.length → Ev (fun k => topo_Permit.l0 k d p b acs (acs.length : Int) (i : Int) x.1 x.2 x.3 x.4 x.5) (permGo d p b x (acs.drop i)) := by
    intro e
    induction e with
    | zero =>
      intro i hi
      obtain rfl : i = acs.length := by omega
      rw [List.drop_length]
      exact Ev.step (f := fun _ => some true) (fun k => by rw [topo_Permit.l0, if_neg (by omega)]) (Ev.now _)
    | succ e ih =>
      intro i hi
      have hlt : i < acs.length := by omega
      have hw : wrap64 ((i : Int) + 1) = ((i + 1 : Nat) : Int) := by rw [wr1 (n := 1000000) (by omega) (by omega) (by omega)]; omega
      have h3 := ih (i + 1) (by omega)
      have hm := filt (hr _ (mem52 hlt)) hx
      rw [drop52 hlt]
      generalize ha : rd_T52 acs (i : Int) = a at hm
      by_cases c1 : a.f0 = d
      · by_cases c2 : a.f1 = p
        · by_cases c3 : (a.f2 == b) = true
          · by_cases c4 : matchB (flt a) x = true
            · rw [permGo_hit ⟨c1, c2, by simpa using c3, c4⟩]
              exact Ev.step (f := fun _ => some a.f3) (fun k => by rw [topo_Permit.l0, if_pos (by omega), if_pos (by omega), if_pos (by omega), ha, if_pos c1, if_pos c2, if_pos c3, hm, Option.bind_some, if_pos c4]) (Ev.now _)
            · rw [permGo_skip (fun h => c4 h.2.2.2)]
              exact Ev.step (fun k => by rw [topo_Permit.l0, if_pos (by omega), if_pos (by omega), if_pos (by omega), ha, if_pos c1, if_pos c2, if_pos c3, hm, Option.bind_some, if_neg c4, hw]) h3
          · rw [permGo_skip (fun h => c3 (by simpa using h.2.2.1))]
            exact Ev.step (fun k => by rw [topo_Permit.l0, if_pos (by omega), if_pos (by omega), if_pos (by omega), ha, if_pos c1, if_pos c2, if_neg c3, hw]) h3
        · rw [permGo_skip (fun h => c2 h.2.1)]
          exact Ev.step (fun k => by rw [topo_Permit.l0, if_pos (by omega), if_pos (by omega), if_pos (by omega), ha, if_pos c1, if_neg c2, hw]) h3
      · rw [permGo_skip (fun h => c1 h.1)]
        exact Ev.step (fun k => by rw [topo_Permit.l0, if_pos (by omega), if_pos (by omega), if_pos (by omega), ha, if_neg c1, hw]) h3
  exact h acs.length 0 (by omega)
/-- The filter that all pass. -/
def opn : S50 := ⟨⟨0, 0⟩, ⟨0, 0⟩, -1, ⟨0, 65535⟩, ⟨0, 65535⟩⟩
def one (d p : Int) (i m : Bool) : S52 := ⟨d, p, i, m, opn⟩
def allF : Flt := ⟨0, 0, 0, 0, -1, 0, 65535, 0, 65535⟩
theorem allF_right : allF.bd ∧ checkV allF = 0 :=
  ⟨⟨⟨by decide, by decide⟩, ⟨by decide, by decide⟩, ⟨by decide, by decide⟩, ⟨by decide, by decide⟩, ⟨by decide, by decide⟩, ⟨by decide, by decide⟩⟩, by decide⟩
theorem one_right (d p : Int) (i m : Bool) : (flt (one d p i m)).bd ∧ checkV (flt (one d p i m)) = 0 := allF_right
theorem one_match (d p : Int) (i m : Bool) {h : Hdr} (hh : h.bd) : matchB (flt (one d p i m)) h = true := by
  obtain ⟨⟨p0, p1⟩, ⟨q0, q1⟩, _, ⟨r0, r1⟩, ⟨s0, s1⟩⟩ := hh
  have z : sz 0 = 4294967296 := by decide
  have hd : ∀ x : Int, 0 ≤ x → x < 4294967296 → hasB 0 0 x = true := by
    intro x y0 y1
    rw [hasB_iff, z]
    omega
  show (((-1 : Int) == -1 || (-1 : Int) == h.3) && (decide ((0 : Int) ≤ h.4) && decide (h.4 ≤ 65535)) && (decide ((0 : Int) ≤ h.5) && decide (h.5 ≤ 65535)) && (hasB 0 0 h.1 && hasB 0 0 h.2)) = true
  rw [hd h.1 p0 p1, hd h.2 q0 q1, decide_eq_true r0, decide_eq_true (show h.4 ≤ 65535 by omega), decide_eq_true s0, decide_eq_true (show h.5 ≤ 65535 by omega)]
  rfl
theorem perm_snoc (d p : Int) (i : Bool) (h : Hdr) (x : S52) (hx : x.f3 = true) (l : List S52) : permGo d p i h (l ++ [x]) = permGo d p i h l := by
  induction l with
  | nil =>
    show permGo d p i h [x] = true
    rw [permGo]
    split
    · exact hx
    · rfl
  | cons a r ih =>
    rw [List.cons_append, permGo, permGo, ih]
theorem TopoFirst (ps : List Int) (ls : List S39) (acs : List S52) (dev port : Int) (i m : Bool) (h0 h1 h2 h3 h4 : Int) (g0 : ∀ p ∈ ps, (Lit.int .i64 p).wf = true)
    (g1 : ∀ p ∈ ls, (Lit.int .i64 p.f0).wf = true ∧ (Lit.int .i64 p.f1).wf = true ∧ (Lit.int .i64 p.f2).wf = true ∧ (Lit.int .i64 p.f3).wf = true) (g2 : AcesGood acs)
    (w1 : (Lit.int .i64 dev).wf = true) (w2 : (Lit.int .i64 port).wf = true) (x0 : (Lit.int .u32 h0).wf = true) (x1 : (Lit.int .u32 h1).wf = true) (x2 : (Lit.int .u8 h2).wf = true) (x3 : (Lit.int .u16 h3).wf = true) (x4 : (Lit.int .u16 h4).wf = true) :
    ∃ k, crossbucklaw05_TopoFirst.f k ps ls acs dev port i m h0 h1 h2 h3 h4 = some true := by
  refine Ev.rounds ?_
  unfold crossbucklaw05_TopoFirst.f
  rw [light_eq]
  simp only [Option.bind_some]
  have hout : Ev (fun k => crossbucklaw05_TopoFirst.j0 k dev port i m true ps ls acs h0 h1 h2 h3 h4) true :=
    Ev.step (fun k => by rw [crossbucklaw05_TopoFirst.j0, if_pos rfl]) (Ev.bind awake05_ev (Ev.now _))
  by_cases c : ps.length ≤ 40 ∧ ls.length ≤ 100 ∧ acs.length ≤ 60
  · obtain ⟨c1, c2, c3⟩ := c
    simp only [decide_eq_true (show ps.length ≤ 40 ∧ ls.length ≤ 100 ∧ acs.length ≤ 60 from ⟨c1, c2, c3⟩), if_true]
    refine Ev.bind (rCheck_ev ps ls acs (by omega) (by omega) (by omega) g2.bd) ?_
    by_cases cv : topoV ps ls acs = 0
    · simp only [if_pos cv]
      refine Ev.bind (rPort_ev ps ls acs dev port) ?_
      by_cases cp : portE ps dev port = 0
      · simp only [if_pos cp]
        by_cases cl : (acs.length : Int) > 30
        · rw [decide_eq_true cl]
          exact hout
        · rw [decide_eq_false cl]
          let x : Hdr := ⟨h0, h1, h2, h3, h4⟩
          have hx : x.bd := ⟨u32_bd x0, u32_bd x1, u8_bd x2, u16_bd x3, u16_bd x4⟩
          obtain ⟨z1, z2, z3, z4, hz⟩ := topoV_zero cv
          have hr := right_of g2.bd hz
          have hr1 : ∀ b k : Bool, AcesRight ([one dev port b k] ++ acs) := by
            intro b k a ha
            rcases List.mem_append.1 ha with ha | ha
            · rw [List.mem_singleton] at ha
              subst ha
              exact one_right _ _ _ _
            · exact hr a ha
          have hr2 : AcesRight ([] ++ acs ++ [one dev port i true]) := by
            intro a ha
            rcases List.mem_append.1 ha with ha | ha
            · exact hr a (by simpa using ha)
            · rw [List.mem_singleton] at ha
              subst ha
              exact one_right _ _ _ _
          have b1 : ([one dev port i m] : List S52).length + acs.length < 1954687338268 := by simp only [List.length_cons, List.length_nil]; omega
          have b2 : ([one dev port (!i) m] : List S52).length + acs.length < 1954687338268 := by simp only [List.length_cons, List.length_nil]; omega
          have b3 : ([] : List S52).length + acs.length < 1954687338268 := by simp only [List.length_nil]; omega
          have b4 : ([] ++ acs : List S52).length + ([one dev port i true] : List S52).length < 1954687338268 := by simp only [List.length_append, List.length_cons, List.length_nil]; omega
          refine Ev.step (fun k => by rw [crossbucklaw05_TopoFirst.j0, if_neg (by decide)]) (Ev.bind (tPermit_ev ps ls acs (by omega) hr dev port i x hx) ?_)
          simp only [Option.bind_some]
          have e1 : (⟨dev, port, i, m, (⟨(⟨0, 0⟩ : S48), (⟨0, 0⟩ : S48), (-1), (⟨0, 65535⟩ : S46), (⟨0, 65535⟩ : S46)⟩ : S50)⟩ : S52) = one dev port i m := rfl
          have e2 : (⟨dev, port, !i, m, (⟨(⟨0, 0⟩ : S48), (⟨0, 0⟩ : S48), (-1), (⟨0, 65535⟩ : S46), (⟨0, 65535⟩ : S46)⟩ : S50)⟩ : S52) = one dev port (!i) m := rfl
          have e3 : (⟨dev, port, i, true, (⟨(⟨0, 0⟩ : S48), (⟨0, 0⟩ : S48), (-1), (⟨0, 65535⟩ : S46), (⟨0, 65535⟩ : S46)⟩ : S50)⟩ : S52) = one dev port i true := rfl
          simp only [e1, e2, e3]
          simp only [if_pos b1, if_pos b2, if_pos b3, if_pos b4]
          refine Ev.bind awake05_ev ?_
          simp only [if_true]
          have p1 : permGo dev port i x ([one dev port i m] ++ acs) = m := by
            show permGo dev port i x (one dev port i m :: acs) = m
            exact permGo_hit ⟨rfl, rfl, rfl, one_match _ _ _ _ hx⟩
          have p2 : permGo dev port i x ([one dev port (!i) m] ++ acs) = permGo dev port i x acs := by
            show permGo dev port i x (one dev port (!i) m :: acs) = _
            refine permGo_skip (fun h => ?_)
            have : (!i) = i := h.2.2.1
            cases i <;> simp at this
          have p3 : permGo dev port i x ([] ++ acs ++ [one dev port i true]) = permGo dev port i x acs := by
            rw [List.nil_append]
            exact perm_snoc _ _ _ _ _ rfl _
          have q1 := tPermit_ev ps ls _ (by simp only [List.length_append, List.length_cons, List.length_nil]; omega) (hr1 i m) dev port i x hx
          have q2 := tPermit_ev ps ls _ (by simp only [List.length_append, List.length_cons, List.length_nil]; omega) (hr1 (!i) m) dev port i x hx
          have q3 := tPermit_ev ps ls _ (by simp only [List.length_append, List.length_cons, List.length_nil]; omega) hr2 dev port i x hx
          rw [p1] at q1
          rw [p2] at q2
          rw [p3] at q3
          refine Ev.bind q1 ?_
          simp only [beq_self_eq_true, if_true]
          refine Ev.bind q2 ?_
          simp only [beq_self_eq_true, if_true]
          refine Ev.bind q3 ?_
          simp only [beq_self_eq_true, if_true]
          refine Ev.bind (tCheck_ev ps ls ([one dev port i m] ++ acs) (by omega) (fun a ha => (hr1 i m a ha).1)) ?_
          have ht : topoV ps ls ([one dev port i m] ++ acs) = 0 := by
            have hz2 : ¬ (ps.length < 1 ∨ 16 < ps.length ∨ 32 < acs.length) := fun h => by
              unfold topoV at cv
              rw [if_pos h] at cv
              cases cv
            unfold topoV
            rw [if_neg (by simp only [List.length_append, List.length_cons, List.length_nil]; omega), if_neg (by rw [z3]; decide), if_pos z4]
            show aceGo ps (one dev port i m :: acs) = 0
            rw [aceGo, if_pos (show portE ps (one dev port i m).f0 (one dev port i m).f1 = 0 from cp), if_pos (one_right _ _ _ _).2]
            exact hz
          rw [ht]
          exact Ev.now _
      · simp only [if_neg cp]
        exact hout
    · simp only [if_neg cv]
      exact hout
  · simp only [decide_eq_false c, Bool.false_eq_true, if_false]
    exact hout
end Go.Proofs.Ytdemogdagemagaa.Pure
