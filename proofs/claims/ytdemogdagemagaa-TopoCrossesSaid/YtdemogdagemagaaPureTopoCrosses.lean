/- crossbucklaw05.TopoCrosses answers true for every topology, port and header: as numbers. No condition of its own. -/
import Derived.Test.YtdemogdagemagaaTopo
import Derived.Test.YtdemogdagemagaaFactsTm
import Derived.Test.YtdemogdagemagaaPTrx12
import Derived.Test.YtdemogdagemagaaPTrx13
import Derived.Test.YtdemogdagemagaaPTrx14
import Derived.Test.YtdemogdagemagaaPTrx17
import Derived.Test.YtdemogdagemagaaPTrx18
import Derived.Test.YtdemogdagemagaaPTrx19
namespace Go.Proofs.Ytdemogdagemagaa.Pure
open Go Go.RowKit Go.Proofs.Ytdemogdagemagaa.PTr Go.Proofs.YtdemogdagemagaaW.PrintWords Go.Proofs.YtdemogdagemagaaW.PrintLast Go.Proofs.YtdemogdagemagaaW.PrintMore Go.Proofs.Ytdemogdagemagaa.Facts
set_option linter.unusedVariables false
/-- The first entry of a port, and a way, that a header passes tells. -/
def permGo (d p : Int) (i : Bool) (h : Hdr) : List S52 → Bool
  | [] => true
  | a :: r => if a.f0 = d ∧ a.f1 = p ∧ a.f2 = i ∧ matchB (flt a) h = true then a.f3 else permGo d p i h r
theorem permGo_skip {d p : Int} {i : Bool} {h : Hdr} {a : S52} {r : List S52} (hn : ¬ (a.f0 = d ∧ a.f1 = p ∧ a.f2 = i ∧ matchB (flt a) h = true)) : permGo d p i h (a :: r) = permGo d p i h r := if_neg hn
theorem permGo_hit {d p : Int} {i : Bool} {h : Hdr} {a : S52} {r : List S52} (hn : a.f0 = d ∧ a.f1 = p ∧ a.f2 = i ∧ matchB (flt a) h = true) : permGo d p i h (a :: r) = a.f3 := if_pos hn
/-- Entries that Check lets be: their filters may be. -/
def AcesRight (acs : List S52) : Prop := ∀ a ∈ acs, (flt a).bd ∧ checkV (flt a) = 0
theorem right_of {ps : List Int} {acs : List S52} (h : ∀ a ∈ acs, (flt a).bd) (h0 : aceGo ps acs = 0) : AcesRight acs := by
  induction acs with
  | nil => intro a ha; cases ha
  | cons x r ih =>
    rw [aceGo] at h0
    by_cases c : portE ps x.f0 x.f1 = 0
    · rw [if_pos c] at h0
      by_cases c2 : checkV (flt x) = 0
      · rw [if_pos c2] at h0
        intro a ha
        rcases List.mem_cons.1 ha with rfl | ha
        · exact ⟨h _ List.mem_cons_self, c2⟩
        · exact ih (fun a ha => h a (List.mem_cons_of_mem _ ha)) h0 a ha
      · rw [if_neg c2] at h0; exact absurd h0 c2
    · rw [if_neg c] at h0; exact absurd h0 c
theorem topoV_zero {ps : List Int} {ls : List S39} {acs : List S52} (h : topoV ps ls acs = 0) : ps.length ≤ 16 ∧ acs.length ≤ 32 ∧ ps.any badN = false ∧ linkGo ps (fun _ => false) (ends ls) = 0 ∧ aceGo ps acs = 0 := by
  unfold topoV at h
  split at h
  · cases h
  · rename_i c
    split at h
    · cases h
    · rename_i c2
      split at h
      · rename_i c3
        exact ⟨by omega, by omega, by simpa using c2, c3, h⟩
      · rename_i c3; exact absurd h c3
theorem filt {a : S52} (h : (flt a).bd ∧ checkV (flt a) = 0) {x : Hdr} (hx : x.bd) : filter_Match.f a.f4.f0.f0 a.f4.f0.f1 a.f4.f1.f0 a.f4.f1.f1 a.f4.f2 a.f4.f3.f0 a.f4.f3.f1 a.f4.f4.f0 a.f4.f4.f1 x.1 x.2 x.3 x.4 x.5 = some (matchB (flt a) x) := by
  obtain ⟨r1, r2, _⟩ := checkV_zero.1 h.2
  obtain ⟨b0, b1, _⟩ := rightB_iff.1 r1
  obtain ⟨c0, c1, _⟩ := rightB_iff.1 r2
  exact tmatch_eq h.1 hx b0 b1 c0 c1
theorem rfilt {a : S52} (h : (flt a).bd ∧ checkV (flt a) = 0) {x : Hdr} (hx : x.bd) {k : Nat} (hk : 40 ≤ k) : crossbuckref04_Match.f k a.f4.f0.f0 a.f4.f0.f1 a.f4.f1.f0 a.f4.f1.f1 a.f4.f2 a.f4.f3.f0 a.f4.f3.f1 a.f4.f4.f0 a.f4.f4.f1 x.1 x.2 x.3 x.4 x.5 = some (matchB (flt a) x) := by
  obtain ⟨r1, r2, _⟩ := checkV_zero.1 h.2
  obtain ⟨b0, b1, _⟩ := rightB_iff.1 r1
  obtain ⟨c0, c1, _⟩ := rightB_iff.1 r2
  exact match_eq hk h.1 hx b0 b1 c0 c1
theorem tPermit_ev (ps : List Int) (ls : List S39) (acs : List S52) (hn : acs.length ≤ 1000000) (hr : AcesRight acs) (d p : Int) (b : Bool) (x : Hdr) (hx : x.bd) : Ev (fun k => topo_Permit.f k ps ls acs d p b x.1 x.2 x.3 x.4 x.5) (permGo d p b x acs) := by
  have h : ∀ e i : Nat, i + e = acs.length → Ev (fun k => topo_Permit.l0 k d p b acs (acs.length : Int) (i : Int) x.1 x.2 x.3 x.4 x.5) (permGo d p b x (acs.drop i)) := by
    intro e
    induction e with
    | zero =>
      intro i hi
      obtain rfl : i = acs.length := by omega
      rw [List.drop_length]
      exact Ev.step (f := fun _ => some true) (fun k => by rw [topo_Permit.l0, if_neg (by omega)]) (Ev.now _)
    | succ e ih =>
      intro i hi
      have hlt : i < acs.length := by omega
      have hw : wrap64 ((i : Int) + 1) = ((i + 1 : Nat) : Int) := by rw [wr1 (n := 1000000) (by omega) (by omega) (by omega)]; omega
      have h3 := ih (i + 1) (by omega)
      have hm := filt (hr _ (mem52 hlt)) hx
      rw [drop52 hlt]
      generalize ha : rd_T52 acs (i : Int) = a at hm
      by_cases c1 : a.f0 = d
      · by_cases c2 : a.f1 = p
        · by_cases c3 : (a.f2 == b) = true
          · by_cases c4 : matchB (flt a) x = true
            · rw [permGo_hit ⟨c1, c2, by simpa using c3, c4⟩]
              exact Ev.step (f := fun _ => some a.f3) (fun k => by rw [topo_Permit.l0, if_pos (by omega), if_pos (by omega), if_pos (by omega), ha, if_pos c1, if_pos c2, if_pos c3, hm, Option.bind_some, if_pos c4]) (Ev.now _)
            · rw [permGo_skip (fun h => c4 h.2.2.2)]
              exact Ev.step (fun k => by rw [topo_Permit.l0, if_pos (by omega), if_pos (by omega), if_pos (by omega), ha, if_pos c1, if_pos c2, if_pos c3, hm, Option.bind_some, if_neg c4, hw]) h3
          · rw [permGo_skip (fun h => c3 (by simpa using h.2.2.1))]
            exact Ev.step (fun k => by rw [topo_Permit.l0, if_pos (by omega), if_pos (by omega), if_pos (by omega), ha, if_pos c1, if_pos c2, if_neg c3, hw]) h3
        · rw [permGo_skip (fun h => c2 h.2.1)]
          exact Ev.step (fun k => by rw [topo_Permit.l0, if_pos (by omega), if_pos (by omega), if_pos (by omega), ha, if_pos c1, if_neg c2, hw]) h3
      · rw [permGo_skip (fun h => c1 h.1)]
        exact Ev.step (fun k => by rw [topo_Permit.l0, if_pos (by omega), if_pos (by omega), if_pos (by omega), ha, if_neg c1, hw]) h3
  exact h acs.length 0 (by omega)
theorem rPermit_ev (ps : List Int) (ls : List S39) (acs : List S52) (hn : acs.length ≤ 1000000) (hr : AcesRight acs) (d p : Int) (b : Bool) (x : Hdr) (hx : x.bd) : Ev (fun k => crossbuckref05_Permit.f k ps ls acs d p b x.1 x.2 x.3 x.4 x.5) (permGo d p b x acs) := by
  have h : ∀ e i : Nat, i + e = acs.length → Ev (fun k => crossbuckref05_Permit.l0 k d p b (i : Int) ps ls acs x.1 x.2 x.3 x.4 x.5) (permGo d p b x (acs.drop i)) := by
    intro e
    induction e with
    | zero =>
      intro i hi
      obtain rfl : i = acs.length := by omega
      rw [List.drop_length]
      exact Ev.step (f := fun _ => some true) (fun k => by rw [crossbuckref05_Permit.l0, if_neg (by omega)]) (Ev.now _)
    | succ e ih =>
      intro i hi
      have hlt : i < acs.length := by omega
      have hw : wrap64 ((i : Int) + 1) = ((i + 1 : Nat) : Int) := by rw [wr1 (n := 1000000) (by omega) (by omega) (by omega)]; omega
      have h3 := ih (i + 1) (by omega)
      have hm : Ev (fun k => crossbuckref04_Match.f k (rd_T52 acs (i : Int)).f4.f0.f0 (rd_T52 acs (i : Int)).f4.f0.f1 (rd_T52 acs (i : Int)).f4.f1.f0 (rd_T52 acs (i : Int)).f4.f1.f1 (rd_T52 acs (i : Int)).f4.f2 (rd_T52 acs (i : Int)).f4.f3.f0 (rd_T52 acs (i : Int)).f4.f3.f1 (rd_T52 acs (i : Int)).f4.f4.f0 (rd_T52 acs (i : Int)).f4.f4.f1 x.1 x.2 x.3 x.4 x.5) (matchB (flt (rd_T52 acs (i : Int))) x) := ⟨40, fun k hk => rfilt (hr _ (mem52 hlt)) hx hk⟩
      rw [drop52 hlt]
      generalize ha : rd_T52 acs (i : Int) = a at hm
      by_cases c1 : a.f0 = d
      · by_cases c2 : a.f1 = p
        · by_cases c3 : (a.f2 == b) = true
          · refine Ev.step (fun k => by rw [crossbuckref05_Permit.l0, if_pos (by omega), if_pos (by omega), ha, if_pos c1, if_pos c2, if_pos c3]) (Ev.bind hm ?_)
            by_cases c4 : matchB (flt a) x = true
            · rw [permGo_hit ⟨c1, c2, by simpa using c3, c4⟩]
              simp only [if_pos c4]
              exact Ev.now _
            · rw [permGo_skip (fun h => c4 h.2.2.2)]
              simp only [if_neg c4]
              rw [hw]
              exact h3
          · rw [permGo_skip (fun h => c3 (by simpa using h.2.2.1))]
            exact Ev.step (fun k => by rw [crossbuckref05_Permit.l0, if_pos (by omega), if_pos (by omega), ha, if_pos c1, if_pos c2, if_neg c3, hw]) h3
        · rw [permGo_skip (fun h => c2 h.2.1)]
          exact Ev.step (fun k => by rw [crossbuckref05_Permit.l0, if_pos (by omega), if_pos (by omega), ha, if_pos c1, if_neg c2, hw]) h3
      · rw [permGo_skip (fun h => c1 h.1)]
        exact Ev.step (fun k => by rw [crossbuckref05_Permit.l0, if_pos (by omega), if_pos (by omega), ha, if_neg c1, hw]) h3
  exact h acs.length 0 (by omega)
theorem rd90_two (ls : List S39) (j : Nat) (h : j < ls.length) : rd_T90 (endsS ls) ((2 * j : Nat) : Int) = ⟨(rd_T39 ls (j : Int)).f0, (rd_T39 ls (j : Int)).f1⟩ ∧ rd_T90 (endsS ls) ((2 * j + 1 : Nat) : Int) = ⟨(rd_T39 ls (j : Int)).f2, (rd_T39 ls (j : Int)).f3⟩ := by
  induction ls generalizing j with
  | nil => cases h
  | cons x l ih =>
    have e : endsS (x :: l) = ⟨x.f0, x.f1⟩ :: ⟨x.f2, x.f3⟩ :: endsS l := rfl
    cases j with
    | zero => exact ⟨rfl, rfl⟩
    | succ j =>
      have := ih j (by simpa using h)
      have e1 : 2 * (j + 1) = 2 * j + 1 + 1 := by omega
      have e2 : 2 * (j + 1) + 1 = 2 * j + 1 + 1 + 1 := by omega
      rw [e, e2, e1]
      simp only [rd_T90, rd_T39, Int.toNat_natCast, List.getD_cons_succ] at this ⊢
      exact this
theorem rPeer_ev (ps : List Int) (ls : List S39) (acs : List S52) (hl : ls.length ≤ 400000) (a b : Int) : Ev (fun k => crossbuckref05_Peer.f k ps ls acs a b) (peerGo a b ls) := by
  have hlen := endsS_len ls
  have h : ∀ d i : Nat, i + d = ls.length → Ev (fun k => crossbuckref05_Peer.l0 k a b (endsS ls) ((2 * i : Nat) : Int)) (peerGo a b (ls.drop i)) := by
    intro d
    induction d with
    | zero =>
      intro i hi
      obtain rfl : i = ls.length := by omega
      rw [List.drop_length]
      exact Ev.step (f := fun _ => some (0, 0, false)) (fun k => by rw [crossbuckref05_Peer.l0, if_neg (by omega)]) (Ev.now _)
    | succ d ih =>
      intro i hi
      have hlt : i < ls.length := by omega
      have hw1 : wrap64 (((2 * i : Nat) : Int) + 1) = ((2 * i + 1 : Nat) : Int) := by rw [wr1 (n := 1000000) (by omega) (by omega) (by omega)]; omega
      have hw2 : wrap64 (((2 * i + 1 : Nat) : Int) + 1) = ((2 * (i + 1) : Nat) : Int) := by rw [wr1 (n := 1000000) (by omega) (by omega) (by omega)]; omega
      have hw3 : wrap64 (((2 * i + 1 : Nat) : Int) - 1) = ((2 * i : Nat) : Int) := by unfold wrap64; omega
      have h3 := ih (i + 1) (by omega)
      obtain ⟨r1, r2⟩ := rd90_two ls i hlt
      rw [drop39 hlt, peerGo]
      generalize rd_T39 ls (i : Int) = x at r1 r2
      have m1 : Int.tmod ((2 * i : Nat) : Int) 2 = 0 := by rw [Int.tmod_eq_emod_of_nonneg (by omega)]; omega
      have m2 : Int.tmod ((2 * i + 1 : Nat) : Int) 2 = 1 := by rw [Int.tmod_eq_emod_of_nonneg (by omega)]; omega
      have t1 : (x.f0 == a && x.f1 == b) = (a == x.f0 && b == x.f1) := by rw [BEq.comm (a := a), BEq.comm (a := b)]
      have t2 : (x.f2 == a && x.f3 == b) = (a == x.f2 && b == x.f3) := by rw [BEq.comm (a := a), BEq.comm (a := b)]
      by_cases c1 : (a == x.f0 && b == x.f1) = true
      · rw [if_pos c1]
        refine Ev.step (f := fun _ => some (x.f2, x.f3, true)) (fun k => ?_) (Ev.now _)
        rw [crossbuckref05_Peer.l0, if_pos (by omega), if_pos (by omega), r1, t1, if_pos c1, m1, if_neg (by decide), hw1, if_pos (by omega), if_pos (by omega), r2]
      · rw [if_neg c1]
        refine Ev.step (f := fun k => crossbuckref05_Peer.l0 k a b (endsS ls) ((2 * i + 1 : Nat) : Int)) (fun k => by rw [crossbuckref05_Peer.l0, if_pos (by omega), if_pos (by omega), r1, t1, if_neg c1, hw1]) ?_
        by_cases c2 : (a == x.f2 && b == x.f3) = true
        · rw [if_pos c2]
          refine Ev.step (f := fun _ => some (x.f0, x.f1, true)) (fun k => ?_) (Ev.now _)
          rw [crossbuckref05_Peer.l0, if_pos (by omega), if_pos (by omega), r2, t2, if_pos c2, m2, if_pos rfl, hw3, if_pos (by omega), if_pos (by omega), r1]
        · rw [if_neg c2]
          exact Ev.step (fun k => by rw [crossbuckref05_Peer.l0, if_pos (by omega), if_pos (by omega), r2, t2, if_neg c2, hw2]) h3
  unfold crossbuckref05_Peer.f
  exact Ev.bind (rEnds_ev ps ls acs (by omega)) (h ls.length 0 (by omega))
def crossGo (ls : List S39) (acs : List S52) (d p : Int) (x : Hdr) : Int × Bool × Bool :=
  if permGo d p false x acs = true then (if (peerGo d p ls).2.2 = true then (if permGo (peerGo d p ls).1 (peerGo d p ls).2.1 true x acs = true then ((peerGo d p ls).1, false, true) else (0, false, false)) else (0, true, false)) else (0, false, false)
theorem tCross_ev (ps : List Int) (ls : List S39) (acs : List S52) (hl : ls.length ≤ 400000) (hn : acs.length ≤ 1000000) (hr : AcesRight acs) (d p : Int) (x : Hdr) (hx : x.bd) : Ev (fun k => topo_Cross.f k ps ls acs d p x.1 x.2 x.3 x.4 x.5) (crossGo ls acs d p x) := by
  unfold topo_Cross.f crossGo
  refine Ev.bind (tPermit_ev ps ls acs hn hr d p false x hx) ?_
  by_cases c : permGo d p false x acs = true
  · simp only [if_pos c]
    refine Ev.bind (tPeer_ev ps ls acs (by omega) d p) ?_
    by_cases c2 : (peerGo d p ls).2.2 = true
    · simp only [if_pos c2]
      refine Ev.bind (tPermit_ev ps ls acs hn hr _ _ true x hx) ?_
      by_cases c3 : permGo (peerGo d p ls).1 (peerGo d p ls).2.1 true x acs = true
      · simp only [if_pos c3]; exact Ev.now _
      · simp only [if_neg c3]; exact Ev.now _
    · simp only [if_neg c2]; exact Ev.now _
  · simp only [if_neg c]; exact Ev.now _
theorem rCross_ev (ps : List Int) (ls : List S39) (acs : List S52) (hl : ls.length ≤ 400000) (hn : acs.length ≤ 1000000) (hr : AcesRight acs) (d p : Int) (x : Hdr) (hx : x.bd) : Ev (fun k => crossbuckref05_Cross.f k ps ls acs d p x.1 x.2 x.3 x.4 x.5) (crossGo ls acs d p x) := by
  unfold crossbuckref05_Cross.f crossGo
  refine Ev.bind (rPermit_ev ps ls acs hn hr d p false x hx) ?_
  by_cases c : permGo d p false x acs = true
  · simp only [if_pos c]
    refine Ev.bind (rPeer_ev ps ls acs hl d p) ?_
    by_cases c2 : (peerGo d p ls).2.2 = true
    · simp only [if_pos c2]
      refine Ev.bind (rPermit_ev ps ls acs hn hr _ _ true x hx) ?_
      by_cases c3 : permGo (peerGo d p ls).1 (peerGo d p ls).2.1 true x acs = true
      · simp only [if_pos c3]; exact Ev.now _
      · simp only [if_neg c3]; exact Ev.now _
    · simp only [if_neg c2]; exact Ev.now _
  · simp only [if_neg c]; exact Ev.now _
theorem TopoCrosses (ps : List Int) (ls : List S39) (acs : List S52) (dev port : Int) (i : Bool) (h0 h1 h2 h3 h4 : Int) (g0 : ∀ p ∈ ps, (Lit.int .i64 p).wf = true)
    (g1 : ∀ p ∈ ls, (Lit.int .i64 p.f0).wf = true ∧ (Lit.int .i64 p.f1).wf = true ∧ (Lit.int .i64 p.f2).wf = true ∧ (Lit.int .i64 p.f3).wf = true) (g2 : AcesGood acs)
    (w1 : (Lit.int .i64 dev).wf = true) (w2 : (Lit.int .i64 port).wf = true) (x0 : (Lit.int .u32 h0).wf = true) (x1 : (Lit.int .u32 h1).wf = true) (x2 : (Lit.int .u8 h2).wf = true) (x3 : (Lit.int .u16 h3).wf = true) (x4 : (Lit.int .u16 h4).wf = true) :
    ∃ k, crossbucklaw05_TopoCrosses.f k ps ls acs dev port i h0 h1 h2 h3 h4 = some true := by
  refine Ev.rounds ?_
  unfold crossbucklaw05_TopoCrosses.f
  rw [light_eq]
  simp only [Option.bind_some]
  have hout : Ev (fun k => crossbucklaw05_TopoCrosses.j0 k dev port i true ps ls acs h0 h1 h2 h3 h4) true :=
    Ev.step (fun k => by rw [crossbucklaw05_TopoCrosses.j0, if_pos rfl]) (Ev.bind awake05_ev (Ev.now _))
  by_cases c : ps.length ≤ 40 ∧ ls.length ≤ 100 ∧ acs.length ≤ 60
  · obtain ⟨c1, c2, c3⟩ := c
    simp only [decide_eq_true (show ps.length ≤ 40 ∧ ls.length ≤ 100 ∧ acs.length ≤ 60 from ⟨c1, c2, c3⟩), if_true]
    refine Ev.bind (rCheck_ev ps ls acs (by omega) (by omega) (by omega) g2.bd) ?_
    by_cases cv : topoV ps ls acs = 0
    · simp only [if_pos cv]
      refine Ev.bind (rPort_ev ps ls acs dev port) ?_
      by_cases cp : portE ps dev port = 0
      · have e : (portE ps dev port != 0) = false := by rw [cp]; rfl
        rw [e]
        let x : Hdr := ⟨h0, h1, h2, h3, h4⟩
        have hx : x.bd := ⟨u32_bd x0, u32_bd x1, u8_bd x2, u16_bd x3, u16_bd x4⟩
        obtain ⟨_, _, _, _, hz⟩ := topoV_zero cv
        have hr := right_of g2.bd hz
        refine Ev.step (fun k => by rw [crossbucklaw05_TopoCrosses.j0, if_neg (by decide)]) (Ev.bind (tPeer_ev ps ls acs (by omega) dev port) (Ev.bind (rPeer_ev ps ls acs (by omega) dev port) (Ev.bind (tCross_ev ps ls acs (by omega) (by omega) hr dev port x hx) (Ev.bind (rCross_ev ps ls acs (by omega) (by omega) hr dev port x hx) (Ev.bind awake05_ev ?_)))))
        simp only [if_true, beq_self_eq_true]
        refine Ev.bind (tPermit_ev ps ls acs (by omega) hr dev port i x hx) (Ev.bind (rPermit_ev ps ls acs (by omega) hr dev port i x hx) ?_)
        simp only [if_true, beq_self_eq_true]
        exact Ev.now _
      · have e : (portE ps dev port != 0) = true := by simpa using cp
        rw [e]
        exact hout
    · simp only [if_neg cv]
      exact hout
  · simp only [decide_eq_false c, Bool.false_eq_true, if_false]
    exact hout
end Go.Proofs.Ytdemogdagemagaa.Pure
