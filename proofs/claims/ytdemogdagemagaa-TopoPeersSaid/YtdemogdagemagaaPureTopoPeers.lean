/- crossbucklaw05.TopoPeers answers true for every topology: as numbers. No condition of its own. -/
import Derived.Test.YtdemogdagemagaaTopo
import Derived.Test.YtdemogdagemagaaPTex10
import Derived.Test.YtdemogdagemagaaPTex11
namespace Go.Proofs.Ytdemogdagemagaa.Pure
open Go Go.RowKit Go.Proofs.Ytdemogdagemagaa.PTe Go.Proofs.YtdemogdagemagaaW.PrintWords Go.Proofs.YtdemogdagemagaaW.PrintLast Go.Proofs.YtdemogdagemagaaW.PrintMore Go.Proofs.Ytdemogdagemagaa.Facts
set_option linter.unusedVariables false
theorem topoV_zero {ps : List Int} {ls : List S39} {acs : List S52} (h : topoV ps ls acs = 0) : ps.length ≤ 16 ∧ acs.length ≤ 32 ∧ ps.any badN = false ∧ linkGo ps (fun _ => false) (ends ls) = 0 ∧ aceGo ps acs = 0 := by
  unfold topoV at h
  split at h
  · cases h
  · rename_i c
    split at h
    · cases h
    · rename_i c2
      split at h
      · rename_i c3
        exact ⟨by omega, by omega, by simpa using c2, c3, h⟩
      · rename_i c3; exact absurd h c3
theorem link_nodup (ps : List Int) (es : List (Int × Int)) : ∀ s : Int × Int → Bool, linkGo ps s es = 0 → es.Nodup ∧ ∀ x ∈ es, s x = false := by
  induction es with
  | nil => intro s _; exact ⟨List.nodup_nil, fun x h => by cases h⟩
  | cons x r ih =>
    intro s h
    rw [linkGo] at h
    split at h
    · rename_i c; exact absurd h c
    · split at h
      · cases h
      · rename_i c2
        obtain ⟨h1, h2⟩ := ih _ h
        refine ⟨List.nodup_cons.2 ⟨fun hx => ?_, h1⟩, fun y hy => ?_⟩
        · have := h2 x hx
          rw [if_pos rfl] at this
          cases this
        · rcases List.mem_cons.1 hy with rfl | hy
          · simpa using c2
          · have := h2 y hy
            split at this
            · cases this
            · exact this
theorem wrS (i : Nat) (h : i ≤ 1000000) : wrap64 ((i : Int) + 1) = ((i + 1 : Nat) : Int) := by unfold wrap64; omega
theorem pair_eq {a b c d : Int} : (a == c && b == d) = true ↔ (a, b) = (c, d) := by simp
/-- Who is joined with one is joined with it. -/
theorem peer_back (ls : List S39) (hn : (ends ls).Nodup) (d p a b : Int) (h : peerGo d p ls = (a, b, true)) : (d, p) ∈ ends ls ∧ (a, b) ∈ ends ls ∧ peerGo a b ls = (d, p, true) := by
  induction ls with
  | nil => simp [peerGo] at h
  | cons x r ih =>
    have e : ends (x :: r) = (x.f0, x.f1) :: (x.f2, x.f3) :: ends r := rfl
    rw [e] at hn ⊢
    obtain ⟨h1, hn2⟩ := List.nodup_cons.1 hn
    obtain ⟨h2, hn3⟩ := List.nodup_cons.1 hn2
    rw [peerGo] at h
    split at h
    · rename_i c
      rw [pair_eq] at c
      simp only [Prod.mk.injEq, and_true] at h
      obtain ⟨rfl, rfl⟩ := h
      simp only [Prod.mk.injEq] at c
      obtain ⟨rfl, rfl⟩ := c
      refine ⟨List.mem_cons_self, List.mem_cons_of_mem _ List.mem_cons_self, ?_⟩
      rw [peerGo, if_neg, if_pos]
      · rw [pair_eq]
      · rw [pair_eq]
        intro hh
        exact h1 (hh ▸ List.mem_cons_self)
    · rename_i c
      split at h
      · rename_i c2
        rw [pair_eq] at c2
        simp only [Prod.mk.injEq, and_true] at h
        obtain ⟨rfl, rfl⟩ := h
        simp only [Prod.mk.injEq] at c2
        obtain ⟨rfl, rfl⟩ := c2
        refine ⟨List.mem_cons_of_mem _ List.mem_cons_self, List.mem_cons_self, ?_⟩
        rw [peerGo, if_pos]
        rw [pair_eq]
      · rename_i c2
        obtain ⟨m1, m2, m3⟩ := ih hn3 h
        refine ⟨List.mem_cons_of_mem _ (List.mem_cons_of_mem _ m1), List.mem_cons_of_mem _ (List.mem_cons_of_mem _ m2), ?_⟩
        rw [peerGo, if_neg, if_neg]
        · exact m3
        · rw [pair_eq]; intro hh; exact h2 (hh ▸ m2)
        · rw [pair_eq]; intro hh; exact h1 (hh ▸ List.mem_cons_of_mem _ m2)
/-- A device's ports that no one is joined with, from a port on. -/
def rowE (ls : List S39) (d : Int) : Nat → Int → List S39
  | 0, _ => []
  | m + 1, p => if (peerGo d p ls).2.2 = true then rowE ls d m (p + 1) else ⟨d, p, -1, -1⟩ :: rowE ls d m (p + 1)
def allE (ls : List S39) : List Int → Int → List S39
  | [], _ => []
  | n :: r, d => rowE ls d n.toNat 0 ++ allE ls r (d + 1)
theorem rd_drop {ps : List Int} {i : Nat} (h : i < ps.length) : ps.drop i = rd ps (i : Int) :: ps.drop (i + 1) := by
  rw [List.drop_eq_getElem_cons h]
  simp [rd, List.getD, h]
theorem rd_in {ps : List Int} {i : Nat} (h : i < ps.length) : rd ps (i : Int) ∈ ps := by simp [rd, List.getD, h]
theorem good_ps {ps : List Int} (h : ps.any badN = false) : ∀ n ∈ ps, 0 ≤ n ∧ n ≤ 8 := by
  intro n hn
  have := List.any_eq_false.1 h n hn
  simp [badN] at this
  omega
theorem edges_ev (ps : List Int) (ls : List S39) (acs : List S52) (hp : ps.length ≤ 16) (hg : ∀ n ∈ ps, 0 ≤ n ∧ n ≤ 8) (hl : ls.length ≤ 1000000) : Ev (fun k => topo_Edges.f k ps ls acs) (allE ls ps 0) := by
  have h0 : ∀ d i : Nat, i + d = ps.length → ∀ acc : List S39, acc.length ≤ 8 * i → Ev (fun k => topo_Edges.l0 k acc ps (ps.length : Int) (i : Int) ps ls acs) (acc ++ allE ls (ps.drop i) (i : Int)) := by
    intro d
    induction d with
    | zero =>
      intro i hi acc ha
      obtain rfl : i = ps.length := by omega
      rw [List.drop_length, allE, List.append_nil]
      exact Ev.step (f := fun _ => some acc) (fun k => by rw [topo_Edges.l0, if_neg (by omega)]) (Ev.now _)
    | succ d ih =>
      intro i hi acc ha
      have hlt : i < ps.length := by omega
      have hge := hg _ (rd_in hlt)
      rw [rd_drop hlt, allE]
      generalize hx : rd ps (i : Int) = n at hge
      have h1 : ∀ m j : Nat, j + m = n.toNat → ∀ acc : List S39, acc.length ≤ 8 * i + j → Ev (fun k => topo_Edges.l1 k acc (i : Int) ps (ps.length : Int) (i : Int) n (j : Int) ps ls acs) (acc ++ (rowE ls (i : Int) m (j : Int) ++ allE ls (ps.drop (i + 1)) ((i : Int) + 1))) := by
        intro m
        induction m with
        | zero =>
          intro j hj acc ha
          have h := ih (i + 1) (by omega) acc (by omega)
          rw [rowE, List.nil_append]
          have e : ((i + 1 : Nat) : Int) = (i : Int) + 1 := by omega
          refine Ev.step (fun k => by rw [topo_Edges.l1, if_neg (by omega), wrS i (by omega)]) ?_
          rw [← e]
          exact h
        | succ m ihm =>
          intro j hj acc ha
          have ej : ((j + 1 : Nat) : Int) = (j : Int) + 1 := by omega
          refine Ev.step (fun k => by rw [topo_Edges.l1, if_pos (by omega)]) (Ev.bind (tPeer_ev ps ls acs hl (i : Int) (j : Int)) ?_)
          rw [rowE]
          by_cases c : (peerGo (i : Int) (j : Int) ls).2.2 = true
          · simp only [if_pos c]
            have h := ihm (j + 1) (by omega) acc (by omega)
            rw [wrS j (by omega), ← ej]
            exact h
          · simp only [if_neg c]
            have h := ihm (j + 1) (by omega) (acc ++ [⟨(i : Int), (j : Int), -1, -1⟩]) (by simp; omega)
            simp only [if_pos (show acc.length < 4398046511104 by omega)]
            rw [wrS j (by omega)]
            rw [List.append_assoc, ej] at h
            rw [ej]
            exact h
      have h := h1 n.toNat 0 (by omega) acc (by omega)
      exact Ev.step (fun k => by rw [topo_Edges.l0, if_pos (by omega), if_pos (by omega), if_pos (by omega), hx]; rfl) h
  have h := h0 ps.length 0 (by omega) [] (by simp)
  simp only [List.nil_append, List.drop_zero] at h
  exact h
theorem rd39_at {free r : List S39} {x : S39} {a : Nat} (h : free.drop a = x :: r) : a < free.length ∧ rd_T39 free (a : Int) = x ∧ free.drop (a + 1) = r := by
  have hlt : a < free.length := by
    rcases Nat.lt_or_ge a free.length with h1 | h1
    · exact h1
    · rw [List.drop_of_length_le h1] at h; cases h
  rw [List.drop_eq_getElem_cons hlt] at h
  simp only [List.cons.injEq] at h
  refine ⟨hlt, ?_, h.2⟩
  simp [rd_T39, List.getD, hlt, h.1]
theorem TopoPeers (ps : List Int) (ls : List S39) (acs : List S52) (g0 : ∀ p ∈ ps, (Lit.int .i64 p).wf = true)
    (g1 : ∀ p ∈ ls, (Lit.int .i64 p.f0).wf = true ∧ (Lit.int .i64 p.f1).wf = true ∧ (Lit.int .i64 p.f2).wf = true ∧ (Lit.int .i64 p.f3).wf = true) (g2 : AcesGood acs) :
    ∃ k, crossbucklaw05_TopoPeers.f k ps ls acs = some true := by
  refine Ev.rounds ?_
  unfold crossbucklaw05_TopoPeers.f
  rw [light_eq]
  simp only [Option.bind_some]
  have hout : Ev (fun k => crossbucklaw05_TopoPeers.j0 k true ps ls acs) true :=
    Ev.step (fun k => by rw [crossbucklaw05_TopoPeers.j0, if_pos rfl]) (Ev.bind awake05_ev (Ev.now _))
  by_cases c : ps.length ≤ 40 ∧ ls.length ≤ 100 ∧ acs.length ≤ 60
  · obtain ⟨c1, c2, c3⟩ := c
    simp only [decide_eq_true (show ps.length ≤ 40 ∧ ls.length ≤ 100 ∧ acs.length ≤ 60 from ⟨c1, c2, c3⟩), if_true]
    refine Ev.bind (rCheck_ev ps ls acs (by omega) (by omega) (by omega) g2.bd) ?_
    by_cases cv : topoV ps ls acs = 0
    · have e : (topoV ps ls acs != 0) = false := by rw [cv]; rfl
      rw [e]
      obtain ⟨hp, _, hb, hk, _⟩ := topoV_zero cv
      have hg := good_ps hb
      obtain ⟨hnd, _⟩ := link_nodup ps (ends ls) _ hk
      refine Ev.step (fun k => by rw [crossbucklaw05_TopoPeers.j0, if_neg (by decide)]) (Ev.bind (edges_ev ps ls acs hp hg (by omega)) ?_)
      generalize hf : allE ls ps 0 = free
      have hlen : free.length ≤ 1000 := by
        rw [← hf]
        have hrow : ∀ (d : Int) (m : Nat) (p : Int), (rowE ls d m p).length ≤ m := by
          intro d m
          induction m with
          | zero => intro p; simp [rowE]
          | succ m ih =>
            intro p
            rw [rowE]
            have := ih (p + 1)
            split
            · omega
            · simp only [List.length_cons]; omega
        have hall : ∀ (q : List Int) (d : Int), (∀ n ∈ q, 0 ≤ n ∧ n ≤ 8) → (allE ls q d).length ≤ 8 * q.length := by
          intro q
          induction q with
          | nil => intro d _; simp [allE]
          | cons n r ih =>
            intro d hq
            have h1 := ih (d + 1) (fun n hn => hq n (List.mem_cons_of_mem _ hn))
            have h2 := hrow d n.toNat 0
            have h3 := hq n List.mem_cons_self
            simp only [allE, List.length_append, List.length_cons]
            omega
        have := hall ps 0 hg
        omega
      have h0 : ∀ d i : Nat, i + d = ps.length → ∀ a : Nat, a ≤ free.length → free.drop a = allE ls (ps.drop i) (i : Int) → Ev (fun k => crossbucklaw05_TopoPeers.l0 k free (a : Int) ps (ps.length : Int) (i : Int) ps ls acs) true := by
        intro d
        induction d with
        | zero =>
          intro i hi a ha hd
          obtain rfl : i = ps.length := by omega
          rw [List.drop_length, allE] at hd
          have : a = free.length := by
            have := congrArg List.length hd
            simp at this
            omega
          subst this
          refine Ev.step (fun k => by rw [crossbucklaw05_TopoPeers.l0, if_neg (by omega)]) (Ev.bind awake05_ev ?_)
          simp only [if_true, beq_self_eq_true]
          exact Ev.now _
        | succ d ih =>
          intro i hi a ha hd
          have hlt : i < ps.length := by omega
          have hge := hg _ (rd_in hlt)
          rw [rd_drop hlt, allE] at hd
          generalize hx : rd ps (i : Int) = n at hge hd
          have h1 : ∀ m j : Nat, j + m = n.toNat → ∀ a : Nat, a ≤ free.length → free.drop a = rowE ls (i : Int) m (j : Int) ++ allE ls (ps.drop (i + 1)) ((i : Int) + 1) →
              Ev (fun k => crossbucklaw05_TopoPeers.l1 k free (a : Int) (i : Int) ps (ps.length : Int) (i : Int) n (j : Int) ps ls acs) true := by
            intro m
            induction m with
            | zero =>
              intro j hj a ha hd
              rw [rowE, List.nil_append] at hd
              refine Ev.step (fun k => by rw [crossbucklaw05_TopoPeers.l1, if_neg (by omega), wrS i (by omega)]) (ih (i + 1) (by omega) a ha ?_)
              rw [show ((i + 1 : Nat) : Int) = (i : Int) + 1 by omega]
              exact hd
            | succ m ihm =>
              intro j hj a ha hd
              have ej : ((j + 1 : Nat) : Int) = (j : Int) + 1 := by omega
              refine Ev.step (fun k => by rw [crossbucklaw05_TopoPeers.l1, if_pos (by omega)]) (Ev.bind (tPeer_ev ps ls acs (by omega) (i : Int) (j : Int)) ?_)
              rw [rowE] at hd
              by_cases c : (peerGo (i : Int) (j : Int) ls).2.2 = true
              · rw [if_pos c] at hd
                simp only [if_pos c]
                obtain ⟨x, y, z, hq⟩ : ∃ x y z, peerGo (i : Int) (j : Int) ls = (x, y, z) := ⟨_, _, _, rfl⟩
                rw [hq] at c
                obtain rfl : z = true := c
                obtain ⟨_, _, hback⟩ := peer_back ls hnd _ _ _ _ hq
                refine Ev.bind (tPeer_ev ps ls acs (by omega) _ _) ?_
                simp only [hq, hback, if_true]
                rw [wrS j (by omega)]
                exact ihm (j + 1) (by omega) a ha (by rw [ej]; exact hd)
              · rw [if_neg c] at hd
                simp only [if_neg c]
                obtain ⟨g1, g2, g3⟩ := rd39_at hd
                simp only [if_neg (show ¬ (a : Int) ≥ (free.length : Int) by omega), if_pos (show (0 : Int) ≤ (a : Int) by omega), if_pos (show (a : Int) < (free.length : Int) by omega), g2, beq_self_eq_true, Bool.not_true, Bool.or_self]
                exact Ev.step (fun k => by rw [crossbucklaw05_TopoPeers.j3, if_neg (by decide), wrS j (by omega), wrS a (by omega)]) (ihm (j + 1) (by omega) (a + 1) (by omega) (by rw [ej]; exact g3))
          have h := h1 n.toNat 0 (by omega) a ha hd
          exact Ev.step (fun k => by rw [crossbucklaw05_TopoPeers.l0, if_pos (by omega), if_pos (by omega), if_pos (by omega), hx]; rfl) h
      exact h0 ps.length 0 (by omega) 0 (by omega) (by rw [List.drop_zero, List.drop_zero]; exact hf.symm)
    · have e : (topoV ps ls acs != 0) = true := by simpa using cv
      rw [e]
      exact hout
  · simp only [decide_eq_false c, Bool.false_eq_true, if_false]
    exact hout
end Go.Proofs.Ytdemogdagemagaa.Pure
