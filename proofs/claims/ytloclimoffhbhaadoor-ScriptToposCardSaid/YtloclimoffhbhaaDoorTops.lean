/- Topologies: what the document's check tells of one. No condition of its own. -/
import Derived.Test.YtloclimoffhbhaaDoorQry
import Derived.Test.YtloclimoffhbhaaDoorPStox12
import Derived.Test.YtloclimoffhbhaaDoorPStox13
namespace Go.Proofs.YtloclimoffhbhaaDoor.Scr
open Go Go.RowKit Go.Proofs.YtloclimoffhbhaaDoor.PSto Go.Proofs.YtloclimoffhbhaaDoorW.PrintWords Go.Proofs.YtloclimoffhbhaaDoorW.PrintLast Go.Proofs.YtloclimoffhbhaaDoorW.PrintMore Go.Proofs.YtloclimoffhbhaaDoor.Bits Go.Proofs.YtloclimoffhbhaaDoor.Facts
set_option linter.unusedVariables false
set_option linter.unusedSimpArgs false
theorem light_eq (ps : List Int) (ls : List S133) (acs : List S130) : crossbucklaw05_Light.f ps ls acs = some (decide (ps.length ≤ 40 ∧ ls.length ≤ 100 ∧ acs.length ≤ 60)) := by
  unfold crossbucklaw05_Light.f
  by_cases h1 : (ps.length : Int) ≤ 40
  · rw [if_pos h1]
    by_cases h2 : (ls.length : Int) ≤ 100
    · rw [if_pos h2]
      have : (ps.length ≤ 40 ∧ ls.length ≤ 100 ∧ acs.length ≤ 60) ↔ ((acs.length : Int) ≤ 60) := ⟨fun h => by omega, fun h => ⟨by omega, by omega, by omega⟩⟩
      simp only [this]
    · rw [if_neg h2, decide_eq_false (by omega)]
  · rw [if_neg h1, decide_eq_false (by omega)]
theorem port_ev (ps : List Int) (ls : List S133) (acs : List S130) (a b : Int) : ∃ v, Ev (fun k => crossbuckref05_Port.f k ps ls acs a b) v ∧ (v = 0 → 0 ≤ a ∧ a < (ps.length : Int) ∧ 0 ≤ b ∧ b < rd ps a) := by
  have key : ∀ v, (∀ m, crossbuckref05_Port.f (m + 1) ps ls acs a b = some v) → Ev (fun k => crossbuckref05_Port.f k ps ls acs a b) v := fun v h => Ev_plus 1 h
  by_cases h1 : a < 0
  · exact ⟨10, key _ (fun m => by unfold crossbuckref05_Port.f; simp [h1, crossbuckref05_Port.j0]), fun h => absurd h (by decide)⟩
  by_cases h2 : (ps.length : Int) ≤ a
  · exact ⟨10, key _ (fun m => by unfold crossbuckref05_Port.f; simp [h2, crossbuckref05_Port.j0]), fun h => absurd h (by decide)⟩
  have h3 : 0 ≤ a := by omega
  have h4 : a < (ps.length : Int) := by omega
  by_cases h5 : b < 0
  · exact ⟨11, key _ (fun m => by unfold crossbuckref05_Port.f; simp [h1, h2, crossbuckref05_Port.j0, h5]), fun h => absurd h (by decide)⟩
  by_cases h6 : rd ps a ≤ b
  · exact ⟨11, key _ (fun m => by unfold crossbuckref05_Port.f; simp [h1, h2, crossbuckref05_Port.j0, h5, h3, h4, h6]), fun h => absurd h (by decide)⟩
  · exact ⟨0, key _ (fun m => by unfold crossbuckref05_Port.f; simp [h1, h2, crossbuckref05_Port.j0, h5, h3, h4, h6]), fun _ => ⟨h3, h4, by omega, by omega⟩⟩
/-- A port that is one. -/
def portOk (ps : List Int) (a b : Int) : Prop := 0 ≤ a ∧ a < (ps.length : Int) ∧ 0 ≤ b ∧ b < rd ps a
def bdA (x : S130) : Prop := BdF x.f4.f0.f0 x.f4.f0.f1 x.f4.f1.f0 x.f4.f1.f1 x.f4.f2 x.f4.f3.f0 x.f4.f3.f1 x.f4.f4.f0 x.f4.f4.f1
def rightA (x : S130) : Bool := rightF x.f4.f0.f0 x.f4.f0.f1 x.f4.f1.f0 x.f4.f1.f1 x.f4.f2 x.f4.f3.f0 x.f4.f3.f1 x.f4.f4.f0 x.f4.f4.f1
def aceOk (ps : List Int) (x : S130) : Prop := portOk ps x.f0 x.f1 ∧ rightA x = true
theorem rd133 {l : List S133} {i : Nat} (hi : i < l.length) : rd_T133 l (i : Int) = l[i] := by simp [rd_T133, List.getD, hi]
theorem rd130 {l : List S130} {i : Nat} (hi : i < l.length) : rd_T130 l (i : Int) = l[i] := by simp [rd_T130, List.getD, hi]
theorem rd128 {l : List S128} {i : Nat} (hi : i < l.length) : rd_T128 l (i : Int) = l[i] := by simp [rd_T128, List.getD, hi]
theorem rdI {l : List Int} {i : Nat} (hi : i < l.length) : rd l (i : Int) = l[i] := by simp [rd, List.getD, hi]
def endsS (ls : List S133) : List S128 := ls.flatMap fun x => [⟨x.f0, x.f1⟩, ⟨x.f2, x.f3⟩]
theorem endsS_len (ls : List S133) : (endsS ls).length = 2 * ls.length := by
  induction ls with
  | nil => rfl
  | cons x l ih =>
    simp only [endsS, List.flatMap_cons, List.length_append, List.length_cons, List.length_nil] at ih ⊢
    omega
theorem ends_ev (ps : List Int) (ls : List S133) (acs : List S130) (hl : ls.length ≤ 1000) : Ev (fun k => crossbuckref05_Ends.f k ps ls acs) (endsS ls) := by
  have h : ∀ d i : Nat, i + d = ls.length → Ev (fun k => crossbuckref05_Ends.l0 k (endsS (ls.take i)) (i : Int) ps ls acs) (endsS ls) := by
    intro d
    induction d with
    | zero =>
      intro i hi
      obtain rfl : i = ls.length := by omega
      rw [List.take_length]
      exact Ev.step (f := fun _ => some (endsS ls)) (fun k => by rw [crossbuckref05_Ends.l0, if_neg (by omega)]) (Ev.now _)
    | succ d ih =>
      intro i hi
      have hlt : i < ls.length := by omega
      have e : endsS (ls.take (i + 1)) = endsS (ls.take i) ++ [⟨(rd_T133 ls (i : Int)).f0, (rd_T133 ls (i : Int)).f1⟩, ⟨(rd_T133 ls (i : Int)).f2, (rd_T133 ls (i : Int)).f3⟩] := by
        rw [List.take_succ_eq_append_getElem hlt, rd133 hlt]; unfold endsS; rw [List.flatMap_append]; rfl
      have h3 := ih (i + 1) (by omega)
      rw [e] at h3
      have hlen : (endsS (ls.take i)).length = 2 * i := by rw [endsS_len, List.length_take]; omega
      refine Ev.step (fun k => ?_) h3
      rw [crossbuckref05_Ends.l0, if_pos (by omega), if_pos (by omega)]
      simp only [Option.bind_some]
      rw [if_pos (by simp only [hlen, List.length_cons, List.length_nil]; omega), wrS i (by omega)]
  exact h ls.length 0 (by omega)
theorem aces_ev (ps : List Int) (ls : List S133) (acs : List S130) (hn : acs.length ≤ 1000) (hb : ∀ a ∈ acs, bdA a) : ∀ d i : Nat, i + d = acs.length →
    ∃ v, Ev (fun k => crossbuckref05_Check.l3 k (i : Int) ps ls acs) v ∧ (v = 0 → ∀ j, i ≤ j → ∀ hj : j < acs.length, aceOk ps acs[j]) := by
  intro d
  induction d with
  | zero =>
    intro i hi
    exact ⟨0, Ev.step (f := fun _ => some 0) (fun k => by rw [crossbuckref05_Check.l3, if_neg (by omega)]) (Ev.now 0), fun _ j h1 h2 => by omega⟩
  | succ d ih =>
    intro i hi
    have hlt : i < acs.length := by omega
    have hm := hb _ (List.getElem_mem hlt)
    have hr := rd130 hlt
    obtain ⟨v, hv, hp⟩ := port_ev ps ls acs acs[i].f0 acs[i].f1
    have hst := fun R (h : Ev (fun k => if v = 0 then ((crossbuckref04_Check.f k acs[i].f4.f0.f0 acs[i].f4.f0.f1 acs[i].f4.f1.f0 acs[i].f4.f1.f1 acs[i].f4.f2 acs[i].f4.f3.f0 acs[i].f4.f3.f1 acs[i].f4.f4.f0 acs[i].f4.f4.f1).bind fun t487 => if t487 = 0 then crossbuckref05_Check.l3 k (wrap64 ((i : Int) + 1)) ps ls acs else some t487) else some v) R) =>
      Ev.step (g := fun k => crossbuckref05_Check.l3 k (i : Int) ps ls acs) (fun k => by rw [crossbuckref05_Check.l3, if_pos (by omega), if_pos (by omega), hr]) (Ev.bind hv h)
    by_cases c : v = 0
    case neg => exact ⟨v, hst v (by simp only [if_neg c]; exact Ev.now _), fun h => absurd h c⟩
    obtain ⟨e, he, hee⟩ := check_ev (f1 := acs[i].f4.f0.f1) (f3 := acs[i].f4.f1.f1) (f4 := acs[i].f4.f2) (f5 := acs[i].f4.f3.f0) (f6 := acs[i].f4.f3.f1) (f7 := acs[i].f4.f4.f0) (f8 := acs[i].f4.f4.f1) hm.a.1 hm.a.2 hm.b.1 hm.b.2
    by_cases c2 : e = 0
    case neg => exact ⟨e, hst e (by simp only [if_pos c]; exact Ev.bind he (by simp only [if_neg c2]; exact Ev.now _)), fun h => absurd h c2⟩
    obtain ⟨w, hw, hg⟩ := ih (i + 1) (by omega)
    refine ⟨w, hst w (by simp only [if_pos c]; exact Ev.bind he (by simp only [if_pos c2, wrS i (by omega)]; exact hw)), fun h j h1 h2 => ?_⟩
    by_cases q : i = j
    · subst q
      exact ⟨hp c, by rw [c2] at hee; exact hee.symm⟩
    · exact hg h j (by omega) h2
theorem inner_ev (ps : List Int) (ls : List S133) (acs : List S130) (es : List S128) (hn : es.length ≤ 1000) (i : Nat) (hi : i < es.length) (R : Int) (hR : Ev (fun k => crossbuckref05_Check.l1 k es ((i + 1 : Nat) : Int) ps ls acs) R) :
    ∀ d j : Nat, j + d = i → ∃ v, Ev (fun k => crossbuckref05_Check.l2 k es (i : Int) (j : Int) ps ls acs) v ∧ (v = 0 → R = 0) := by
  intro d
  induction d with
  | zero =>
    intro j hj
    obtain rfl : j = i := by omega
    exact ⟨R, Ev.step (fun k => by rw [crossbuckref05_Check.l2, if_neg (by omega), wrS j (by omega)]) hR, fun h => h⟩
  | succ d ih =>
    intro j hj
    obtain ⟨v, hv, h0⟩ := ih (j + 1) (by omega)
    cases c : ((rd_T128 es (j : Int)).f0 == (rd_T128 es (i : Int)).f0 && (rd_T128 es (j : Int)).f1 == (rd_T128 es (i : Int)).f1) with
    | true => exact ⟨12, Ev.step (f := fun _ => some 12) (fun k => by rw [crossbuckref05_Check.l2, if_pos (by omega), if_pos (by omega), if_pos (by omega), if_pos (by omega), if_pos (by omega), if_pos c]) (Ev.now 12), fun h => absurd h (by decide)⟩
    | false => exact ⟨v, Ev.step (fun k => by rw [crossbuckref05_Check.l2, if_pos (by omega), if_pos (by omega), if_pos (by omega), if_pos (by omega), if_pos (by omega), if_neg (by rw [c]; decide), wrS j (by omega)]) hv, h0⟩
theorem links_ev (ps : List Int) (ls : List S133) (acs : List S130) (ha : acs.length ≤ 1000) (hb : ∀ a ∈ acs, bdA a) (es : List S128) (hn : es.length ≤ 1000) :
    ∀ d i : Nat, i + d = es.length → ∃ v, Ev (fun k => crossbuckref05_Check.l1 k es (i : Int) ps ls acs) v ∧ (v = 0 → (∀ j, i ≤ j → ∀ hj : j < es.length, portOk ps es[j].f0 es[j].f1) ∧ ∀ x ∈ acs, aceOk ps x) := by
  intro d
  induction d with
  | zero =>
    intro i hi
    obtain ⟨v, hv, h0⟩ := aces_ev ps ls acs ha hb acs.length 0 (by omega)
    refine ⟨v, Ev.step (fun k => by rw [crossbuckref05_Check.l1, if_neg (by omega)]; rfl) hv, fun h => ⟨fun j h1 h2 => by omega, fun x hx => ?_⟩⟩
    obtain ⟨j, hj, rfl⟩ := List.mem_iff_getElem.1 hx
    exact h0 h j (Nat.zero_le _) hj
  | succ d ih =>
    intro i hi
    have hlt : i < es.length := by omega
    have hr := rd128 hlt
    obtain ⟨R, hR, hg⟩ := ih (i + 1) (by omega)
    obtain ⟨u, hu, h0⟩ := inner_ev ps ls acs es hn i hlt R hR i 0 (by omega)
    obtain ⟨v, hv, hp⟩ := port_ev ps ls acs es[i].f0 es[i].f1
    have hst := fun Q (h : Ev (fun k => if v = 0 then crossbuckref05_Check.l2 k es (i : Int) 0 ps ls acs else some v) Q) =>
      Ev.step (g := fun k => crossbuckref05_Check.l1 k es (i : Int) ps ls acs) (fun k => by rw [crossbuckref05_Check.l1, if_pos (by omega), if_pos (by omega), hr]) (Ev.bind hv h)
    by_cases c : v = 0
    case neg => exact ⟨v, hst v (by simp only [if_neg c]; exact Ev.now _), fun h => absurd h c⟩
    refine ⟨u, hst u (by simp only [if_pos c]; exact hu), fun h => ?_⟩
    obtain ⟨g1, g2⟩ := hg (h0 h)
    refine ⟨fun j h1 h2 => ?_, g2⟩
    by_cases q : i = j
    · subst q
      exact hp c
    · exact g1 j (by omega) h2
/-- What the document's check tells. -/
structure TopoOk (ps : List Int) (ls : List S133) (acs : List S130) : Prop where
  few : ps.length ≤ 16
  fewA : acs.length ≤ 32
  port : ∀ n ∈ ps, 0 ≤ n ∧ n ≤ 8
  link : ∀ x ∈ ls, portOk ps x.f0 x.f1 ∧ portOk ps x.f2 x.f3
  ace : ∀ x ∈ acs, aceOk ps x
theorem topo_check (ps : List Int) (ls : List S133) (acs : List S130) (hp : ps.length ≤ 40) (hl : ls.length ≤ 100) (ha : acs.length ≤ 60) (hb : ∀ a ∈ acs, bdA a) :
    ∃ v, Ev (fun k => crossbuckref05_Check.f k ps ls acs) v ∧ (v = 0 → TopoOk ps ls acs) := by
  have hl0 : ∀ d i : Nat, i + d = ps.length → ∃ v, Ev (fun k => crossbuckref05_Check.l0 k (i : Int) ps ls acs) v ∧ (v = 0 → (∀ j, i ≤ j → ∀ hj : j < ps.length, 0 ≤ ps[j] ∧ ps[j] ≤ 8) ∧ (∀ x ∈ ls, portOk ps x.f0 x.f1 ∧ portOk ps x.f2 x.f3) ∧ ∀ x ∈ acs, aceOk ps x) := by
    intro d
    induction d with
    | zero =>
      intro i hi
      obtain ⟨v, hv, h0⟩ := links_ev ps ls acs (by omega) hb (endsS ls) (by rw [endsS_len]; omega) (endsS ls).length 0 (by omega)
      refine ⟨v, Ev.step (fun k => by rw [crossbuckref05_Check.l0, if_neg (by omega)]) (Ev.bind (ends_ev ps ls acs (by omega)) hv), fun h => ⟨fun j h1 h2 => by omega, fun x hx => ?_, (h0 h).2⟩⟩
      have hall : ∀ y ∈ endsS ls, portOk ps y.f0 y.f1 := fun y hy => by
        obtain ⟨j, hj, rfl⟩ := List.mem_iff_getElem.1 hy
        exact (h0 h).1 j (Nat.zero_le _) hj
      exact ⟨hall ⟨x.f0, x.f1⟩ (List.mem_flatMap.2 ⟨x, hx, by simp⟩), hall ⟨x.f2, x.f3⟩ (List.mem_flatMap.2 ⟨x, hx, by simp⟩)⟩
    | succ d ih =>
      intro i hi
      have hlt : i < ps.length := by omega
      have hr := rdI hlt
      obtain ⟨v, hv, h0⟩ := ih (i + 1) (by omega)
      by_cases c1 : ps[i] < 0
      · exact ⟨11, Ev.step (f := fun _ => some 11) (fun k => by rw [crossbuckref05_Check.l0, if_pos (by omega), if_pos (by omega), hr, if_pos c1]) (Ev.now 11), fun h => absurd h (by decide)⟩
      by_cases c2 : ps[i] > 8
      · exact ⟨11, Ev.step (f := fun _ => some 11) (fun k => by rw [crossbuckref05_Check.l0, if_pos (by omega), if_pos (by omega), hr, if_neg c1, if_pos c2]) (Ev.now 11), fun h => absurd h (by decide)⟩
      refine ⟨v, Ev.step (fun k => by rw [crossbuckref05_Check.l0, if_pos (by omega), if_pos (by omega), hr, if_neg c1, if_neg c2, wrS i (by omega)]) hv, fun h => ⟨fun j h1 h2 => ?_, (h0 h).2⟩⟩
      by_cases q : i = j
      · subst q
        exact ⟨by omega, by omega⟩
      · exact (h0 h).1 j (by omega) h2
  obtain ⟨v, hv, h0⟩ := hl0 ps.length 0 (by omega)
  have hbad : Ev (fun k => crossbuckref05_Check.j0 k true ps ls acs) 15 := Ev.step (f := fun _ => some 15) (fun k => by rw [crossbuckref05_Check.j0, if_pos rfl]) (Ev.now 15)
  unfold crossbuckref05_Check.f
  by_cases h1 : (ps.length : Int) < 1
  · simp only [if_pos h1]
    exact ⟨15, hbad, fun h => absurd h (by decide)⟩
  simp only [if_neg h1]
  by_cases h2 : (ps.length : Int) > 16
  · simp only [if_pos h2]
    exact ⟨15, hbad, fun h => absurd h (by decide)⟩
  simp only [if_neg h2]
  by_cases h3 : (acs.length : Int) > 32
  · rw [decide_eq_true h3]
    exact ⟨15, hbad, fun h => absurd h (by decide)⟩
  rw [decide_eq_false h3]
  refine ⟨v, Ev.step (fun k => by rw [crossbuckref05_Check.j0, if_neg (by decide)]; rfl) hv, fun h => ?_⟩
  obtain ⟨g1, g2, g3⟩ := h0 h
  refine ⟨by omega, by omega, fun n hn => ?_, g2, g3⟩
  obtain ⟨j, hj, rfl⟩ := List.mem_iff_getElem.1 hn
  exact g1 j (Nat.zero_le _) hj
theorem portOk.small {ps : List Int} {a b : Int} (h : portOk ps a b) (hf : ps.length ≤ 16) (hp : ∀ n ∈ ps, 0 ≤ n ∧ n ≤ 8) : small a ∧ small b := by
  obtain ⟨h1, h2, h3, h4⟩ := h
  obtain ⟨n, rfl⟩ := Int.eq_ofNat_of_zero_le h1
  have hn : n < ps.length := by omega
  rw [rdI hn] at h4
  have := hp _ (List.getElem_mem hn)
  exact ⟨⟨by omega, by omega⟩, ⟨h3, by omega⟩⟩
end Go.Proofs.YtloclimoffhbhaaDoor.Scr
