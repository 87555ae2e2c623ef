/- Plain facts on a topology: Port, Check of the program and of the document, as numbers. No condition of its own. -/
import Derived.Test.YtdemogdagemagaaFactsT
import Derived.Test.YtdemogdagemagaaPTgx0
import Derived.Test.YtdemogdagemagaaPTgx4
import Derived.Test.YtdemogdagemagaaPTgx5
import Derived.Test.YtdemogdagemagaaPTgx6
import Derived.Test.YtdemogdagemagaaPTgx9
namespace Go.Proofs.Ytdemogdagemagaa.Facts
open Go Go.RowKit Go.Proofs.Ytdemogdagemagaa.PTg Go.Proofs.YtdemogdagemagaaW.PrintWords Go.Proofs.YtdemogdagemagaaW.PrintLast Go.Proofs.YtdemogdagemagaaW.PrintMore Go.Proofs.Ytdemogdagemagaa.Bits
set_option linter.unusedVariables false
theorem u32_bd {a : Int} (h : (Lit.int .u32 a).wf = true) : 0 ≤ a ∧ a < 4294967296 := by
  simp [Lit.wf, IntKind.min, IntKind.max, IntKind.signed, IntKind.bits] at h
  exact ⟨by omega, by omega⟩
theorem u16_bd {a : Int} (h : (Lit.int .u16 a).wf = true) : 0 ≤ a ∧ a < 65536 := by
  simp [Lit.wf, IntKind.min, IntKind.max, IntKind.signed, IntKind.bits] at h
  exact ⟨by omega, by omega⟩
theorem u8_bd {a : Int} (h : (Lit.int .u8 a).wf = true) : 0 ≤ a ∧ a < 256 := by
  simp [Lit.wf, IntKind.min, IntKind.max, IntKind.signed, IntKind.bits] at h
  exact ⟨by omega, by omega⟩
theorem wr1 {i n : Int} (h0 : 0 ≤ i) (h : i < n) (hn : n ≤ 1000000000) : wrap64 (i + 1) = i + 1 := by unfold wrap64; omega
theorem tPort_ev (ps : List Int) (ls : List S39) (acs : List S52) (a b : Int) : Ev (fun k => topo_Port.f k ps ls acs a b) (portE ps a b) := by
  refine ⟨1, fun k hk => ?_⟩
  obtain ⟨m, rfl⟩ : ∃ m, k = m + 1 := ⟨k - 1, by omega⟩
  show topo_Port.f (m + 1) ps ls acs a b = _
  unfold topo_Port.f portE
  by_cases h1 : a < 0
  · simp [h1, topo_Port.j0]
  · by_cases h2 : (ps.length : Int) ≤ a
    · simp [h2, topo_Port.j0]
    · have h3 : 0 ≤ a := by omega
      have h4 : a < (ps.length : Int) := by omega
      by_cases h5 : b < 0
      · simp [h1, h2, topo_Port.j0, h5]
      · by_cases h6 : rd ps a ≤ b
        · simp [h1, h2, topo_Port.j0, h5, h3, h4, h6]
        · simp [h1, h2, topo_Port.j0, h5, h3, h4, h6]
theorem rPort_ev (ps : List Int) (ls : List S39) (acs : List S52) (a b : Int) : Ev (fun k => crossbuckref05_Port.f k ps ls acs a b) (portE ps a b) := by
  refine ⟨1, fun k hk => ?_⟩
  obtain ⟨m, rfl⟩ : ∃ m, k = m + 1 := ⟨k - 1, by omega⟩
  show crossbuckref05_Port.f (m + 1) ps ls acs a b = _
  unfold crossbuckref05_Port.f portE
  by_cases h1 : a < 0
  · simp [h1, crossbuckref05_Port.j0]
  · by_cases h2 : (ps.length : Int) ≤ a
    · simp [h2, crossbuckref05_Port.j0]
    · have h3 : 0 ≤ a := by omega
      have h4 : a < (ps.length : Int) := by omega
      by_cases h5 : b < 0
      · simp [h1, h2, crossbuckref05_Port.j0, h5]
      · by_cases h6 : rd ps a ≤ b
        · simp [h1, h2, crossbuckref05_Port.j0, h5, h3, h4, h6]
        · simp [h1, h2, crossbuckref05_Port.j0, h5, h3, h4, h6]
/-- An entry's filter. -/
def flt (a : S52) : Flt := ⟨a.f4.f0.f0, a.f4.f0.f1, a.f4.f1.f0, a.f4.f1.f1, a.f4.f2, a.f4.f3.f0, a.f4.f3.f1, a.f4.f4.f0, a.f4.f4.f1⟩
/-- What is wrong with entries. -/
def aceGo (ps : List Int) : List S52 → Int
  | [] => 0
  | a :: r => if portE ps a.f0 a.f1 = 0 then (if checkV (flt a) = 0 then aceGo ps r else checkV (flt a)) else portE ps a.f0 a.f1
/-- What is wrong with a topology. -/
def topoV (ps : List Int) (ls : List S39) (acs : List S52) : Int :=
  if ps.length < 1 ∨ 16 < ps.length ∨ 32 < acs.length then 15 else if ps.any badN = true then 11 else if linkGo ps (fun _ => false) (ends ls) = 0 then aceGo ps acs else linkGo ps (fun _ => false) (ends ls)
theorem drop52 {acs : List S52} {i : Nat} (h : i < acs.length) : acs.drop i = rd_T52 acs (i : Int) :: acs.drop (i + 1) := by
  rw [List.drop_eq_getElem_cons h]
  simp [rd_T52, List.getD, h]
theorem mem52 {acs : List S52} {i : Nat} (h : i < acs.length) : rd_T52 acs (i : Int) ∈ acs := by
  simp [rd_T52, List.getD, h]
theorem tAces_ev (ps : List Int) (ls : List S39) (acs : List S52) (hn : acs.length ≤ 1000000) (hb : ∀ a ∈ acs, (flt a).bd) (d : Nat) : ∀ i : Nat, i + d = acs.length →
    Ev (fun k => topo_Check.l0 k acs (acs.length : Int) (i : Int) ps ls acs) (aceGo ps (acs.drop i)) := by
  induction d with
  | zero =>
    intro i hi
    obtain rfl : i = acs.length := by omega
    rw [List.drop_length]
    exact Ev.step (f := fun _ => some 0) (fun k => by rw [topo_Check.l0, if_neg (by omega)]) (Ev.now 0)
  | succ d ih =>
    intro i hi
    have hlt : i < acs.length := by omega
    have hw : wrap64 ((i : Int) + 1) = ((i + 1 : Nat) : Int) := by rw [wr1 (n := 1000000) (by omega) (by omega) (by omega)]; omega
    have h3 := ih (i + 1) (by omega)
    rw [drop52 hlt]
    have hm := hb _ (mem52 hlt)
    refine Ev.step (fun k => by rw [topo_Check.l0, if_pos (by omega), if_pos (by omega), if_pos (by omega)]) (Ev.bind (tPort_ev ps ls acs _ _) ?_)
    unfold aceGo
    generalize rd_T52 acs (i : Int) = a at hm ⊢
    by_cases c : portE ps a.f0 a.f1 = 0
    · simp only [if_pos c]
      refine Ev.bind (⟨3, fun k hk => tcheck_eq hk hm⟩ : Ev _ (checkV (flt a))) ?_
      by_cases c2 : checkV (flt a) = 0
      · simp only [if_pos c2]
        rw [hw]
        exact h3
      · simp only [if_neg c2]
        exact Ev.now _
    · simp only [if_neg c]
      exact Ev.now _
theorem idxBad_ge (l : List Int) : ∀ i : Int, 0 ≤ i → (decide (idxBad l i ≥ 0) = l.any badN) := by
  induction l with
  | nil => intro i _; simp [idxBad]
  | cons x l ih =>
    intro i hi
    rw [idxBad, List.any_cons]
    by_cases c : badN x = true
    · rw [if_pos c, c]; simp [hi]
    · rw [if_neg c, ih (i + 1) (by omega)]; simp [c]
theorem tCheck_ev (ps : List Int) (ls : List S39) (acs : List S52) (hl : ls.length ≤ 1000000) (hb : ∀ a ∈ acs, (flt a).bd) : Ev (fun k => topo_Check.f k ps ls acs) (topoV ps ls acs) := by
  have hj : ∀ x : Bool, Ev (fun k => topo_Check.j0 k x ps ls acs) (if x = true then 15 else if ps.any badN = true then 11 else if linkGo ps (fun _ => false) (ends ls) = 0 then aceGo ps acs else linkGo ps (fun _ => false) (ends ls)) ∨ (x = false ∧ (16 < ps.length ∨ 32 < acs.length)) := by
    intro x
    cases x with
    | true => exact .inl (Ev.step (f := fun _ => some 15) (fun k => by rw [topo_Check.j0, if_pos rfl]) (Ev.now 15))
    | false =>
      by_cases hbig : 16 < ps.length ∨ 32 < acs.length
      · exact .inr ⟨rfl, hbig⟩
      refine .inl ?_
      rw [if_neg (by decide)]
      have hp : ps.length ≤ 16 := by omega
      have ha : acs.length ≤ 32 := by omega
      refine Ev.step (fun k => by rw [topo_Check.j0, if_neg (by decide)]) ?_
      have hc : slices_ContainsFunc_int_int.f ps = some (ps.any badN) := by
        unfold slices_ContainsFunc_int_int.f
        rw [if_pos (by omega), idxBad_ge ps 0 (by omega)]
      rw [hc]
      simp only [Option.bind_some]
      by_cases c : ps.any badN = true
      · simp only [if_pos c]
        exact Ev.now 11
      · simp only [if_neg c]
        have hn : ∀ n ∈ ps, n ≤ 1000000 := by
          intro n hn
          by_cases h8 : 8 < n
          · exact absurd (List.any_eq_true.2 ⟨n, hn, by simp [badN, h8]⟩) c
          · omega
        have hk : topo_links.f ps ls acs = some (linkGo ps (fun _ => false) (ends ls)) := by
          unfold topo_links.f
          rw [if_pos ⟨hl, by omega, hn⟩]
        rw [hk]
        simp only [Option.bind_some]
        by_cases c2 : linkGo ps (fun _ => false) (ends ls) = 0
        · simp only [if_pos c2]
          exact tAces_ev ps ls acs (by omega) hb acs.length 0 (by omega)
        · simp only [if_neg c2]
          exact Ev.now _
  unfold topo_Check.f topoV
  by_cases h1 : (ps.length : Int) = 0
  · simp only [if_pos h1]
    rw [if_pos (.inl (by omega))]
    rcases hj true with h | h
    · simpa using h
    · cases h.1
  · simp only [if_neg h1]
    by_cases h2 : (ps.length : Int) > 16
    · simp only [if_pos h2]
      rw [if_pos (.inr (.inl (by omega)))]
      rcases hj true with h | h
      · simpa using h
      · cases h.1
    · simp only [if_neg h2]
      by_cases h3 : (acs.length : Int) > 32
      · rw [if_pos (.inr (.inr (by omega))), decide_eq_true h3]
        rcases hj true with h | h
        · simpa using h
        · cases h.1
      · rw [if_neg (by omega), decide_eq_false h3]
        rcases hj false with h | h
        · simpa using h
        · omega
/-! The document's. -/
def pr (e : S90) : Int × Int := (e.f0, e.f1)
def endsS (ls : List S39) : List S90 := ls.flatMap fun x => [⟨x.f0, x.f1⟩, ⟨x.f2, x.f3⟩]
theorem endsS_pr (ls : List S39) : (endsS ls).map pr = ends ls := by
  induction ls with
  | nil => rfl
  | cons x l ih => simp [endsS, ends, pr] at ih ⊢; exact ih
theorem endsS_len (ls : List S39) : (endsS ls).length = 2 * ls.length := by
  induction ls with
  | nil => rfl
  | cons x l ih =>
    simp only [endsS, List.flatMap_cons, List.length_append, List.length_cons, List.length_nil] at ih ⊢
    omega
theorem drop39 {ls : List S39} {i : Nat} (h : i < ls.length) : ls.drop i = rd_T39 ls (i : Int) :: ls.drop (i + 1) := by
  rw [List.drop_eq_getElem_cons h]
  simp [rd_T39, List.getD, h]
theorem take39 {ls : List S39} {i : Nat} (h : i < ls.length) : ls.take (i + 1) = ls.take i ++ [rd_T39 ls (i : Int)] := by
  rw [List.take_succ_eq_append_getElem h]
  simp [rd_T39, List.getD, h]
theorem rEnds_ev (ps : List Int) (ls : List S39) (acs : List S52) (hl : ls.length ≤ 1000000) : Ev (fun k => crossbuckref05_Ends.f k ps ls acs) (endsS ls) := by
  have h : ∀ d i : Nat, i + d = ls.length → Ev (fun k => crossbuckref05_Ends.l0 k (endsS (ls.take i)) (i : Int) ps ls acs) (endsS ls) := by
    intro d
    induction d with
    | zero =>
      intro i hi
      obtain rfl : i = ls.length := by omega
      rw [List.take_length]
      exact Ev.step (f := fun _ => some (endsS ls)) (fun k => by rw [crossbuckref05_Ends.l0, if_neg (by omega)]) (Ev.now _)
    | succ d ih =>
      intro i hi
      have hlt : i < ls.length := by omega
      have hw : wrap64 ((i : Int) + 1) = ((i + 1 : Nat) : Int) := by rw [wr1 (n := 1000000) (by omega) (by omega) (by omega)]; omega
      have e : endsS (ls.take (i + 1)) = endsS (ls.take i) ++ [⟨(rd_T39 ls (i : Int)).f0, (rd_T39 ls (i : Int)).f1⟩, ⟨(rd_T39 ls (i : Int)).f2, (rd_T39 ls (i : Int)).f3⟩] := by
        rw [take39 hlt]; simp [endsS]
      have h3 := ih (i + 1) (by omega)
      rw [e] at h3
      have hlen : (endsS (ls.take i)).length = 2 * i := by rw [endsS_len, List.length_take]; omega
      refine Ev.step (fun k => ?_) h3
      rw [crossbuckref05_Ends.l0, if_pos (by omega), if_pos (by omega)]
      simp only [Option.bind_some]
      rw [if_pos (by simp only [hlen, List.length_cons, List.length_nil]; omega), hw]
  exact h ls.length 0 (by omega)
theorem drop90 {es : List S90} {i : Nat} (h : i < es.length) : es.drop i = rd_T90 es (i : Int) :: es.drop (i + 1) := by
  rw [List.drop_eq_getElem_cons h]
  simp [rd_T90, List.getD, h]
theorem take90 {es : List S90} {i : Nat} (h : i < es.length) : es.take (i + 1) = es.take i ++ [rd_T90 es (i : Int)] := by
  rw [List.take_succ_eq_append_getElem h]
  simp [rd_T90, List.getD, h]
theorem rd90_take {es : List S90} {i j : Nat} (h : j < i) (hi : i ≤ es.length) : rd_T90 es (j : Int) ∈ es.take i := by
  have : j < es.length := by omega
  rw [List.mem_iff_getElem]
  exact ⟨j, by simp; omega, by simp [rd_T90, List.getD, this]⟩
theorem rAces_ev (ps : List Int) (ls : List S39) (acs : List S52) (hn : acs.length ≤ 1000000) (hb : ∀ a ∈ acs, (flt a).bd) (d : Nat) : ∀ i : Nat, i + d = acs.length →
    Ev (fun k => crossbuckref05_Check.l3 k (i : Int) ps ls acs) (aceGo ps (acs.drop i)) := by
  induction d with
  | zero =>
    intro i hi
    obtain rfl : i = acs.length := by omega
    rw [List.drop_length]
    exact Ev.step (f := fun _ => some 0) (fun k => by rw [crossbuckref05_Check.l3, if_neg (by omega)]) (Ev.now 0)
  | succ d ih =>
    intro i hi
    have hlt : i < acs.length := by omega
    have hw : wrap64 ((i : Int) + 1) = ((i + 1 : Nat) : Int) := by rw [wr1 (n := 1000000) (by omega) (by omega) (by omega)]; omega
    have h3 := ih (i + 1) (by omega)
    rw [drop52 hlt]
    have hm := hb _ (mem52 hlt)
    refine Ev.step (fun k => by rw [crossbuckref05_Check.l3, if_pos (by omega), if_pos (by omega)]) (Ev.bind (rPort_ev ps ls acs _ _) ?_)
    unfold aceGo
    generalize rd_T52 acs (i : Int) = a at hm ⊢
    by_cases c : portE ps a.f0 a.f1 = 0
    · simp only [if_pos c]
      refine Ev.bind (⟨33, fun k hk => check_eq hk hm⟩ : Ev _ (checkV (flt a))) ?_
      by_cases c2 : checkV (flt a) = 0
      · simp only [if_pos c2]
        rw [hw]
        exact h3
      · simp only [if_neg c2]
        exact Ev.now _
    · simp only [if_neg c]
      exact Ev.now _
/-- The inner round: is the i-th end among those ahead of it? -/
theorem rInner_ev (ps : List Int) (ls : List S39) (acs : List S52) (es : List S90) (hn : es.length ≤ 1000000) (i : Nat) (hi : i < es.length) (R : Int) (hR : Ev (fun k => crossbuckref05_Check.l1 k es ((i + 1 : Nat) : Int) ps ls acs) R) (d : Nat) :
    ∀ j : Nat, j + d = i → Ev (fun k => crossbuckref05_Check.l2 k es (i : Int) (j : Int) ps ls acs) (if pr (rd_T90 es (i : Int)) ∈ ((es.take i).drop j).map pr then 12 else R) := by
  have hw : wrap64 ((i : Int) + 1) = ((i + 1 : Nat) : Int) := by rw [wr1 (n := 1000000) (by omega) (by omega) (by omega)]; omega
  induction d with
  | zero =>
    intro j hj
    obtain rfl : j = i := by omega
    rw [List.drop_of_length_le (by simp; omega), List.map_nil, if_neg List.not_mem_nil]
    exact Ev.step (fun k => by rw [crossbuckref05_Check.l2, if_neg (by omega), hw]) hR
  | succ d ih =>
    intro j hj
    have hjw : wrap64 ((j : Int) + 1) = ((j + 1 : Nat) : Int) := by rw [wr1 (n := 1000000) (by omega) (by omega) (by omega)]; omega
    have h3 := ih (j + 1) (by omega)
    have ed : (es.take i).drop j = rd_T90 es (j : Int) :: (es.take i).drop (j + 1) := by
      have hl : j < (es.take i).length := by simp; omega
      have hl2 : j < es.length := by omega
      rw [List.drop_eq_getElem_cons hl]
      simp [rd_T90, List.getD, hl2]
    rw [ed, List.map_cons]
    by_cases c : pr (rd_T90 es (i : Int)) = pr (rd_T90 es (j : Int))
    · rw [if_pos (by rw [c]; exact List.mem_cons_self)]
      refine Ev.step (f := fun _ => some 12) (fun k => ?_) (Ev.now 12)
      rw [crossbuckref05_Check.l2, if_pos (by omega), if_pos (by omega), if_pos (by omega), if_pos (by omega), if_pos (by omega), if_pos ?_]
      have c1 : (rd_T90 es (i : Int)).f0 = (rd_T90 es (j : Int)).f0 := congrArg Prod.fst c
      have c2 : (rd_T90 es (i : Int)).f1 = (rd_T90 es (j : Int)).f1 := congrArg Prod.snd c
      rw [c1, c2]; simp
    · have e2 : (pr (rd_T90 es (i : Int)) ∈ pr (rd_T90 es (j : Int)) :: ((es.take i).drop (j + 1)).map pr) = (pr (rd_T90 es (i : Int)) ∈ ((es.take i).drop (j + 1)).map pr) := by
        rw [List.mem_cons]; simp [c]
      simp only [e2]
      refine Ev.step (fun k => ?_) h3
      rw [crossbuckref05_Check.l2, if_pos (by omega), if_pos (by omega), if_pos (by omega), if_pos (by omega), if_pos (by omega), if_neg ?_, hjw]
      intro h
      rw [Bool.and_eq_true, beq_iff_eq, beq_iff_eq] at h
      exact c (Prod.ext h.1.symm h.2.symm)
theorem rLinks_ev (ps : List Int) (ls : List S39) (acs : List S52) (ha : acs.length ≤ 1000000) (hb : ∀ a ∈ acs, (flt a).bd) (es : List S90) (hn : es.length ≤ 1000000) (d : Nat) :
    ∀ i : Nat, i + d = es.length → Ev (fun k => crossbuckref05_Check.l1 k es (i : Int) ps ls acs)
      (if linkGo ps (fun z => decide (z ∈ (es.take i).map pr)) ((es.drop i).map pr) = 0 then aceGo ps acs else linkGo ps (fun z => decide (z ∈ (es.take i).map pr)) ((es.drop i).map pr)) := by
  induction d with
  | zero =>
    intro i hi
    obtain rfl : i = es.length := by omega
    rw [List.drop_length, List.map_nil]
    refine Ev.step (fun k => by rw [crossbuckref05_Check.l1, if_neg (by omega)]) ?_
    simp only [linkGo, if_true]
    exact rAces_ev ps ls acs ha hb acs.length 0 (by omega)
  | succ d ih =>
    intro i hi
    have hlt : i < es.length := by omega
    have h3 := ih (i + 1) (by omega)
    have hs : (fun z => decide (z ∈ (es.take (i + 1)).map pr)) = (fun z => if z = pr (rd_T90 es (i : Int)) then true else decide (z ∈ (es.take i).map pr)) := by
      funext z
      rw [take90 hlt, List.map_append]
      by_cases c : z = pr (rd_T90 es (i : Int))
      · rw [if_pos c, c]; simp
      · rw [if_neg c]
        simp only [List.mem_append, List.map_cons, List.map_nil, List.mem_cons, List.not_mem_nil, or_false, c]
    rw [hs] at h3
    rw [drop90 hlt, List.map_cons]
    have hin := rInner_ev ps ls acs es hn i hlt _ h3 i 0 (by omega)
    rw [List.drop_zero] at hin
    generalize hx : rd_T90 es (i : Int) = x at hin ⊢
    refine Ev.step (fun k => by rw [crossbuckref05_Check.l1, if_pos (by omega), if_pos (by omega), hx]) (Ev.bind (rPort_ev ps ls acs _ _) ?_)
    have hp1 : (pr x).1 = x.f0 := rfl
    have hp2 : (pr x).2 = x.f1 := rfl
    rw [linkGo, hp1, hp2]
    by_cases c : portE ps x.f0 x.f1 = 0
    · rw [if_neg (show ¬ portE ps x.f0 x.f1 ≠ 0 by simpa using c)]
      simp only [if_pos c]
      by_cases c2 : pr x ∈ (es.take i).map pr
      · rw [if_pos (decide_eq_true c2), if_neg (by decide)]
        rw [if_pos c2] at hin
        exact hin
      · rw [if_neg (show ¬ decide (pr x ∈ (es.take i).map pr) = true by simpa using c2)]
        rw [if_neg c2] at hin
        exact hin
    · rw [if_pos (show portE ps x.f0 x.f1 ≠ 0 from c)]
      simp only [if_neg c]
      exact Ev.now _
theorem rCheck_ev (ps : List Int) (ls : List S39) (acs : List S52) (hp : ps.length ≤ 1000000) (ha : acs.length ≤ 1000000) (hl : ls.length ≤ 400000) (hb : ∀ a ∈ acs, (flt a).bd) : Ev (fun k => crossbuckref05_Check.f k ps ls acs) (topoV ps ls acs) := by
  have hl0 : ∀ d i : Nat, i + d = ps.length → Ev (fun k => crossbuckref05_Check.l0 k (i : Int) ps ls acs) (if (ps.drop i).any badN = true then 11 else if linkGo ps (fun _ => false) (ends ls) = 0 then aceGo ps acs else linkGo ps (fun _ => false) (ends ls)) := by
    intro d
    induction d with
    | zero =>
      intro i hi
      obtain rfl : i = ps.length := by omega
      rw [List.drop_length, List.any_nil, if_neg (by decide)]
      refine Ev.step (fun k => by rw [crossbuckref05_Check.l0, if_neg (by omega)]) (Ev.bind (rEnds_ev ps ls acs (by omega)) ?_)
      have h := rLinks_ev ps ls acs ha hb (endsS ls) (by rw [endsS_len]; omega) (endsS ls).length 0 (by omega)
      simp only [List.take_zero, List.map_nil, List.not_mem_nil, List.drop_zero, endsS_pr] at h
      exact h
    | succ d ih =>
      intro i hi
      have hlt : i < ps.length := by omega
      have hw : wrap64 ((i : Int) + 1) = ((i + 1 : Nat) : Int) := by rw [wr1 (n := 1000000) (by omega) (by omega) (by omega)]; omega
      have e : ps.drop i = rd ps (i : Int) :: ps.drop (i + 1) := by
        rw [List.drop_eq_getElem_cons hlt]
        simp [rd, List.getD, hlt]
      rw [e, List.any_cons]
      generalize hx : rd ps (i : Int) = x
      by_cases c1 : x < 0
      · rw [if_pos (by simp [badN, c1])]
        exact Ev.step (f := fun _ => some 11) (fun k => by rw [crossbuckref05_Check.l0, if_pos (by omega), if_pos (by omega), hx, if_pos c1]) (Ev.now 11)
      · by_cases c2 : x > 8
        · rw [if_pos (by simp [badN, c2])]
          exact Ev.step (f := fun _ => some 11) (fun k => by rw [crossbuckref05_Check.l0, if_pos (by omega), if_pos (by omega), hx, if_neg c1, if_pos c2]) (Ev.now 11)
        · rw [show badN x = false by simp [badN]; omega, Bool.false_or]
          exact Ev.step (fun k => by rw [crossbuckref05_Check.l0, if_pos (by omega), if_pos (by omega), hx, if_neg c1, if_neg c2, hw]) (ih (i + 1) (by omega))
  have hj : ∀ x : Bool, Ev (fun k => crossbuckref05_Check.j0 k x ps ls acs) (if x = true then 15 else if ps.any badN = true then 11 else if linkGo ps (fun _ => false) (ends ls) = 0 then aceGo ps acs else linkGo ps (fun _ => false) (ends ls)) := by
    intro x
    cases x with
    | true => exact (Ev.step (f := fun _ => some 15) (fun k => by rw [crossbuckref05_Check.j0, if_pos rfl]) (Ev.now 15))
    | false =>
      rw [if_neg (by decide)]
      exact Ev.step (fun k => by rw [crossbuckref05_Check.j0, if_neg (by decide)]; rfl) (hl0 ps.length 0 (by omega))
  unfold crossbuckref05_Check.f topoV
  by_cases h1 : (ps.length : Int) < 1
  · simp only [if_pos h1]
    rw [if_pos (.inl (by omega))]
    simpa using hj true
  · simp only [if_neg h1]
    by_cases h2 : (ps.length : Int) > 16
    · simp only [if_pos h2]
      rw [if_pos (.inr (.inl (by omega)))]
      simpa using hj true
    · simp only [if_neg h2]
      by_cases h3 : (acs.length : Int) > 32
      · rw [if_pos (.inr (.inr (by omega))), decide_eq_true h3]
        simpa using hj true
      · rw [if_neg (by omega), decide_eq_false h3]
        simpa using hj false
/-! Peer. -/
def peerGo (a b : Int) : List S39 → Int × Int × Bool
  | [] => (0, 0, false)
  | x :: r => if (a == x.f0 && b == x.f1) = true then (x.f2, x.f3, true) else if (a == x.f2 && b == x.f3) = true then (x.f0, x.f1, true) else peerGo a b r
theorem tPeer_ev (ps : List Int) (ls : List S39) (acs : List S52) (hl : ls.length ≤ 1000000) (a b : Int) : Ev (fun k => topo_Peer.f k ps ls acs a b) (peerGo a b ls) := by
  have h : ∀ d i : Nat, i + d = ls.length → Ev (fun k => topo_Peer.l0 k a b ls (ls.length : Int) (i : Int)) (peerGo a b (ls.drop i)) := by
    intro d
    induction d with
    | zero =>
      intro i hi
      obtain rfl : i = ls.length := by omega
      rw [List.drop_length]
      exact Ev.step (f := fun _ => some (0, 0, false)) (fun k => by rw [topo_Peer.l0, if_neg (by omega)]) (Ev.now _)
    | succ d ih =>
      intro i hi
      have hlt : i < ls.length := by omega
      have hw : wrap64 ((i : Int) + 1) = ((i + 1 : Nat) : Int) := by rw [wr1 (n := 1000000) (by omega) (by omega) (by omega)]; omega
      have h3 := ih (i + 1) (by omega)
      rw [drop39 hlt, peerGo]
      generalize hx : rd_T39 ls (i : Int) = x
      by_cases c1 : (a == x.f0 && b == x.f1) = true
      · rw [if_pos c1]
        exact Ev.step (f := fun _ => some (x.f2, x.f3, true)) (fun k => by rw [topo_Peer.l0, if_pos (by omega), if_pos (by omega), if_pos (by omega), hx, if_pos c1]) (Ev.now _)
      · rw [if_neg c1]
        by_cases c2 : (a == x.f2 && b == x.f3) = true
        · rw [if_pos c2]
          exact Ev.step (f := fun _ => some (x.f0, x.f1, true)) (fun k => by rw [topo_Peer.l0, if_pos (by omega), if_pos (by omega), if_pos (by omega), hx, if_neg c1, if_pos c2]) (Ev.now _)
        · rw [if_neg c2]
          exact Ev.step (fun k => by rw [topo_Peer.l0, if_pos (by omega), if_pos (by omega), if_pos (by omega), hx, if_neg c1, if_neg c2, hw]) h3
  exact h ls.length 0 (by omega)
theorem awake05_ev : Ev (fun k => crossbucklaw05_awake.f k) true := by
  unfold crossbucklaw05_awake.f
  simp only [Option.bind_some]
  refine Ev.bind (tPeer_ev [1, 1] [⟨0, 0, 1, 0⟩] [] (by decide) 0 0) ?_
  have e : peerGo 0 0 [⟨0, 0, 1, 0⟩] = (1, 0, true) := by decide
  simp only [e, if_true]
  refine Ev.bind (tCheck_ev [1, 1] [⟨0, 0, 1, 0⟩] [] (by decide) (fun a h => by cases h)) ?_
  have e2 : topoV [1, 1] [⟨0, 0, 1, 0⟩] [] = 0 := by decide
  rw [e2]
  exact Ev.now _
theorem light_eq (ps : List Int) (ls : List S39) (acs : List S52) : crossbucklaw05_Light.f ps ls acs = some (decide (ps.length ≤ 40 ∧ ls.length ≤ 100 ∧ acs.length ≤ 60)) := by
  unfold crossbucklaw05_Light.f
  by_cases h1 : (ps.length : Int) ≤ 40
  · rw [if_pos h1]
    by_cases h2 : (ls.length : Int) ≤ 100
    · rw [if_pos h2]
      have : (ps.length ≤ 40 ∧ ls.length ≤ 100 ∧ acs.length ≤ 60) ↔ ((acs.length : Int) ≤ 60) := ⟨fun h => by omega, fun h => ⟨by omega, by omega, by omega⟩⟩
      simp only [this]
    · rw [if_neg h2, decide_eq_false (by omega)]
  · rw [if_neg h1, decide_eq_false (by omega)]
/-- What the row tells of the entries. -/
def AcesGood (acs : List S52) : Prop := ∀ p ∈ acs, (Lit.int .i64 p.f0).wf = true ∧ (Lit.int .i64 p.f1).wf = true ∧ (Lit.int .u32 p.f4.f0.f0).wf = true ∧ (Lit.int .i64 p.f4.f0.f1).wf = true ∧ (Lit.int .u32 p.f4.f1.f0).wf = true ∧ (Lit.int .i64 p.f4.f1.f1).wf = true ∧ (Lit.int .i64 p.f4.f2).wf = true ∧ (Lit.int .u16 p.f4.f3.f0).wf = true ∧ (Lit.int .u16 p.f4.f3.f1).wf = true ∧ (Lit.int .u16 p.f4.f4.f0).wf = true ∧ (Lit.int .u16 p.f4.f4.f1).wf = true
theorem AcesGood.bd {acs : List S52} (h : AcesGood acs) : ∀ a ∈ acs, (flt a).bd := fun a ha =>
  let ⟨_, _, w0, _, w2, _, _, w5, w6, w7, w8⟩ := h a ha
  ⟨u32_bd w0, u32_bd w2, u16_bd w5, u16_bd w6, u16_bd w7, u16_bd w8⟩
end Go.Proofs.Ytdemogdagemagaa.Facts
