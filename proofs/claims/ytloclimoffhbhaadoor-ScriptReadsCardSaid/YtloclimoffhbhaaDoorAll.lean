/- Any text, read: numbers, prefixes, ranges, filters, rules, changes; what was read stands there. No condition of its own. -/
import Derived.Test.YtloclimoffhbhaaDoorBackS
import Derived.Test.YtloclimoffhbhaaDoorQry
import Derived.Lib.IndexMore
import Derived.Test.YtloclimoffhbhaaDoorPSrex0
import Derived.Test.YtloclimoffhbhaaDoorPSrex1
import Derived.Test.YtloclimoffhbhaaDoorPSrex2
import Derived.Test.YtloclimoffhbhaaDoorPSrex3
import Derived.Test.YtloclimoffhbhaaDoorPSrex4
import Derived.Test.YtloclimoffhbhaaDoorPSrex5
namespace Go.Proofs.YtloclimoffhbhaaDoor.Scr
open Go Go.RowKit Go.Proofs.YtloclimoffhbhaaDoor.PSre Go.Proofs.YtloclimoffhbhaaDoorW.PrintWords Go.Proofs.YtloclimoffhbhaaDoorW.PrintLast Go.Proofs.YtloclimoffhbhaaDoorW.PrintMore Go.Proofs.YtloclimoffhbhaaDoor.Bits Go.Proofs.YtloclimoffhbhaaDoor.Facts
set_option linter.unusedVariables false
set_option linter.unusedSimpArgs false
theorem num_some (s : ByteArray) (most : Int) : ∃ n e, hdr_Number.f s most = some (n, e) := by
  unfold hdr_Number.f
  exact ⟨_, _, rfl⟩
theorem numText {s : ByteArray} {most n : Int} (h0 : 0 ≤ most) (h1 : most ≤ 2097152) (h : hdr_Number.f s most = some (n, 0)) : 0 ≤ n ∧ n ≤ most ∧ s = B (D n.toNat) := by
  obtain ⟨m, rfl, h2, h3⟩ := num_text h0 h1 h
  exact ⟨by omega, h2, by rw [Int.toNat_natCast]; exact h3⟩
theorem numbers_all (ws : List ByteArray) (hl : ws.length ≤ 1000) : ∃ ns e, Ev (fun k => script_numbers.f k ws) (ns, e) ∧ (e ≠ 0 → ns = []) ∧ (e = 0 → (∀ n ∈ ns, small n) ∧ ws = ns.map fun n => B (D n.toNat)) := by
  have h : ∀ d i : Nat, i + d = ws.length → ∀ acc : List Int, acc.length ≤ i → ∃ ns e, Ev (fun k => script_numbers.l0 k acc ws (ws.length : Int) (i : Int)) (ns, e) ∧ (e ≠ 0 → ns = []) ∧ (e = 0 → ∃ ms, ns = acc ++ ms ∧ (∀ n ∈ ms, small n) ∧ ws.drop i = ms.map fun n => B (D n.toNat)) := by
    intro d
    induction d with
    | zero =>
      intro i hi acc _
      obtain rfl : i = ws.length := by omega
      exact ⟨acc, 0, Ev.step (f := fun _ => some (acc, 0)) (fun k => by rw [script_numbers.l0, if_neg (by omega)]) (Ev.now _), fun h => absurd rfl h, fun _ => ⟨[], by simp, by simp, by simp⟩⟩
    | succ d ih =>
      intro i hi acc ha
      have hlt : i < ws.length := by omega
      have e : rdOf ByteArray.empty ws (i : Int) = ws[i] := by simp [rdOf, List.getD, hlt]
      obtain ⟨n, er, hn⟩ := num_some ws[i] 2097152
      by_cases h0 : er = 0
      · subst h0
        obtain ⟨s0, s1, hw⟩ := numText (by decide) (by decide) hn
        obtain ⟨ns, e2, h1, h2, h3⟩ := ih (i + 1) (by omega) (acc ++ [n]) (by simp; omega)
        refine ⟨ns, e2, Ev.step (fun k => ?_) h1, h2, fun h => ?_⟩
        · rw [script_numbers.l0, if_pos (by omega), if_pos (by omega), if_pos (by omega), e, hn, Option.bind_some]
          dsimp only
          rw [if_pos rfl, if_pos (by omega), wrS i (by omega)]
        · obtain ⟨ms, a, b, c⟩ := h3 h
          refine ⟨n :: ms, by rw [a]; simp, ?_, ?_⟩
          · intro x hx
            rcases List.mem_cons.1 hx with rfl | hx
            · exact ⟨s0, s1⟩
            · exact b x hx
          · rw [List.drop_eq_getElem_cons hlt, c, List.map_cons, hw]
      · refine ⟨[], er, Ev.step (f := fun _ => some ([], er)) (fun k => ?_) (Ev.now _), fun _ => rfl, fun h => absurd h h0⟩
        rw [script_numbers.l0, if_pos (by omega), if_pos (by omega), if_pos (by omega), e, hn, Option.bind_some]
        dsimp only
        rw [if_neg h0]
  obtain ⟨ns, e, h1, h2, h3⟩ := h ws.length 0 (by omega) [] (by simp)
  refine ⟨ns, e, h1, h2, fun h => ?_⟩
  obtain ⟨ms, a, b, c⟩ := h3 h
  simp only [List.nil_append] at a
  subst a
  exact ⟨b, by simpa using c⟩
theorem split_some {s : ByteArray} (c : UInt8) (hs : s.size ≤ 1000) : ∃ l, strings_Split.f s ⟨#[c]⟩ = some l ∧ l.map (·.data.toList) = sp c s.data.toList ∧ (∀ x ∈ l, x.size ≤ 1000) ∧ l.length ≤ 1001 ∧ 0 < l.length := by
  obtain ⟨l, h⟩ : ∃ l, strings_Split.f s ⟨#[c]⟩ = some l := ⟨_, if_pos ⟨by omega, by simp [ByteArray.size]⟩⟩
  have hm := split_sp hs h
  have hz : s.data.toList.length = s.size := by simp
  have hcnt : ∀ t : List UInt8, (sp c t).length ≤ t.length + 1 := by
    intro t
    induction t with
    | nil => simp [sp]
    | cons b t ih =>
      obtain ⟨u, r, e⟩ := sp_cons c t
      rw [e, List.length_cons] at ih
      rw [sp, e]
      by_cases d : b = c
      · rw [if_pos d]; simp; omega
      · rw [if_neg d]; simp; omega
  have h1 := congrArg List.length hm
  rw [List.length_map] at h1
  have h2 := hcnt s.data.toList
  refine ⟨l, h, hm, fun x hx => ?_, by omega, ?_⟩
  · have hx2 : x.data.toList ∈ sp c s.data.toList := by rw [← hm]; exact List.mem_map_of_mem hx
    have := sp_le c _ _ hx2
    have e2 : x.data.toList.length = x.size := by simp
    omega
  · obtain ⟨u, r, e⟩ := sp_cons c s.data.toList
    rw [e] at h1
    simp at h1
    omega
theorem cut_some {s : ByteArray} (c : UInt8) (hs : s.size ≤ 1000) : ∃ a b t, strings_Cut.f s ⟨#[c]⟩ = some (a, b, t) ∧ a.size ≤ 1000 ∧ b.size ≤ 1000 ∧ (t = true → s = B (a.data.toList ++ c :: b.data.toList)) ∧ (t = false → a = s ∧ b = ⟨#[]⟩) := by
  obtain ⟨a, b, t, h⟩ : ∃ a b t, strings_Cut.f s ⟨#[c]⟩ = some (a, b, t) := by
    unfold strings_Cut.f
    rw [if_pos (by omega)]
    exact ⟨_, _, _, rfl⟩
  cases t with
  | true =>
    obtain ⟨h1, h2⟩ := cut_small hs h
    exact ⟨a, b, true, h, h1, h2, fun _ => cut_text h, fun h => by cases h⟩
  | false =>
    have h' := h
    unfold strings_Cut.f at h'
    rw [if_pos (by omega)] at h'
    unfold Lib.cut at h'
    by_cases d : 0 ≤ Lib.index s.data.toList (⟨#[c]⟩ : ByteArray).data.toList
    · rw [if_pos d] at h'
      simp at h'
    · rw [if_neg d] at h'
      simp only [Option.some.injEq, Prod.mk.injEq] at h'
      obtain ⟨h1, h2, _⟩ := h'
      have ha : a = s := by rw [← h1]
      have hb : b = ⟨#[]⟩ := h2.symm
      subst ha
      subst hb
      exact ⟨a, _, false, h, hs, by decide, fun h => (by cases h), fun _ => ⟨rfl, rfl⟩⟩
theorem addr_all {s : ByteArray} (hs : s.size ≤ 1000) : ∃ a e, Ev (fun k => hdr_ParseAddr.f k s) (a, e) := by
  obtain ⟨l, g1, _, _, _, _⟩ := split_some 46 hs
  unfold hdr_ParseAddr.f
  simp only [g1, Option.bind_some]
  by_cases c : l.length = 4
  case neg => exact ⟨0, 6, by simp only [if_neg (show ¬ (l.length : Int) = 4 by omega)]; exact Ev.now _⟩
  have h : ∀ d i : Nat, i + d = 4 → ∀ v : Int, ∃ a e, Ev (fun k => hdr_ParseAddr.l0 k v l 4 (i : Int)) (a, e) := by
    intro d
    induction d with
    | zero =>
      intro i hi v
      obtain rfl : i = 4 := by omega
      exact ⟨v, 0, Ev.step (f := fun _ => some (v, 0)) (fun k => by rw [hdr_ParseAddr.l0, if_neg (by omega)]) (Ev.now _)⟩
    | succ d ih =>
      intro i hi v
      have hlt : i < l.length := by omega
      have e : rdOf ByteArray.empty l (i : Int) = l[i] := by simp [rdOf, List.getD, hlt]
      obtain ⟨n, er, hn⟩ := num_some l[i] 255
      by_cases h0 : er = 0
      · subst h0
        have h2 := ih (i + 1) (by omega)
        rw [← wrS i (by omega)] at h2
        obtain ⟨a, e2, h1⟩ := h2 _
        refine ⟨a, e2, Ev.step (fun k => ?_) h1⟩
        rw [hdr_ParseAddr.l0, if_pos (by omega), if_pos (by omega), if_pos (by omega), e, hn, Option.bind_some]
        dsimp only
        rw [if_pos rfl]
      · refine ⟨0, er, Ev.step (f := fun _ => some (0, er)) (fun k => ?_) (Ev.now _)⟩
        rw [hdr_ParseAddr.l0, if_pos (by omega), if_pos (by omega), if_pos (by omega), e, hn, Option.bind_some]
        dsimp only
        rw [if_neg h0]
  obtain ⟨a, e, h1⟩ := h 4 0 rfl 0
  refine ⟨a, e, ?_⟩
  simp only [c]
  exact h1
theorem Ev.at {α : Type} {g : Nat → Option α} {r : α} (n : Nat) (h : Ev g r) : ∃ K, g (K + n) = some r := by
  obtain ⟨K, h⟩ := h
  exact ⟨K, h _ (Nat.le_add_right _ _)⟩
theorem addr_bd {s : ByteArray} (hs : s.size ≤ 1000) {a : Int} (h : Ev (fun k => hdr_ParseAddr.f k s) (a, 0)) : 0 ≤ a ∧ a < 4294967296 := by
  obtain ⟨K, h⟩ := Ev.at 5 h
  obtain ⟨n1, n2, n3, n4, h1, h2, h3, h4, rfl, _⟩ := addr_text hs h
  exact ⟨by omega, by omega⟩
theorem prefix_all {s : ByteArray} (hs : s.size ≤ 1000) : ∃ a b e, Ev (fun k => cidr_Parse.f k s) (a, b, e) ∧ (e ≠ 0 → a = 0 ∧ b = 0) ∧ (e = 0 → 0 ≤ a ∧ a < 4294967296 ∧ rightB a b = true ∧ s = B (preT a.toNat b.toNat)) := by
  have key : ∃ a b e, Ev (fun k => cidr_Parse.f k s) (a, b, e) ∧ (e ≠ 0 → a = 0 ∧ b = 0) := by
    obtain ⟨u, v, t, hc, su, sv, _, _⟩ := cut_some 47 hs
    unfold cidr_Parse.f
    simp only [hc, Option.bind_some]
    cases t with
    | false => exact ⟨0, 0, 6, by simp only [Bool.false_eq_true, if_false]; exact Ev.now _, fun _ => ⟨rfl, rfl⟩⟩
    | true =>
      simp only [if_true]
      obtain ⟨x, e, ha⟩ := addr_all su
      by_cases ce : e = 0
      case neg => exact ⟨0, 0, e, Ev.bind ha (by simp only [if_neg ce]; exact Ev.now _), fun _ => ⟨rfl, rfl⟩⟩
      subst ce
      obtain ⟨x0, x1⟩ := addr_bd su ha
      obtain ⟨n, e, hn⟩ := num_some v 32
      by_cases ce : e = 0
      case neg => exact ⟨0, 0, e, Ev.bind ha (by simp only [if_true, hn, Option.bind_some, if_neg ce]; exact Ev.now _), fun _ => ⟨rfl, rfl⟩⟩
      subst ce
      cases hr : rightB x n with
      | true => exact ⟨x, n, 0, Ev.bind ha (by simp only [if_true, hn, Option.bind_some, tright_eq x0 x1, hr]; exact Ev.now _), fun h => absurd rfl h⟩
      | false => exact ⟨0, 0, 13, Ev.bind ha (by simp only [if_true, hn, Option.bind_some, tright_eq x0 x1, hr, Bool.false_eq_true, if_false]; exact Ev.now _), fun _ => ⟨rfl, rfl⟩⟩
  obtain ⟨a, b, e, h, hz⟩ := key
  refine ⟨a, b, e, h, hz, fun he => ?_⟩
  subst he
  obtain ⟨K, h⟩ := Ev.at 5 h
  obtain ⟨x, y, rfl, rfl, h1, h2, h3, h4⟩ := cidr_text hs h
  exact ⟨by omega, by omega, h3, by simpa using h4⟩
theorem range_all (s : ByteArray) (hs : s.size ≤ 1000) : ∃ a b e, cidr_ParseRange.f s = some (a, b, e) ∧ (e = 0 → 0 ≤ a ∧ a ≤ b ∧ b ≤ 65535 ∧ s = B (rngT a.toNat b.toNat)) := by
  have key : ∃ a b e, cidr_ParseRange.f s = some (a, b, e) := by
    obtain ⟨u, v, t, hc, su, sv, _, _⟩ := cut_some 45 hs
    unfold cidr_ParseRange.f
    rw [hc, Option.bind_some]
    obtain ⟨n, e, hn⟩ := num_some u 65535
    obtain ⟨m, f, hm⟩ := num_some v 65535
    simp only [hn, hm, Option.bind_some]
    split
    · split
      · split
        · split
          · exact ⟨_, _, _, rfl⟩
          · exact ⟨_, _, _, rfl⟩
        · exact ⟨_, _, _, rfl⟩
      · exact ⟨_, _, _, rfl⟩
    · exact ⟨_, _, _, rfl⟩
  obtain ⟨a, b, e, h⟩ := key
  refine ⟨a, b, e, h, fun he => ?_⟩
  subst he
  obtain ⟨x, y, rfl, rfl, h1, h2, h3⟩ := range_text h
  exact ⟨by omega, by omega, by omega, by simpa using h3⟩
/-- Words that stand in a text, with blanks between. -/
theorem words_text {s : ByteArray} {l : List ByteArray} {ps : List (List UInt8)} {c : UInt8} (hm : l.map (·.data.toList) = sp c s.data.toList) (hl : l = ps.map B) : s = B (Lib.join ps [c]) := by
  apply B_of
  have hj := join_sp c s.data.toList
  rw [← hm, hl, List.map_map] at hj
  rw [← hj]
  congr 1
  exact (List.map_id ps)
theorem filter_all {s : ByteArray} (hs : s.size ≤ 1000) : ∃ f0 f1 f2 f3 f4 f5 f6 f7 f8 e, Ev (fun k => filter_Parse.f k s) (f0, f1, f2, f3, f4, f5, f6, f7, f8, e) ∧ (e = 0 → BdF f0 f1 f2 f3 f4 f5 f6 f7 f8 ∧ rightF f0 f1 f2 f3 f4 f5 f6 f7 f8 = true ∧ s = B (fT f0 f1 f2 f3 f4 f5 f6 f7 f8)) := by
  obtain ⟨l, h1, hm, h3, _, _⟩ := split_some 32 hs
  by_cases c : l.length = 5
  case neg =>
    refine ⟨0, 0, 0, 0, 0, 0, 0, 0, 0, 6, ?_, fun h => absurd h (by decide)⟩
    unfold filter_Parse.f
    simp only [h1, Option.bind_some, if_neg (show ¬ (l.length : Int) = 5 by omega)]
    exact Ev.now _
  match l, c, h1, h3, hm with
  | [w0, w1, w2, w3, w4], _, h1, h3, hm =>
    obtain ⟨a, b, e0, g0, _, t0⟩ := prefix_all (h3 w0 (by simp))
    obtain ⟨c, d, e1, g1, _, t1⟩ := prefix_all (h3 w1 (by simp))
    obtain ⟨e, f, e3, g3, t3⟩ := range_all w3 (h3 w3 (by simp))
    obtain ⟨g, h, e4, g4, t4⟩ := range_all w4 (h3 w4 (by simp))
    have hP : ∃ p e2, (∀ F : Int × Int → Option (Int × Int × Int × Int × Int × Int × Int × Int × Int × Int), (if w2.toList = ([97, 110, 121] : List UInt8) then F (-1, 0) else (hdr_Number.f w2 255).bind F) = F (p, e2)) ∧ (e2 = 0 → -1 ≤ p ∧ p ≤ 255 ∧ w2 = B (proW p)) := by
      by_cases q : w2.toList = [97, 110, 121]
      · exact ⟨-1, 0, fun F => by rw [if_pos q], fun _ => ⟨by omega, by omega, B_of (by rw [← ByteArray.toList_eq, q]; rfl)⟩⟩
      · obtain ⟨n, er, hn⟩ := num_some w2 255
        refine ⟨n, er, fun F => by rw [if_neg q, hn, Option.bind_some], fun h0 => ?_⟩
        subst h0
        obtain ⟨n0, n1, hw⟩ := numText (by decide) (by decide) hn
        exact ⟨by omega, n1, by rw [hw, proW, if_neg (by omega)]⟩
    obtain ⟨p, e2, hp, t2⟩ := hP
    have hE : fiveEnd w3 w4 (a, b, e0) (c, d, e1) (p, e2) = if e0 = 0 then (if e1 = 0 then (if e2 = 0 then (if e3 = 0 then (if e4 = 0 then some (a, b, c, d, p, e, f, g, h, 0) else some (0, 0, 0, 0, 0, 0, 0, 0, 0, e4)) else some (0, 0, 0, 0, 0, 0, 0, 0, 0, e3)) else some (0, 0, 0, 0, 0, 0, 0, 0, 0, e2)) else some (0, 0, 0, 0, 0, 0, 0, 0, 0, e1)) else some (0, 0, 0, 0, 0, 0, 0, 0, 0, e0) := by
      unfold fiveEnd
      rw [g3, Option.bind_some, g4]
      rfl
    have hgo : ∀ r, fiveEnd w3 w4 (a, b, e0) (c, d, e1) (p, e2) = some r → Ev (fun k => filter_Parse.f k s) r := by
      intro r hr
      refine Ev.step (fun k => fparse_five k h1) ?_
      obtain ⟨K0, g0⟩ := g0
      obtain ⟨K1, g1⟩ := g1
      refine ⟨K0 + K1, fun k hk => ?_⟩
      have x0 : cidr_Parse.f (k + 1) w0 = some (a, b, e0) := g0 _ (by omega)
      have x1 : cidr_Parse.f (k + 1) w1 = some (c, d, e1) := g1 _ (by omega)
      dsimp only
      rw [x0, Option.bind_some, x1, Option.bind_some]
      exact (hp (fun n => fiveEnd w3 w4 (a, b, e0) (c, d, e1) n)).trans hr
    rw [hE] at hgo
    clear hE
    by_cases q0 : e0 = 0
    case neg => exact ⟨_, _, _, _, _, _, _, _, _, _, hgo _ (if_neg q0), fun h => absurd h q0⟩
    by_cases q1 : e1 = 0
    case neg => exact ⟨_, _, _, _, _, _, _, _, _, _, hgo _ (by rw [if_pos q0, if_neg q1]), fun h => absurd h q1⟩
    by_cases q2 : e2 = 0
    case neg => exact ⟨_, _, _, _, _, _, _, _, _, _, hgo _ (by rw [if_pos q0, if_pos q1, if_neg q2]), fun h => absurd h q2⟩
    by_cases q3 : e3 = 0
    case neg => exact ⟨_, _, _, _, _, _, _, _, _, _, hgo _ (by rw [if_pos q0, if_pos q1, if_pos q2, if_neg q3]), fun h => absurd h q3⟩
    by_cases q4 : e4 = 0
    case neg => exact ⟨_, _, _, _, _, _, _, _, _, _, hgo _ (by rw [if_pos q0, if_pos q1, if_pos q2, if_pos q3, if_neg q4]), fun h => absurd h q4⟩
    refine ⟨_, _, _, _, _, _, _, _, _, _, hgo _ (by rw [if_pos q0, if_pos q1, if_pos q2, if_pos q3, if_pos q4]), fun _ => ?_⟩
    obtain ⟨a0, a1, r1, wt0⟩ := t0 q0
    obtain ⟨c0, c1, r2, wt1⟩ := t1 q1
    obtain ⟨p0, p1, wt2⟩ := t2 q2
    obtain ⟨x0, x1, x2, wt3⟩ := t3 q3
    obtain ⟨y0, y1, y2, wt4⟩ := t4 q4
    refine ⟨⟨⟨a0, a1⟩, ⟨c0, c1⟩, ⟨x0, by omega⟩, ⟨by omega, x2⟩, ⟨y0, by omega⟩, ⟨by omega, y2⟩⟩, rightF_iff.2 ⟨r1, r2, p0, p1, x1, y1⟩, ?_⟩
    have := words_text (ps := [preT a.toNat b.toNat, preT c.toNat d.toNat, proW p, rngT e.toNat f.toNat, rngT g.toNat h.toNat]) hm (by rw [wt0, wt1, wt2, wt3, wt4]; rfl)
    rw [join_five] at this
    exact this
theorem toList_D {s : ByteArray} {l : List UInt8} (h : s.toList = l) : s = B l := B_of (by rw [← ByteArray.toList_eq]; exact h)
theorem join_splitK (sep : List UInt8) (hs : sep ≠ []) : ∀ (k : Nat) (s : List UInt8), Lib.join (Lib.splitK sep 0 k s) sep = s
  | 0, s => by rw [Lib.splitK, Lib.join_one]
  | k + 1, s => by
    rw [Lib.splitK]
    rcases Lib.index_spec s sep with ⟨h, _⟩ | ⟨i, h, hi, ho, _⟩
    · rw [if_pos (beq_iff_eq.2 h), Lib.join_one]
    · have h0 : ¬ ((i : Int) == -1) = true := by rw [beq_iff_eq]; omega
      rw [h, if_neg h0, Int.toNat_natCast, Nat.add_zero]
      have ih := join_splitK sep hs k (s.drop (i + sep.length))
      have hne : ∃ u r, Lib.splitK sep 0 k (s.drop (i + sep.length)) = u :: r := by
        cases k with
        | zero => exact ⟨_, _, rfl⟩
        | succ k =>
          rw [Lib.splitK]
          split
          · exact ⟨_, _, rfl⟩
          · exact ⟨_, _, rfl⟩
      obtain ⟨u, r, e⟩ := hne
      rw [e, Lib.join_cons] at ih
      rw [e, Lib.join_cons]
      unfold Lib.joinTail at ih ⊢
      rw [List.map_cons, List.flatten_cons, List.append_assoc, ih]
      unfold Lib.occAt at ho
      obtain ⟨t, ht⟩ := List.isPrefixOf_iff_prefix.1 ho
      have h1 : s = s.take i ++ s.drop i := (List.take_append_drop i s).symm
      have h2 : s.drop (i + sep.length) = t := by rw [← List.drop_drop, ← ht, List.drop_left]
      rw [h2, ht]
      exact h1.symm
theorem joinS_join : ∀ ws : List (List UInt8), Lib.join ws [59, 32] = joinS ws
  | [] => rfl
  | [w] => by rw [Lib.join_one]; rfl
  | u :: v :: r => by
    have ih := joinS_join (v :: r)
    rw [Lib.join_cons] at ih ⊢
    unfold Lib.joinTail at ih ⊢
    rw [List.map_cons, List.flatten_cons, List.append_assoc, ih]
    show _ = u ++ 59 :: 32 :: joinS (v :: r)
    simp
theorem semi_some {s : ByteArray} (hs : s.size ≤ 1000) : ∃ l, strings_Split.f s ⟨#[59, 32]⟩ = some l ∧ joinS (l.map (·.data.toList)) = s.data.toList ∧ (∀ x ∈ l, x.size ≤ 1000) ∧ l.length ≤ s.size + 1 ∧ 0 < l.length := by
  obtain ⟨l, h⟩ : ∃ l, strings_Split.f s ⟨#[59, 32]⟩ = some l := ⟨_, if_pos ⟨by omega, by simp [ByteArray.size]⟩⟩
  have h' := h
  unfold strings_Split.f at h'
  rw [if_pos ⟨by omega, by simp [ByteArray.size]⟩] at h'
  have e := Option.some.inj h'
  have hm : l.map (·.data.toList) = Lib.splitK [59, 32] 0 (Lib.countB s ⟨#[59, 32]⟩) s.data.toList := by
    rw [← e, Lib.splitB_data]
  have hj := join_splitK [59, 32] (by simp) (Lib.countB s ⟨#[59, 32]⟩) s.data.toList
  rw [← hm, joinS_join] at hj
  have hlen : l.length = Lib.countB s ⟨#[59, 32]⟩ + 1 := by rw [← e]; exact Lib.splitB_all _ (by decide) 0 _ s rfl
  have hc := Lib.countB_le ⟨#[59, 32]⟩ (by decide) s.size s (Nat.le_refl _)
  have hle : ∀ (ws : List (List UInt8)) (x : List UInt8), x ∈ ws → x.length ≤ (joinS ws).length := by
    intro ws
    induction ws with
    | nil => intro x hx; cases hx
    | cons w r ih =>
      intro x hx
      cases r with
      | nil =>
        rw [List.mem_singleton] at hx
        rw [hx]
        exact Nat.le_refl _
      | cons v r =>
        show _ ≤ (w ++ 59 :: 32 :: joinS (v :: r)).length
        rw [List.length_append, List.length_cons, List.length_cons]
        rcases List.mem_cons.1 hx with rfl | hx
        · omega
        · have := ih x hx
          omega
  refine ⟨l, h, hj, fun x hx => ?_, by omega, by omega⟩
  have := hle _ x.data.toList (List.mem_map_of_mem (f := fun b : ByteArray => b.data.toList) hx)
  rw [hj] at this
  have e2 : x.data.toList.length = x.size := by simp
  have e3 : s.data.toList.length = s.size := by simp
  omega
theorem rule_all {ws : List ByteArray} (hs : ∀ x ∈ ws, x.size ≤ 1000) : ∃ id dev a b prio out e, Ev (fun k => script_rule.f k ws) (id, dev, a, b, prio, out, e) ∧ (e ≠ 0 → id = 0 ∧ dev = 0 ∧ a = 0 ∧ b = 0 ∧ prio = 0 ∧ out = 0) ∧
    (e = 0 → (0 ≤ a ∧ a < 4294967296) ∧ small id ∧ small dev ∧ small prio ∧ (-1 ≤ out ∧ out ≤ 2097152) ∧ rightB a b = true ∧ ws = [B (D id.toNat), B (D dev.toNat), B (preT a.toNat b.toNat), B (D prio.toNat), B (outW out)]) := by
  unfold script_rule.f
  by_cases c : ws.length = 5
  case neg =>
    refine ⟨0, 0, 0, 0, 0, 0, 6, ?_, fun _ => ⟨rfl, rfl, rfl, rfl, rfl, rfl⟩, fun h => absurd h (by decide)⟩
    simp only [if_neg (show ¬ (ws.length : Int) = 5 by omega)]
    exact Ev.now _
  match ws, c, hs with
  | [w0, w1, w2, w3, w4], _, hs =>
    have r0 : ∀ a b c d e : ByteArray, rdOf ByteArray.empty [a, b, c, d, e] 0 = a := fun _ _ _ _ _ => rfl
    have r1 : ∀ a b c d e : ByteArray, rdOf ByteArray.empty [a, b, c, d, e] 1 = b := fun _ _ _ _ _ => rfl
    have r2 : ∀ a b c d e : ByteArray, rdOf ByteArray.empty [a, b, c, d, e] 2 = c := fun _ _ _ _ _ => rfl
    have r3 : ∀ a b c d e : ByteArray, rdOf ByteArray.empty [a, b, c, d, e] 3 = d := fun _ _ _ _ _ => rfl
    have r4 : ∀ a b c d e : ByteArray, rdOf ByteArray.empty [a, b, c, d, e] 4 = e := fun _ _ _ _ _ => rfl
    have hlen : ∀ a b c d e : ByteArray, (([a, b, c, d, e] : List ByteArray).length : Int) = 5 := fun _ _ _ _ _ => rfl
    simp only [hlen, if_true, r0, r1, r2, r3, r4, show ((2 : Int) < 5) = True from by decide, show ((0 : Int) < 5) = True from by decide, show ((1 : Int) < 5) = True from by decide, show ((3 : Int) < 5) = True from by decide, show ((4 : Int) < 5) = True from by decide]
    obtain ⟨a, b, e0, g0, _, t0⟩ := prefix_all (hs w2 (by simp))
    by_cases q0 : e0 = 0
    case neg =>
      refine ⟨0, 0, 0, 0, 0, 0, e0, Ev.bind g0 ?_, fun _ => ⟨rfl, rfl, rfl, rfl, rfl, rfl⟩, fun h => absurd h q0⟩
      simp only [if_neg q0]
      exact Ev.now _
    obtain ⟨a0, a1, rb, wt⟩ := t0 q0
    by_cases q : w4.toList = [100, 114, 111, 112]
    · obtain ⟨ns, e, hn, hz, ht⟩ := numbers_all [w0, w1, w3] (by simp)
      by_cases q1 : e = 0
      case neg =>
        refine ⟨0, 0, 0, 0, 0, 0, e, Ev.bind g0 ?_, fun _ => ⟨rfl, rfl, rfl, rfl, rfl, rfl⟩, fun h => absurd h q1⟩
        simp only [if_pos q0, Option.bind_some, if_pos q]
        refine Ev.step (fun k => by rw [script_rule.j0]) (Ev.bind hn ?_)
        simp only [if_neg q1]
        exact Ev.now _
      obtain ⟨hs1, hw⟩ := ht q1
      have hl := congrArg List.length hw
      rw [List.length_map] at hl
      match ns, hl, hs1, hw, hn with
      | [n0, n1, n2], _, hs1, hw, hn =>
        simp only [List.map_cons, List.map_nil, List.cons.injEq, and_true] at hw
        refine ⟨n0, n1, a, b, n2, -1, 0, Ev.bind g0 ?_, fun h => absurd rfl h, fun _ => ⟨⟨a0, a1⟩, hs1 n0 (by simp), hs1 n1 (by simp), hs1 n2 (by simp), ⟨by decide, by decide⟩, rb, ?_⟩⟩
        · simp only [if_pos q0, Option.bind_some, if_pos q]
          refine Ev.step (fun k => by rw [script_rule.j0]) (Ev.bind hn ?_)
          have hl3 : ∀ a b c : Int, (([a, b, c] : List Int).length : Int) = 3 := fun _ _ _ => rfl
          simp only [q1, hl3, if_true, show ((3 : Int) = 4) = False from by decide, if_false, show ((0 : Int) < 3) = True from by decide, show ((1 : Int) < 3) = True from by decide, show ((2 : Int) < 3) = True from by decide]
          exact Ev.now _
        · rw [hw.1, hw.2.1, hw.2.2, wt, toList_D q]
          rfl
    · obtain ⟨ns, e, hn, hz, ht⟩ := numbers_all ([w0, w1, w3] ++ [w4]) (by simp)
      have hl3 : ∀ a b c : ByteArray, ([a, b, c] : List ByteArray).length < 8796093022208 := fun _ _ _ => by show 3 < _; omega
      by_cases q1 : e = 0
      case neg =>
        refine ⟨0, 0, 0, 0, 0, 0, e, Ev.bind g0 ?_, fun _ => ⟨rfl, rfl, rfl, rfl, rfl, rfl⟩, fun h => absurd h q1⟩
        simp only [if_pos q0, Option.bind_some, if_neg q, if_pos (hl3 _ _ _)]
        refine Ev.step (fun k => by rw [script_rule.j0]) (Ev.bind hn ?_)
        simp only [if_neg q1]
        exact Ev.now _
      obtain ⟨hs1, hw⟩ := ht q1
      have hl := congrArg List.length hw
      rw [List.length_map] at hl
      match ns, hl, hs1, hw, hn with
      | [n0, n1, n2, n3], _, hs1, hw, hn =>
        simp only [List.cons_append, List.nil_append, List.map_cons, List.map_nil, List.cons.injEq, and_true] at hw
        have h3 := hs1 n3 (by simp)
        refine ⟨n0, n1, a, b, n2, n3, 0, Ev.bind g0 ?_, fun h => absurd rfl h, fun _ => ⟨⟨a0, a1⟩, hs1 n0 (by simp), hs1 n1 (by simp), hs1 n2 (by simp), ⟨by have := h3.1; omega, h3.2⟩, rb, ?_⟩⟩
        · simp only [if_pos q0, Option.bind_some, if_neg q, if_pos (hl3 _ _ _)]
          refine Ev.step (fun k => by rw [script_rule.j0]) (Ev.bind hn ?_)
          have hl4 : ∀ a b c d : Int, (([a, b, c, d] : List Int).length : Int) = 4 := fun _ _ _ _ => rfl
          simp only [q1, hl4, if_true, show ((0 : Int) < 4) = True from by decide, show ((1 : Int) < 4) = True from by decide, show ((2 : Int) < 4) = True from by decide, show ((3 : Int) < 4) = True from by decide]
          exact Ev.now _
        · rw [hw.1, hw.2.1, hw.2.2.1, hw.2.2.2, wt, outW, if_neg (by have := h3.1; omega)]
def zeroC : S46 := ⟨false, ⟨0, 0, ⟨0, 0⟩, 0, 0⟩⟩
theorem change_all {s : ByteArray} (hs : s.size ≤ 1000) : ∃ (q : S46) (e : Int), Ev (fun k => script_Change.f k s) (q.f0, q.f1.f0, q.f1.f1, q.f1.f2.f0, q.f1.f2.f1, q.f1.f3, q.f1.f4, e) ∧ (e ≠ 0 → q = zeroC) ∧ (e = 0 → bdC q ∧ rightC q = true ∧ s = B (chT q)) := by
  obtain ⟨u, v, t, hc, su, sv, ht, hf⟩ := cut_some 32 hs
  unfold script_Change.f
  simp only [hc, Option.bind_some]
  by_cases c1 : u.toList = [97, 100, 100]
  · simp only [if_pos c1]
    obtain ⟨l, h1, hm, h3, _, _⟩ := split_some 32 sv
    simp only [h1, Option.bind_some]
    obtain ⟨id, dev, a, b, prio, out, e, hr, hz, hok⟩ := rule_all h3
    refine ⟨⟨false, ⟨id, dev, ⟨a, b⟩, prio, out⟩⟩, e, Ev.bind hr (Ev.now _), fun h => ?_, fun h => ?_⟩
    · obtain ⟨rfl, rfl, rfl, rfl, rfl, rfl⟩ := hz h
      rfl
    · obtain ⟨hb, s1, s2, s3, ho, rb, hw⟩ := hok h
      refine ⟨hb, rightC_iff.2 ⟨s1, .inr ⟨s2, s3, ho, rb⟩⟩, ?_⟩
      cases t with
      | false =>
        obtain ⟨_, rfl⟩ := hf rfl
        have := congrArg List.length hm
        rw [hw] at this
        simp [sp] at this
      | true =>
        have hv := words_text (ps := [D id.toNat, D dev.toNat, preT a.toNat b.toNat, D prio.toNat, outW out]) hm (by rw [hw]; rfl)
        rw [join_five] at hv
        rw [ht rfl, hv, toList_D c1]
        unfold chT
        simp only [Bool.false_eq_true, if_false]
        rfl
  simp only [if_neg c1]
  by_cases c2 : u.toList = [100, 101, 108]
  · simp only [if_pos c2]
    obtain ⟨n, e, hn⟩ := num_some v 2097152
    simp only [hn, Option.bind_some]
    by_cases h0 : e = 0
    case neg => exact ⟨zeroC, e, by simp only [if_neg h0]; exact Ev.now _, fun _ => rfl, fun h => absurd h h0⟩
    subst h0
    obtain ⟨s0, s1, hw⟩ := numText (by decide) (by decide) hn
    refine ⟨⟨true, ⟨n, 0, ⟨0, 0⟩, 0, 0⟩⟩, 0, by simp only [if_true]; exact Ev.now _, fun h => absurd rfl h, fun _ => ⟨⟨Int.le_refl 0, show (0 : Int) < 4294967296 by decide⟩, rightC_iff.2 ⟨⟨s0, s1⟩, .inl rfl⟩, ?_⟩⟩
    cases t with
    | false =>
      obtain ⟨_, rfl⟩ := hf rfl
      unfold hdr_Number.f at hn
      rw [if_pos (by rfl)] at hn
      simp at hn
    | true =>
      rw [ht rfl, hw, toList_D c2]
      unfold chT
      rw [if_pos rfl]
      rfl
  · simp only [if_neg c2]
    exact ⟨zeroC, 6, Ev.now _, fun _ => rfl, fun h => absurd h (by decide)⟩
theorem changes_all {s : ByteArray} (hs : s.size ≤ 1000) : ∃ (l : List S46) (e : Int), Ev (fun k => script_changes.f k s) (l, e) ∧ (e ≠ 0 → l = []) ∧ (e = 0 → 0 < l.length ∧ l.length ≤ s.size + 1 ∧ (∀ q ∈ l, bdC q) ∧ (∀ q ∈ l, rightC q = true) ∧ s = B (joinS (l.map chT))) := by
  obtain ⟨ws, h1, hj, h3, h4, h5⟩ := semi_some hs
  unfold script_changes.f
  simp only [h1, Option.bind_some]
  have h : ∀ d i : Nat, i + d = ws.length → ∀ acc : List S46, acc.length ≤ i → ∃ ns e, Ev (fun k => script_changes.l0 k acc ws (ws.length : Int) (i : Int)) (ns, e) ∧ (e ≠ 0 → ns = []) ∧ (e = 0 → ∃ ms : List S46, ns = acc ++ ms ∧ (∀ n ∈ ms, bdC n) ∧ (∀ n ∈ ms, rightC n = true) ∧ ws.drop i = ms.map fun n => B (chT n)) := by
    intro d
    induction d with
    | zero =>
      intro i hi acc _
      obtain rfl : i = ws.length := by omega
      exact ⟨acc, 0, Ev.step (f := fun _ => some (acc, 0)) (fun k => by rw [script_changes.l0, if_neg (by omega)]) (Ev.now _), fun h => absurd rfl h, fun _ => ⟨[], by simp, by simp, by simp, by simp⟩⟩
    | succ d ih =>
      intro i hi acc ha
      have hlt : i < ws.length := by omega
      have e : rdOf ByteArray.empty ws (i : Int) = ws[i] := by simp [rdOf, List.getD, hlt]
      obtain ⟨q, er, hn, hz, hok⟩ := change_all (h3 _ (List.getElem_mem hlt))
      by_cases h0 : er = 0
      · subst h0
        obtain ⟨b1, b2, hw⟩ := hok rfl
        have hq : (⟨q.f0, ⟨q.f1.f0, q.f1.f1, ⟨q.f1.f2.f0, q.f1.f2.f1⟩, q.f1.f3, q.f1.f4⟩⟩ : S46) = q := rfl
        obtain ⟨ns, e2, g1, g2, g3⟩ := ih (i + 1) (by omega) (acc ++ [q]) (by simp; omega)
        refine ⟨ns, e2, Ev.step (fun k => by rw [script_changes.l0, if_pos (by omega), if_pos (by omega), if_pos (by omega), e]) (Ev.bind hn ?_), g2, fun h => ?_⟩
        · simp only [if_true, if_pos (show acc.length < 2513169434916 by omega), wrS i (by omega)]
          exact g1
        · obtain ⟨ms, a, b, c, f⟩ := g3 h
          refine ⟨q :: ms, by rw [a]; simp, ?_, ?_, ?_⟩
          · intro x hx
            rcases List.mem_cons.1 hx with rfl | hx
            · exact b1
            · exact b x hx
          · intro x hx
            rcases List.mem_cons.1 hx with rfl | hx
            · exact b2
            · exact c x hx
          · rw [List.drop_eq_getElem_cons hlt, f, List.map_cons, hw]
      · refine ⟨[], er, Ev.step (fun k => by rw [script_changes.l0, if_pos (by omega), if_pos (by omega), if_pos (by omega), e]) (Ev.bind hn ?_), fun _ => rfl, fun h => absurd h h0⟩
        simp only [if_neg h0]
        exact Ev.now _
  obtain ⟨ns, e, g1, g2, g3⟩ := h ws.length 0 (by omega) [] (by simp)
  refine ⟨ns, e, g1, g2, fun h => ?_⟩
  obtain ⟨ms, a, b, c, f⟩ := g3 h
  simp only [List.nil_append] at a
  subst a
  rw [List.drop_zero] at f
  have hl := congrArg List.length f
  rw [List.length_map] at hl
  refine ⟨by omega, by omega, b, c, ?_⟩
  apply B_of
  rw [← hj, f, List.map_map]
  rfl
end Go.Proofs.YtloclimoffhbhaaDoor.Scr
