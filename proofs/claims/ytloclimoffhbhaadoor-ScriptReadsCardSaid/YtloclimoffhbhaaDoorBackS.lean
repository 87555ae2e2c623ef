/- What was read stands there: numbers, splits, cuts, addresses, prefixes, ranges. No condition of its own. -/
import Derived.Test.YtloclimoffhbhaaDoorFlt
import Derived.Test.YtloclimoffhbhaaDoorPSrex0
import Derived.Test.YtloclimoffhbhaaDoorPSrex1
import Derived.Test.YtloclimoffhbhaaDoorPSrex4
namespace Go.Proofs.YtloclimoffhbhaaDoor.Scr
open Go Go.RowKit Go.Proofs.YtloclimoffhbhaaDoor.PSre Go.Proofs.YtloclimoffhbhaaDoorW.PrintWords Go.Proofs.YtloclimoffhbhaaDoorW.PrintLast Go.Proofs.YtloclimoffhbhaaDoorW.PrintMore Go.Proofs.YtloclimoffhbhaaDoor.Bits Go.Proofs.YtloclimoffhbhaaDoor.Facts
set_option linter.unusedVariables false
set_option linter.unusedSimpArgs false
theorem w64n {n : Nat} (h : n < 1000000) : wrap64 ((n : Int) + 1) = ((n + 1 : Nat) : Int) := by rw [wrap64_id _ (by omega) (by omega)]; simp
theorem go_text (most : Int) (h1 : most ≤ 2097152) : ∀ (l : List UInt8) (v : Nat), 1 ≤ v → (v : Int) ≤ most → ∀ n, numberGo most l v = (n, 0) → ∃ m : Nat, n = m ∧ (m : Int) ≤ most ∧ Lib.decDigits m = Lib.decDigits v ++ l
  | [], v, _, b, n, h => by
    rw [numberGo, Prod.mk.injEq] at h
    exact ⟨v, h.1.symm, b, by simp⟩
  | c :: l, v, a, b, n, h => by
    rw [numberGo] at h
    by_cases x : c.toNat < 48 ∨ 57 < c.toNat
    · rw [if_pos x, Prod.mk.injEq] at h; exact absurd h.2 (by decide)
    · rw [if_neg x] at h
      have e : wrap64 (wrap64 ((v : Int) * 10) + ((c.toNat : Int) - 48)) = ((v * 10 + (c.toNat - 48) : Nat) : Int) := by
        rw [wrap64_id ((v : Int) * 10) (by omega) (by omega), wrap64_id _ (by omega) (by omega)]
        omega
      rw [e] at h
      clear e
      by_cases g : ((v * 10 + (c.toNat - 48) : Nat) : Int) > most
      · rw [if_pos g, Prod.mk.injEq] at h; exact absurd h.2 (by decide)
      · rw [if_neg g] at h
        obtain ⟨m, e1, e2, e3⟩ := go_text most h1 l (v * 10 + (c.toNat - 48)) (by omega) (by omega) n h
        refine ⟨m, e1, e2, ?_⟩
        have d1 : (v * 10 + (c.toNat - 48)) / 10 = v := by omega
        have d2 : 48 + (v * 10 + (c.toNat - 48)) % 10 = c.toNat := by omega
        rw [e3, dec_big (by omega), d1, d2]
        simp
theorem num_text {s : ByteArray} {most n : Int} (h0 : 0 ≤ most) (h1 : most ≤ 2097152) (h : hdr_Number.f s most = some (n, 0)) : ∃ m : Nat, n = m ∧ (m : Int) ≤ most ∧ s = B (D m) := by
  unfold hdr_Number.f at h
  have h := Option.some.inj h
  by_cases hb : numberBad s.data.toList = true
  · rw [if_pos hb, Prod.mk.injEq] at h; exact absurd h.2 (by decide)
  rw [if_neg hb] at h
  have key : ∀ l : List UInt8, s.data.toList = l → ∃ m : Nat, n = m ∧ (m : Int) ≤ most ∧ s.data.toList = D m := by
    intro l hl
    rw [hl] at h hb ⊢
    match l, hb, h with
    | [], hb, h => exact absurd rfl hb
    | c :: l, hb, h =>
      rw [numberGo] at h
      by_cases x : c.toNat < 48 ∨ 57 < c.toNat
      · rw [if_pos x, Prod.mk.injEq] at h; exact absurd h.2 (by decide)
      rw [if_neg x] at h
      have e : wrap64 (wrap64 ((0 : Int) * 10) + ((c.toNat : Int) - 48)) = ((c.toNat - 48 : Nat) : Int) := by
        rw [wrap64_id ((0 : Int) * 10) (by omega) (by omega), wrap64_id _ (by omega) (by omega)]
        omega
      rw [e] at h
      clear e
      have one : Lib.decDigits (c.toNat - 48) = [c] := by
        rw [dec_small (by omega), show 48 + (c.toNat - 48) = c.toNat by omega]
        simp
      by_cases g : ((c.toNat - 48 : Nat) : Int) > most
      · rw [if_pos g, Prod.mk.injEq] at h; exact absurd h.2 (by decide)
      rw [if_neg g] at h
      match l, hb, h with
      | [], _, h =>
        rw [numberGo, Prod.mk.injEq] at h
        exact ⟨c.toNat - 48, h.1.symm, by omega, one.symm⟩
      | d :: l, hb, h =>
        have hc : c ≠ 48 := by
          intro e
          subst e
          exact hb rfl
        have hc2 : c.toNat ≠ 48 := fun e => hc (UInt8.toNat_inj.1 e)
        obtain ⟨m, e1, e2, e3⟩ := go_text most h1 (d :: l) (c.toNat - 48) (by omega) (by omega) n h
        exact ⟨m, e1, e2, by unfold D; rw [e3, one]; rfl⟩
  obtain ⟨m, e1, e2, e3⟩ := key _ rfl
  exact ⟨m, e1, e2, B_of e3⟩
theorem join_sp (c : UInt8) : ∀ s : List UInt8, Lib.join (sp c s) [c] = s
  | [] => by rw [sp, Lib.join_one]
  | b :: l => by
    obtain ⟨h, t, e⟩ := sp_cons c l
    have ih := join_sp c l
    rw [e, Lib.join_cons] at ih
    rw [sp, e]
    by_cases d : b = c
    · rw [if_pos d, Lib.join_cons]
      unfold Lib.joinTail at ih ⊢
      rw [List.map_cons, List.flatten_cons, List.append_assoc, ih, d]
      rfl
    · rw [if_neg d]
      show Lib.join ((b :: h) :: t) [c] = b :: l
      rw [Lib.join_cons, List.cons_append, ih]
theorem split_sp {s : ByteArray} {c : UInt8} {l : List ByteArray} (hs : s.size ≤ 1000) (h : strings_Split.f s ⟨#[c]⟩ = some l) : l.map (·.data.toList) = sp c s.data.toList := by
  unfold strings_Split.f at h
  rw [if_pos ⟨by omega, by simp [ByteArray.size]⟩] at h
  have e := Option.some.inj h
  rw [← e, Lib.splitB_data, show (⟨#[c]⟩ : ByteArray).data.toList = [c] from rfl]
  unfold Lib.countB
  rw [show (⟨#[c]⟩ : ByteArray).data.toList = [c] from rfl, Lib.count_one, splitK_sp]
theorem addr_ok (l : List ByteArray) (hl : l.length = 4) (K : Nat) (a : Int) : ∀ (d i : Nat) (v : Int), i + d = 4 → hdr_ParseAddr.l0 (K + d + 1) v l 4 i = some (a, 0) → ∀ j, i ≤ j → ∀ hj : j < l.length, ∃ n : Nat, n ≤ 255 ∧ l[j] = B (D n) := by
  intro d
  induction d with
  | zero => intro i v h _ j h1 h2; omega
  | succ d ih =>
    intro i v h g j h1 h2
    have hi : i < l.length := by omega
    have hr : rdOf ByteArray.empty l (i : Int) = l[i] := by simp [rdOf, hi]
    have ew := w64n (n := i) (by omega)
    rcases hn : hdr_Number.f l[i] 255 with _ | ⟨n, e⟩
    · unfold hdr_Number.f at hn; cases hn
    rw [show K + (d + 1) + 1 = (K + d + 1) + 1 from rfl, hdr_ParseAddr.l0, if_pos (by clear ew; omega), if_pos (by clear ew; omega), if_pos (by clear ew; omega), hr, hn, Option.bind_some] at g
    by_cases c : e = 0
    · subst c
      rw [if_pos rfl, ew] at g
      by_cases q : i = j
      · subst q
        obtain ⟨m, e1, e2, e3⟩ := num_text (by decide) (by decide) hn
        exact ⟨m, by clear ew; omega, e3⟩
      · exact ih (i + 1) _ (by clear ew; omega) g j (by clear ew; omega) h2
    · rw [if_neg c] at g
      have := Option.some.inj g
      rw [Prod.mk.injEq] at this
      exact absurd this.2 c
theorem addr_text {s : ByteArray} (hs : s.size ≤ 1000) {K : Nat} {a : Int} (h : hdr_ParseAddr.f (K + 5) s = some (a, 0)) :
    ∃ n1 n2 n3 n4 : Nat, n1 ≤ 255 ∧ n2 ≤ 255 ∧ n3 ≤ 255 ∧ n4 ≤ 255 ∧ a = (((((n1 * 256 + n2) * 256 + n3) * 256 + n4 : Nat) : Int)) ∧ s = B (addrB n1 n2 n3 n4) := by
  obtain ⟨l, g1⟩ : ∃ l, strings_Split.f s ⟨#[46]⟩ = some l := ⟨_, if_pos ⟨by omega, by simp [ByteArray.size]⟩⟩
  have hm := split_sp hs g1
  have h' := h
  unfold hdr_ParseAddr.f at h'
  rw [g1, Option.bind_some] at h'
  by_cases c : l.length = 4
  · rw [if_pos (by omega), c] at h'
    have ok := addr_ok l c K a 4 0 0 rfl h'
    match l, c, hm, ok with
    | [w1, w2, w3, w4], _, hm, ok =>
      obtain ⟨n1, b1, rfl⟩ := ok 0 (Nat.le_refl _) (by simp)
      obtain ⟨n2, b2, rfl⟩ := ok 1 (Nat.zero_le _) (by simp)
      obtain ⟨n3, b3, rfl⟩ := ok 2 (Nat.zero_le _) (by simp)
      obtain ⟨n4, b4, rfl⟩ := ok 3 (Nat.zero_le _) (by simp)
      have hj := join_sp 46 s.data.toList
      rw [← hm] at hj
      have hs2 : s = B (addrB n1 n2 n3 n4) := by
        apply B_of
        rw [← hj]
        show Lib.join [D n1, D n2, D n3, D n4] [46] = _
        rw [Lib.join_cons]
        simp [Lib.joinTail, addrB]
      refine ⟨n1, n2, n3, n4, b1, b2, b3, b4, ?_, hs2⟩
      rw [hs2, addr_read K b1 b2 b3 b4] at h
      have := Option.some.inj h
      rw [Prod.mk.injEq] at this
      exact this.1.symm
  · rw [if_neg (by omega)] at h'
    have := Option.some.inj h'
    rw [Prod.mk.injEq] at this
    exact absurd this.2 (by decide)
theorem addrT_of {n1 n2 n3 n4 : Nat} (h1 : n1 ≤ 255) (h2 : n2 ≤ 255) (h3 : n3 ≤ 255) (h4 : n4 ≤ 255) : addrT (((n1 * 256 + n2) * 256 + n3) * 256 + n4) = addrB n1 n2 n3 n4 := by
  unfold addrT
  rw [show (((n1 * 256 + n2) * 256 + n3) * 256 + n4) / 16777216 % 256 = n1 by omega, show (((n1 * 256 + n2) * 256 + n3) * 256 + n4) / 65536 % 256 = n2 by omega, show (((n1 * 256 + n2) * 256 + n3) * 256 + n4) / 256 % 256 = n3 by omega, show (((n1 * 256 + n2) * 256 + n3) * 256 + n4) % 256 = n4 by omega]
theorem wrap16 {n : Nat} (h : n ≤ 65535) : IntKind.u16.wrap (n : Int) = n := by rw [wrap_u16]; omega
theorem index_split (c : UInt8) : ∀ (l : List UInt8), Lib.indexByte l c ≠ -1 → l = l.take (Lib.indexByte l c).toNat ++ c :: l.drop ((Lib.indexByte l c).toNat + 1)
  | [], h => absurd rfl h
  | b :: l, h => by
    by_cases e : b = c
    · have hi : Lib.indexByte (b :: l) c = 0 := by rw [Lib.indexByte, if_pos (beq_iff_eq.2 e)]
      rw [hi, e]
      rfl
    · have hge := Lib.indexByte_ge l c
      by_cases g : Lib.indexByte l c = -1
      · exact absurd (by rw [Lib.indexByte, if_neg (by simpa using e), if_pos (beq_iff_eq.2 g)]) h
      · have hi : Lib.indexByte (b :: l) c = Lib.indexByte l c + 1 := by rw [Lib.indexByte, if_neg (by simpa using e), if_neg (by simpa using g)]
        have hn : (Lib.indexByte l c + 1).toNat = (Lib.indexByte l c).toNat + 1 := by omega
        have ih := index_split c l g
        rw [hi, hn, List.take_succ_cons, List.drop_succ_cons, List.cons_append, ← ih]
theorem cut_text {s a b : ByteArray} {c : UInt8} (h : strings_Cut.f s ⟨#[c]⟩ = some (a, b, true)) : s = B (a.data.toList ++ c :: b.data.toList) := by
  unfold strings_Cut.f at h
  by_cases g : s.size < 4294967281
  · rw [if_pos g] at h
    unfold Lib.cut at h
    rw [show (⟨#[c]⟩ : ByteArray).data.toList = [c] from rfl, Lib.index_one] at h
    by_cases d : Lib.indexByte s.data.toList c ≥ 0
    · rw [if_pos d] at h
      simp only [Option.some.injEq, Prod.mk.injEq] at h
      obtain ⟨rfl, rfl, _⟩ := h
      exact B_of (index_split c _ (by omega))
    · rw [if_neg d] at h
      simp at h
  · rw [if_neg g] at h; cases h
theorem cut_small {s a b : ByteArray} {c : UInt8} (hs : s.size ≤ 1000) (h : strings_Cut.f s ⟨#[c]⟩ = some (a, b, true)) : a.size ≤ 1000 ∧ b.size ≤ 1000 := by
  have e := congrArg ByteArray.size (cut_text h)
  rw [B_size, List.length_append, List.length_cons] at e
  have e1 : a.data.toList.length = a.size := by simp
  have e2 : b.data.toList.length = b.size := by simp
  omega
theorem cidr_text {s : ByteArray} (hs : s.size ≤ 1000) {K : Nat} {a b : Int} (h : cidr_Parse.f (K + 5) s = some (a, b, 0)) :
    ∃ x y : Nat, a = x ∧ b = y ∧ x < 4294967296 ∧ y ≤ 32 ∧ rightB x y = true ∧ s = B (preT x y) := by
  unfold cidr_Parse.f at h
  rcases hc : strings_Cut.f s ⟨#[47]⟩ with _ | ⟨u, v, t⟩
  · rw [hc] at h; cases h
  rw [hc, Option.bind_some] at h
  cases t with
  | false =>
    rw [if_neg Bool.false_ne_true] at h
    simp at h
  | true =>
    obtain ⟨su, sv⟩ := cut_small hs hc
    have ht := cut_text hc
    rw [if_pos rfl] at h
    rcases ha : hdr_ParseAddr.f (K + 5) u with _ | ⟨x, e⟩
    · rw [ha] at h; cases h
    rw [ha, Option.bind_some] at h
    by_cases ce : e = 0
    · subst ce
      rw [if_pos rfl] at h
      obtain ⟨n1, n2, n3, n4, y1, y2, y3, y4, rfl, rfl⟩ := addr_text su ha
      rcases hn : hdr_Number.f v 32 with _ | ⟨n, e⟩
      · rw [hn] at h; cases h
      rw [hn, Option.bind_some] at h
      by_cases ce : e = 0
      · subst ce
        obtain ⟨m, rfl, lm, rfl⟩ := num_text (by decide) (by decide) hn
        rw [if_pos rfl, tright_eq (by omega) (by omega), Option.bind_some] at h
        cases hr : rightB (((((n1 * 256 + n2) * 256 + n3) * 256 + n4 : Nat) : Int)) (m : Int) with
        | false => rw [hr, if_neg Bool.false_ne_true] at h; simp at h
        | true =>
          rw [hr, if_pos rfl] at h
          simp only [Option.some.injEq, Prod.mk.injEq] at h
          obtain ⟨rfl, rfl, _⟩ := h
          refine ⟨((n1 * 256 + n2) * 256 + n3) * 256 + n4, m, rfl, rfl, by omega, by omega, hr, ?_⟩
          rw [ht]
          unfold preT
          rw [addrT_of y1 y2 y3 y4]
          rfl
      · rw [if_neg ce] at h
        simp only [Option.some.injEq, Prod.mk.injEq] at h
        exact absurd h.2.2 ce
    · rw [if_neg ce] at h
      simp only [Option.some.injEq, Prod.mk.injEq] at h
      exact absurd h.2.2 ce
theorem range_text {s : ByteArray} {a b : Int} (h : cidr_ParseRange.f s = some (a, b, 0)) :
    ∃ x y : Nat, a = x ∧ b = y ∧ x ≤ y ∧ y ≤ 65535 ∧ s = B (rngT x y) := by
  unfold cidr_ParseRange.f at h
  rcases hc : strings_Cut.f s ⟨#[45]⟩ with _ | ⟨u, v, t⟩
  · rw [hc] at h; cases h
  rw [hc, Option.bind_some] at h
  cases t with
  | false =>
    rw [if_neg Bool.false_ne_true] at h
    simp at h
  | true =>
    have ht := cut_text hc
    rw [if_pos rfl] at h
    rcases ha : hdr_Number.f u 65535 with _ | ⟨x, e⟩
    · rw [ha] at h; cases h
    rw [ha, Option.bind_some] at h
    by_cases ce : e = 0
    · subst ce
      rw [if_pos rfl] at h
      obtain ⟨m, rfl, lm, rfl⟩ := num_text (by decide) (by decide) ha
      rcases hb : hdr_Number.f v 65535 with _ | ⟨y, e⟩
      · rw [hb] at h; cases h
      rw [hb, Option.bind_some] at h
      by_cases ce : e = 0
      · subst ce
        obtain ⟨n, rfl, ln, rfl⟩ := num_text (by decide) (by decide) hb
        rw [if_pos rfl] at h
        by_cases g : (m : Int) > (n : Int)
        · rw [if_pos g] at h; simp at h
        · rw [if_neg g, wrap16 (by omega), wrap16 (by omega)] at h
          simp only [Option.some.injEq, Prod.mk.injEq] at h
          obtain ⟨rfl, rfl, _⟩ := h
          exact ⟨m, n, rfl, rfl, by omega, by omega, ht⟩
      · rw [if_neg ce] at h
        simp only [Option.some.injEq, Prod.mk.injEq] at h
        exact absurd h.2.2 ce
    · rw [if_neg ce] at h
      simp only [Option.some.injEq, Prod.mk.injEq] at h
      exact absurd h.2.2 ce
end Go.Proofs.YtloclimoffhbhaaDoor.Scr
