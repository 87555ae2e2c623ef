/- What was read stands there: numbers, splits, addresses. No condition of its own. -/
import Derived.Test.YtloclimoffhbhaaDoorAddr
import Derived.Test.YtloclimoffhbhaaDoorPFxx1
import Derived.Test.YtloclimoffhbhaaDoorPFxx6
namespace Go.Proofs.YtloclimoffhbhaaDoor.Pure
open Go Go.RowKit Go.Proofs.YtloclimoffhbhaaDoor.PFx Go.Proofs.YtloclimoffhbhaaDoorW.PrintWords Go.Proofs.YtloclimoffhbhaaDoorW.PrintLast Go.Proofs.YtloclimoffhbhaaDoorW.PrintMore Go.Proofs.YtloclimoffhbhaaDoor.Bits Go.Proofs.YtloclimoffhbhaaDoor.Text Go.Proofs.YtloclimoffhbhaaDoor.Dec
set_option linter.unusedVariables false

/-! ### What was read stands there -/
theorem B_of {s : ByteArray} {l : List UInt8} (h : s.data.toList = l) : s = B l := by
  apply ByteArray.ext
  apply Array.toList_inj.mp
  rw [h]
  rfl
theorem go_text (most : Int) (h1 : most ≤ 70000) : ∀ (l : List UInt8) (v : Nat), 1 ≤ v → (v : Int) ≤ most → ∀ n, numberGo most l v = (n, 0) → ∃ m : Nat, n = m ∧ (m : Int) ≤ most ∧ Lib.decDigits m = Lib.decDigits v ++ l
  | [], v, _, b, n, h => by
    rw [numberGo, Prod.mk.injEq] at h
    exact ⟨v, h.1.symm, b, by simp⟩
  | c :: l, v, a, b, n, h => by
    rw [numberGo] at h
    by_cases x : c.toNat < 48 ∨ 57 < c.toNat
    · rw [if_pos x, Prod.mk.injEq] at h; exact absurd h.2 (by decide)
    · rw [if_neg x] at h
      have e : wrap64 (wrap64 ((v : Int) * 10) + ((c.toNat : Int) - 48)) = ((v * 10 + (c.toNat - 48) : Nat) : Int) := by
        rw [wrap64_id ((v : Int) * 10) (by omega) (by omega), wrap64_id _ (by omega) (by omega)]
        omega
      rw [e] at h
      clear e
      by_cases g : ((v * 10 + (c.toNat - 48) : Nat) : Int) > most
      · rw [if_pos g, Prod.mk.injEq] at h; exact absurd h.2 (by decide)
      · rw [if_neg g] at h
        obtain ⟨m, e1, e2, e3⟩ := go_text most h1 l (v * 10 + (c.toNat - 48)) (by omega) (by omega) n h
        refine ⟨m, e1, e2, ?_⟩
        have d1 : (v * 10 + (c.toNat - 48)) / 10 = v := by omega
        have d2 : 48 + (v * 10 + (c.toNat - 48)) % 10 = c.toNat := by omega
        rw [e3, dec_big (by omega), d1, d2]
        simp
theorem num_text {s : ByteArray} {most n : Int} (h0 : 0 ≤ most) (h1 : most ≤ 70000) (h : hdr_Number.f s most = some (n, 0)) : ∃ m : Nat, n = m ∧ (m : Int) ≤ most ∧ s = B (D m) := by
  unfold hdr_Number.f at h
  have h := Option.some.inj h
  by_cases hb : numberBad s.data.toList = true
  · rw [if_pos hb, Prod.mk.injEq] at h; exact absurd h.2 (by decide)
  rw [if_neg hb] at h
  have key : ∀ l : List UInt8, s.data.toList = l → ∃ m : Nat, n = m ∧ (m : Int) ≤ most ∧ s.data.toList = D m := by
    intro l hl
    rw [hl] at h hb ⊢
    match l, hb, h with
    | [], hb, h => exact absurd rfl hb
    | c :: l, hb, h =>
      rw [numberGo] at h
      by_cases x : c.toNat < 48 ∨ 57 < c.toNat
      · rw [if_pos x, Prod.mk.injEq] at h; exact absurd h.2 (by decide)
      rw [if_neg x] at h
      have e : wrap64 (wrap64 ((0 : Int) * 10) + ((c.toNat : Int) - 48)) = ((c.toNat - 48 : Nat) : Int) := by
        rw [wrap64_id ((0 : Int) * 10) (by omega) (by omega), wrap64_id _ (by omega) (by omega)]
        omega
      rw [e] at h
      clear e
      have one : Lib.decDigits (c.toNat - 48) = [c] := by
        rw [dec_small (by omega), show 48 + (c.toNat - 48) = c.toNat by omega]
        simp
      by_cases g : ((c.toNat - 48 : Nat) : Int) > most
      · rw [if_pos g, Prod.mk.injEq] at h; exact absurd h.2 (by decide)
      rw [if_neg g] at h
      match l, hb, h with
      | [], _, h =>
        rw [numberGo, Prod.mk.injEq] at h
        exact ⟨c.toNat - 48, h.1.symm, by omega, one.symm⟩
      | d :: l, hb, h =>
        have hc : c ≠ 48 := by
          intro e
          subst e
          exact hb rfl
        have hc2 : c.toNat ≠ 48 := fun e => hc (UInt8.toNat_inj.1 e)
        obtain ⟨m, e1, e2, e3⟩ := go_text most h1 (d :: l) (c.toNat - 48) (by omega) (by omega) n h
        exact ⟨m, e1, e2, by unfold D; rw [e3, one]; rfl⟩
  obtain ⟨m, e1, e2, e3⟩ := key _ rfl
  exact ⟨m, e1, e2, B_of e3⟩
theorem join_sp (c : UInt8) : ∀ s : List UInt8, Lib.join (sp c s) [c] = s
  | [] => by rw [sp, Lib.join_one]
  | b :: l => by
    obtain ⟨h, t, e⟩ := sp_cons c l
    have ih := join_sp c l
    rw [e, Lib.join_cons] at ih
    rw [sp, e]
    by_cases d : b = c
    · rw [if_pos d, Lib.join_cons]
      unfold Lib.joinTail at ih ⊢
      rw [List.map_cons, List.flatten_cons, List.append_assoc, ih, d]
      rfl
    · rw [if_neg d]
      show Lib.join ((b :: h) :: t) [c] = b :: l
      rw [Lib.join_cons, List.cons_append, ih]
theorem split_sp {s : ByteArray} {c : UInt8} {l : List ByteArray} (hs : s.size ≤ 300) (h : strings_Split.f s ⟨#[c]⟩ = some l) : l.map (·.data.toList) = sp c s.data.toList := by
  unfold strings_Split.f at h
  rw [if_pos ⟨by omega, by simp [ByteArray.size]⟩] at h
  have e := Option.some.inj h
  rw [← e, Lib.splitB_data, show (⟨#[c]⟩ : ByteArray).data.toList = [c] from rfl]
  unfold Lib.countB
  rw [show (⟨#[c]⟩ : ByteArray).data.toList = [c] from rfl, Lib.count_one, splitK_sp]
theorem split_of {s : ByteArray} {c : UInt8} {ps : List (List UInt8)} (hs : s.size ≤ 300) (h : sp c s.data.toList = ps) : strings_Split.f s ⟨#[c]⟩ = some (ps.map B) := by
  obtain ⟨l, g1, _, _⟩ := split_both s hs c 0
  rw [g1]
  congr 1
  apply map_inj
  rw [split_sp hs g1, h, List.map_map]
  exact (List.map_id ps).symm
theorem addr_ok (l : List ByteArray) (hl : l.length = 4) (K : Nat) (a : Int) : ∀ (d i : Nat) (v : Int), i + d = 4 → hdr_ParseAddr.l0 (K + d + 1) v l 4 i = some (a, 0) → ∀ j, i ≤ j → ∀ hj : j < l.length, ∃ n : Nat, n ≤ 255 ∧ l[j] = B (D n) := by
  intro d
  induction d with
  | zero => intro i v h _ j h1 h2; omega
  | succ d ih =>
    intro i v h g j h1 h2
    have hi : i < l.length := by omega
    have hr : rdOf ByteArray.empty l (i : Int) = l[i] := by simp [rdOf, hi]
    have ew := w64n (n := i) (by omega)
    rcases hn : hdr_Number.f l[i] 255 with _ | ⟨n, e⟩
    · unfold hdr_Number.f at hn; cases hn
    rw [show K + (d + 1) + 1 = (K + d + 1) + 1 from rfl, hdr_ParseAddr.l0, if_pos (by clear ew; omega), if_pos (by clear ew; omega), if_pos (by clear ew; omega), hr, hn, Option.bind_some] at g
    by_cases c : e = 0
    · subst c
      rw [if_pos rfl, ew] at g
      by_cases q : i = j
      · subst q
        obtain ⟨m, e1, e2, e3⟩ := num_text (by decide) (by decide) hn
        exact ⟨m, by clear ew; omega, e3⟩
      · exact ih (i + 1) _ (by clear ew; omega) g j (by clear ew; omega) h2
    · rw [if_neg c] at g
      have := Option.some.inj g
      rw [Prod.mk.injEq] at this
      exact absurd this.2 c
theorem addr_text {s : ByteArray} (hs : s.size ≤ 300) {K : Nat} {a : Int} (h : hdr_ParseAddr.f (K + 5) s = some (a, 0)) :
    ∃ n1 n2 n3 n4 : Nat, n1 ≤ 255 ∧ n2 ≤ 255 ∧ n3 ≤ 255 ∧ n4 ≤ 255 ∧ a = (((((n1 * 256 + n2) * 256 + n3) * 256 + n4 : Nat) : Int)) ∧ s = B (addrB n1 n2 n3 n4) := by
  obtain ⟨l, g1, _, _⟩ := split_both s hs 46 0
  have hm := split_sp hs g1
  have h' := h
  unfold hdr_ParseAddr.f at h'
  rw [g1, Option.bind_some] at h'
  by_cases c : l.length = 4
  · rw [if_pos (by omega), c] at h'
    have ok := addr_ok l c K a 4 0 0 rfl h'
    match l, c, hm, ok with
    | [w1, w2, w3, w4], _, hm, ok =>
      obtain ⟨n1, b1, rfl⟩ := ok 0 (Nat.le_refl _) (by simp)
      obtain ⟨n2, b2, rfl⟩ := ok 1 (Nat.zero_le _) (by simp)
      obtain ⟨n3, b3, rfl⟩ := ok 2 (Nat.zero_le _) (by simp)
      obtain ⟨n4, b4, rfl⟩ := ok 3 (Nat.zero_le _) (by simp)
      have hj := join_sp 46 s.data.toList
      rw [← hm] at hj
      have hs2 : s = B (addrB n1 n2 n3 n4) := by
        apply B_of
        rw [← hj]
        show Lib.join [D n1, D n2, D n3, D n4] [46] = _
        rw [Lib.join_cons]
        simp [Lib.joinTail, addrB]
      refine ⟨n1, n2, n3, n4, b1, b2, b3, b4, ?_, hs2⟩
      rw [hs2, addr_read K b1 b2 b3 b4] at h
      have := Option.some.inj h
      rw [Prod.mk.injEq] at this
      exact this.1.symm
  · rw [if_neg (by omega)] at h'
    have := Option.some.inj h'
    rw [Prod.mk.injEq] at this
    exact absurd this.2 (by decide)

def addrT (x : Nat) : List UInt8 := addrB (x / 16777216 % 256) (x / 65536 % 256) (x / 256 % 256) (x % 256)
theorem addrT_len (x : Nat) : (addrT x).length ≤ 23 := addr_len (by omega) (by omega) (by omega) (by omega)
theorem addrT_of {n1 n2 n3 n4 : Nat} (h1 : n1 ≤ 255) (h2 : n2 ≤ 255) (h3 : n3 ≤ 255) (h4 : n4 ≤ 255) : addrT (((n1 * 256 + n2) * 256 + n3) * 256 + n4) = addrB n1 n2 n3 n4 := by
  unfold addrT
  rw [show (((n1 * 256 + n2) * 256 + n3) * 256 + n4) / 16777216 % 256 = n1 by omega, show (((n1 * 256 + n2) * 256 + n3) * 256 + n4) / 65536 % 256 = n2 by omega, show (((n1 * 256 + n2) * 256 + n3) * 256 + n4) / 256 % 256 = n3 by omega, show (((n1 * 256 + n2) * 256 + n3) * 256 + n4) % 256 = n4 by omega]
theorem addrT_no (x : Nat) : (32 : UInt8) ∉ addrT x := by
  unfold addrT addrB
  intro h
  have d : ∀ n, (32 : UInt8) ∉ D n := fun n => D_not n (by decide)
  simp [d] at h
theorem addrT_read (k x : Nat) (h : x < 4294967296) : hdr_ParseAddr.f (k + 5) (B (addrT x)) = some ((x : Int), 0) := by
  have ha := addr_read k (n1 := x / 16777216 % 256) (n2 := x / 65536 % 256) (n3 := x / 256 % 256) (n4 := x % 256) (by omega) (by omega) (by omega) (by omega)
  have ex : (((x / 16777216 % 256) * 256 + x / 65536 % 256) * 256 + x / 256 % 256) * 256 + x % 256 = x := by omega
  rw [ex] at ha
  exact ha
theorem join_five (a b c d e : List UInt8) : Lib.join [a, b, c, d, e] [32] = a ++ 32 :: (b ++ 32 :: (c ++ 32 :: (d ++ 32 :: e))) := by
  rw [Lib.join_cons]
  simp [Lib.joinTail]
theorem wrap16 {n : Nat} (h : n ≤ 65535) : IntKind.u16.wrap (n : Int) = n := by rw [wrap_u16]; omega
theorem addr_same {s : ByteArray} (hs : s.size ≤ 300) (K : Nat) : ∃ r, hdr_ParseAddr.f (K + 705) s = some r ∧ crossbuckref02_ParseAddr.f (K + 705) s = some r ∧ (r.2 = 0 → 0 ≤ r.1 ∧ r.1 < 4294967296) := by
  obtain ⟨r, g1, _, g3⟩ := addr_both s hs (K + 700)
  obtain ⟨r', g1', g2, _⟩ := addr_both s hs K
  have m : ∀ j, hdr_ParseAddr.f (K + 5 + j) s = some r' := by
    intro j
    induction j with
    | zero => exact g1'
    | succ j ih => exact hdr_ParseAddr.mono _ _ _ ih
  have h := m 700
  rw [show K + 5 + 700 = K + 700 + 5 by omega, g1] at h
  have hr : r' = r := (Option.some.inj h).symm
  rw [hr] at g2
  exact ⟨r, g1, g2, g3⟩
end Go.Proofs.YtloclimoffhbhaaDoor.Pure
