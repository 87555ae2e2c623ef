/- Headers as lines: written and read by the program as by the document; what is read is written as it was. No condition of its own. -/
import Derived.Test.YtloclimoffhbhaaDoorAddr
import Derived.Test.YtloclimoffhbhaaDoorPHdmx0
import Derived.Test.YtloclimoffhbhaaDoorPHdmx1
import Derived.Test.YtloclimoffhbhaaDoorPHdmx2
import Derived.Test.YtloclimoffhbhaaDoorPHdmx5
namespace Go.Proofs.YtloclimoffhbhaaDoor.Pure
open Go Go.RowKit Go.Proofs.YtloclimoffhbhaaDoor.PHdm Go.Proofs.YtloclimoffhbhaaDoorW.PrintWords Go.Proofs.YtloclimoffhbhaaDoorW.PrintLast Go.Proofs.YtloclimoffhbhaaDoorW.PrintMore Go.Proofs.YtloclimoffhbhaaDoor.Bits Go.Proofs.YtloclimoffhbhaaDoor.Text Go.Proofs.YtloclimoffhbhaaDoor.Dec
set_option linter.unusedVariables false

theorem awake6 : crossbucklaw02_awake.f 6 = some true := by
  have h1 : hdr_Addr.f 6 167772161 = some ⟨#[49, 48, 46, 48, 46, 48, 46, 49]⟩ := by decide +kernel
  unfold crossbucklaw02_awake.f
  rw [h1, Option.bind_some, if_pos (by rw [ByteArray.toList_eq])]
  decide +kernel
theorem awake02 (k : Nat) : crossbucklaw02_awake.f (k + 6) = some true := by
  induction k with
  | zero => exact awake6
  | succ k ih => exact crossbucklaw02_awake.mono _ _ ih

/-! ### What was read stands there -/
theorem B_of {s : ByteArray} {l : List UInt8} (h : s.data.toList = l) : s = B l := by
  apply ByteArray.ext
  apply Array.toList_inj.mp
  rw [h]
  rfl
theorem go_text (most : Int) (h1 : most ≤ 70000) : ∀ (l : List UInt8) (v : Nat), 1 ≤ v → (v : Int) ≤ most → ∀ n, numberGo most l v = (n, 0) → ∃ m : Nat, n = m ∧ (m : Int) ≤ most ∧ Lib.decDigits m = Lib.decDigits v ++ l
  | [], v, _, b, n, h => by
    rw [numberGo, Prod.mk.injEq] at h
    exact ⟨v, h.1.symm, b, by simp⟩
  | c :: l, v, a, b, n, h => by
    rw [numberGo] at h
    by_cases x : c.toNat < 48 ∨ 57 < c.toNat
    · rw [if_pos x, Prod.mk.injEq] at h; exact absurd h.2 (by decide)
    · rw [if_neg x] at h
      have e : wrap64 (wrap64 ((v : Int) * 10) + ((c.toNat : Int) - 48)) = ((v * 10 + (c.toNat - 48) : Nat) : Int) := by
        rw [wrap64_id ((v : Int) * 10) (by omega) (by omega), wrap64_id _ (by omega) (by omega)]
        omega
      rw [e] at h
      clear e
      by_cases g : ((v * 10 + (c.toNat - 48) : Nat) : Int) > most
      · rw [if_pos g, Prod.mk.injEq] at h; exact absurd h.2 (by decide)
      · rw [if_neg g] at h
        obtain ⟨m, e1, e2, e3⟩ := go_text most h1 l (v * 10 + (c.toNat - 48)) (by omega) (by omega) n h
        refine ⟨m, e1, e2, ?_⟩
        have d1 : (v * 10 + (c.toNat - 48)) / 10 = v := by omega
        have d2 : 48 + (v * 10 + (c.toNat - 48)) % 10 = c.toNat := by omega
        rw [e3, dec_big (by omega), d1, d2]
        simp
theorem num_text {s : ByteArray} {most n : Int} (h0 : 0 ≤ most) (h1 : most ≤ 70000) (h : hdr_Number.f s most = some (n, 0)) : ∃ m : Nat, n = m ∧ (m : Int) ≤ most ∧ s = B (D m) := by
  unfold hdr_Number.f at h
  have h := Option.some.inj h
  by_cases hb : numberBad s.data.toList = true
  · rw [if_pos hb, Prod.mk.injEq] at h; exact absurd h.2 (by decide)
  rw [if_neg hb] at h
  have key : ∀ l : List UInt8, s.data.toList = l → ∃ m : Nat, n = m ∧ (m : Int) ≤ most ∧ s.data.toList = D m := by
    intro l hl
    rw [hl] at h hb ⊢
    match l, hb, h with
    | [], hb, h => exact absurd rfl hb
    | c :: l, hb, h =>
      rw [numberGo] at h
      by_cases x : c.toNat < 48 ∨ 57 < c.toNat
      · rw [if_pos x, Prod.mk.injEq] at h; exact absurd h.2 (by decide)
      rw [if_neg x] at h
      have e : wrap64 (wrap64 ((0 : Int) * 10) + ((c.toNat : Int) - 48)) = ((c.toNat - 48 : Nat) : Int) := by
        rw [wrap64_id ((0 : Int) * 10) (by omega) (by omega), wrap64_id _ (by omega) (by omega)]
        omega
      rw [e] at h
      clear e
      have one : Lib.decDigits (c.toNat - 48) = [c] := by
        rw [dec_small (by omega), show 48 + (c.toNat - 48) = c.toNat by omega]
        simp
      by_cases g : ((c.toNat - 48 : Nat) : Int) > most
      · rw [if_pos g, Prod.mk.injEq] at h; exact absurd h.2 (by decide)
      rw [if_neg g] at h
      match l, hb, h with
      | [], _, h =>
        rw [numberGo, Prod.mk.injEq] at h
        exact ⟨c.toNat - 48, h.1.symm, by omega, one.symm⟩
      | d :: l, hb, h =>
        have hc : c ≠ 48 := by
          intro e
          subst e
          exact hb rfl
        have hc2 : c.toNat ≠ 48 := fun e => hc (UInt8.toNat_inj.1 e)
        obtain ⟨m, e1, e2, e3⟩ := go_text most h1 (d :: l) (c.toNat - 48) (by omega) (by omega) n h
        exact ⟨m, e1, e2, by unfold D; rw [e3, one]; rfl⟩
  obtain ⟨m, e1, e2, e3⟩ := key _ rfl
  exact ⟨m, e1, e2, B_of e3⟩
theorem join_sp (c : UInt8) : ∀ s : List UInt8, Lib.join (sp c s) [c] = s
  | [] => by rw [sp, Lib.join_one]
  | b :: l => by
    obtain ⟨h, t, e⟩ := sp_cons c l
    have ih := join_sp c l
    rw [e, Lib.join_cons] at ih
    rw [sp, e]
    by_cases d : b = c
    · rw [if_pos d, Lib.join_cons]
      unfold Lib.joinTail at ih ⊢
      rw [List.map_cons, List.flatten_cons, List.append_assoc, ih, d]
      rfl
    · rw [if_neg d]
      show Lib.join ((b :: h) :: t) [c] = b :: l
      rw [Lib.join_cons, List.cons_append, ih]
theorem split_sp {s : ByteArray} {c : UInt8} {l : List ByteArray} (hs : s.size ≤ 300) (h : strings_Split.f s ⟨#[c]⟩ = some l) : l.map (·.data.toList) = sp c s.data.toList := by
  unfold strings_Split.f at h
  rw [if_pos ⟨by omega, by simp [ByteArray.size]⟩] at h
  have e := Option.some.inj h
  rw [← e, Lib.splitB_data, show (⟨#[c]⟩ : ByteArray).data.toList = [c] from rfl]
  unfold Lib.countB
  rw [show (⟨#[c]⟩ : ByteArray).data.toList = [c] from rfl, Lib.count_one, splitK_sp]
theorem split_of {s : ByteArray} {c : UInt8} {ps : List (List UInt8)} (hs : s.size ≤ 300) (h : sp c s.data.toList = ps) : strings_Split.f s ⟨#[c]⟩ = some (ps.map B) := by
  obtain ⟨l, g1, _, _⟩ := split_both s hs c 0
  rw [g1]
  congr 1
  apply map_inj
  rw [split_sp hs g1, h, List.map_map]
  exact (List.map_id ps).symm
theorem addr_ok (l : List ByteArray) (hl : l.length = 4) (K : Nat) (a : Int) : ∀ (d i : Nat) (v : Int), i + d = 4 → hdr_ParseAddr.l0 (K + d + 1) v l 4 i = some (a, 0) → ∀ j, i ≤ j → ∀ hj : j < l.length, ∃ n : Nat, n ≤ 255 ∧ l[j] = B (D n) := by
  intro d
  induction d with
  | zero => intro i v h _ j h1 h2; omega
  | succ d ih =>
    intro i v h g j h1 h2
    have hi : i < l.length := by omega
    have hr : rdOf ByteArray.empty l (i : Int) = l[i] := by simp [rdOf, hi]
    have ew := w64n (n := i) (by omega)
    rcases hn : hdr_Number.f l[i] 255 with _ | ⟨n, e⟩
    · unfold hdr_Number.f at hn; cases hn
    rw [show K + (d + 1) + 1 = (K + d + 1) + 1 from rfl, hdr_ParseAddr.l0, if_pos (by clear ew; omega), if_pos (by clear ew; omega), if_pos (by clear ew; omega), hr, hn, Option.bind_some] at g
    by_cases c : e = 0
    · subst c
      rw [if_pos rfl, ew] at g
      by_cases q : i = j
      · subst q
        obtain ⟨m, e1, e2, e3⟩ := num_text (by decide) (by decide) hn
        exact ⟨m, by clear ew; omega, e3⟩
      · exact ih (i + 1) _ (by clear ew; omega) g j (by clear ew; omega) h2
    · rw [if_neg c] at g
      have := Option.some.inj g
      rw [Prod.mk.injEq] at this
      exact absurd this.2 c
theorem addr_text {s : ByteArray} (hs : s.size ≤ 300) {K : Nat} {a : Int} (h : hdr_ParseAddr.f (K + 5) s = some (a, 0)) :
    ∃ n1 n2 n3 n4 : Nat, n1 ≤ 255 ∧ n2 ≤ 255 ∧ n3 ≤ 255 ∧ n4 ≤ 255 ∧ a = (((((n1 * 256 + n2) * 256 + n3) * 256 + n4 : Nat) : Int)) ∧ s = B (addrB n1 n2 n3 n4) := by
  obtain ⟨l, g1, _, _⟩ := split_both s hs 46 0
  have hm := split_sp hs g1
  have h' := h
  unfold hdr_ParseAddr.f at h'
  rw [g1, Option.bind_some] at h'
  by_cases c : l.length = 4
  · rw [if_pos (by omega), c] at h'
    have ok := addr_ok l c K a 4 0 0 rfl h'
    match l, c, hm, ok with
    | [w1, w2, w3, w4], _, hm, ok =>
      obtain ⟨n1, b1, rfl⟩ := ok 0 (Nat.le_refl _) (by simp)
      obtain ⟨n2, b2, rfl⟩ := ok 1 (Nat.zero_le _) (by simp)
      obtain ⟨n3, b3, rfl⟩ := ok 2 (Nat.zero_le _) (by simp)
      obtain ⟨n4, b4, rfl⟩ := ok 3 (Nat.zero_le _) (by simp)
      have hj := join_sp 46 s.data.toList
      rw [← hm] at hj
      have hs2 : s = B (addrB n1 n2 n3 n4) := by
        apply B_of
        rw [← hj]
        show Lib.join [D n1, D n2, D n3, D n4] [46] = _
        rw [Lib.join_cons]
        simp [Lib.joinTail, addrB]
      refine ⟨n1, n2, n3, n4, b1, b2, b3, b4, ?_, hs2⟩
      rw [hs2, addr_read K b1 b2 b3 b4] at h
      have := Option.some.inj h
      rw [Prod.mk.injEq] at this
      exact this.1.symm
  · rw [if_neg (by omega)] at h'
    have := Option.some.inj h'
    rw [Prod.mk.injEq] at this
    exact absurd this.2 (by decide)

/-! ### A header as a line -/
def addrT (x : Nat) : List UInt8 := addrB (x / 16777216 % 256) (x / 65536 % 256) (x / 256 % 256) (x % 256)
theorem addrT_len (x : Nat) : (addrT x).length ≤ 23 := addr_len (by omega) (by omega) (by omega) (by omega)
theorem addrT_of {n1 n2 n3 n4 : Nat} (h1 : n1 ≤ 255) (h2 : n2 ≤ 255) (h3 : n3 ≤ 255) (h4 : n4 ≤ 255) : addrT (((n1 * 256 + n2) * 256 + n3) * 256 + n4) = addrB n1 n2 n3 n4 := by
  unfold addrT
  rw [show (((n1 * 256 + n2) * 256 + n3) * 256 + n4) / 16777216 % 256 = n1 by omega, show (((n1 * 256 + n2) * 256 + n3) * 256 + n4) / 65536 % 256 = n2 by omega, show (((n1 * 256 + n2) * 256 + n3) * 256 + n4) / 256 % 256 = n3 by omega, show (((n1 * 256 + n2) * 256 + n3) * 256 + n4) % 256 = n4 by omega]
theorem addrT_no (x : Nat) : (32 : UInt8) ∉ addrT x := by
  unfold addrT addrB
  intro h
  have d : ∀ n, (32 : UInt8) ∉ D n := fun n => D_not n (by decide)
  simp [d] at h
theorem addrT_read (k x : Nat) (h : x < 4294967296) : hdr_ParseAddr.f (k + 5) (B (addrT x)) = some ((x : Int), 0) := by
  have ha := addr_read k (n1 := x / 16777216 % 256) (n2 := x / 65536 % 256) (n3 := x / 256 % 256) (n4 := x % 256) (by omega) (by omega) (by omega) (by omega)
  have ex : (((x / 16777216 % 256) * 256 + x / 65536 % 256) * 256 + x / 256 % 256) * 256 + x % 256 = x := by omega
  rw [ex] at ha
  exact ha
def hdrB (a b p q r : Nat) : List UInt8 := addrT a ++ 32 :: (addrT b ++ 32 :: (D p ++ 32 :: (D q ++ 32 :: D r)))
theorem hdrB_len {a b p q r : Nat} (hp : p ≤ 65535) (hq : q ≤ 65535) (hr : r ≤ 65535) : (hdrB a b p q r).length ≤ 65 := by
  have := D_len hp
  have := D_len hq
  have := D_len hr
  have := addrT_len a
  have := addrT_len b
  simp [hdrB]
  omega
theorem join_five (a b c d e : List UInt8) : Lib.join [a, b, c, d, e] [32] = a ++ 32 :: (b ++ 32 :: (c ++ 32 :: (d ++ 32 :: e))) := by
  rw [Lib.join_cons]
  simp [Lib.joinTail]
theorem hdr_print (k : Nat) {a b p q r : Nat} (ha : a < 4294967296) (hb : b < 4294967296) (hp : p ≤ 65535) (hq : q ≤ 65535) (hr : r ≤ 65535) : hdr_Print.f (k + 5) a b p q r = some (B (hdrB a b p q r)) := by
  have hl := hdrB_len (a := a) (b := b) hp hq hr
  have w : ∀ n : Nat, n ≤ 65535 → wrap64 (n : Int) = n := fun n h => wrap64_id _ (by omega) (by omega)
  unfold hdr_Print.f
  rw [addr_print k a ha, addr_print k b hb, w p hp, w q hq, w r hr, itoa_eq p hp, itoa_eq q hq, itoa_eq r hr]
  simp only [Option.bind_some]
  unfold strings_Join.f
  have e : Lib.join (List.map (fun z : ByteArray => z.data.toList) [B (addrT a), B (addrT b), B (D p), B (D q), B (D r)]) (⟨#[32]⟩ : ByteArray).data.toList = hdrB a b p q r := join_five _ _ _ _ _
  show (if _ then _ else _ : Option ByteArray).bind _ = _
  have e' : Lib.join (List.map (fun z : ByteArray => z.data.toList) [B (addrB (a / 16777216 % 256) (a / 65536 % 256) (a / 256 % 256) (a % 256)), B (addrB (b / 16777216 % 256) (b / 65536 % 256) (b / 256 % 256) (b % 256)), B (D p), B (D q), B (D r)]) (⟨#[32]⟩ : ByteArray).data.toList = hdrB a b p q r := e
  rw [e', if_pos ⟨by omega, by simp⟩]
  rfl
theorem hdr_ref (k : Nat) {a b p q r : Nat} (ha : a < 4294967296) (hb : b < 4294967296) (hp : p ≤ 65535) (hq : q ≤ 65535) (hr : r ≤ 65535) : crossbuckref02_Print.f (k + 5) a b p q r = some (B (hdrB a b p q r)) := by
  have la := addrT_len a
  have lb := addrT_len b
  have lp := D_len hp
  have lq := D_len hq
  have lr := D_len hr
  have w : ∀ n : Nat, n ≤ 65535 → wrap64 (n : Int) = n := fun n h => wrap64_id _ (by omega) (by omega)
  have z : ([32] : List UInt8).length = 1 := rfl
  have ea : crossbuckref02_Addr.f (k + 5) (a : Int) = some (B (addrT a)) := addr_ref k a ha
  have eb : crossbuckref02_Addr.f (k + 5) (b : Int) = some (B (addrT b)) := addr_ref k b hb
  have B_32 : (⟨#[32]⟩ : ByteArray) = B [32] := rfl
  unfold crossbuckref02_Print.f
  rw [ea, eb, w p hp, w q hq, w r hr, digits_eq k p hp, digits_eq k q hq, digits_eq k r hr]
  clear w
  simp only [Option.bind_some, B_32, B_add]
  rw [if_pos (by simp only [B_size]; omega), if_pos (by simp only [B_size, List.length_append]; omega), if_pos (by simp only [B_size, List.length_append]; omega), if_pos (by simp only [B_size, List.length_append]; omega), if_pos (by simp only [B_size, List.length_append]; omega), if_pos (by simp only [B_size, List.length_append]; omega), if_pos (by simp only [B_size, List.length_append]; omega), if_pos (by simp only [B_size, List.length_append]; omega)]
  simp [hdrB]
theorem hdr_split {a b p q r : Nat} (hp : p ≤ 65535) (hq : q ≤ 65535) (hr : r ≤ 65535) : strings_Split.f (B (hdrB a b p q r)) ⟨#[32]⟩ = some [B (addrT a), B (addrT b), B (D p), B (D q), B (D r)] := by
  have hl := hdrB_len (a := a) (b := b) hp hq hr
  have d : ∀ n, (32 : UInt8) ∉ D n := fun n => D_not n (by decide)
  refine (split_of (ps := [addrT a, addrT b, D p, D q, D r]) (by rw [B_size]; omega) ?_).trans rfl
  rw [B_data]
  unfold hdrB
  rw [sp_mid 32 _ _ (addrT_no a), sp_mid 32 _ _ (addrT_no b), sp_mid 32 _ _ (d p), sp_mid 32 _ _ (d q), sp_none 32 _ (d r)]
theorem wrap16 {n : Nat} (h : n ≤ 65535) : IntKind.u16.wrap (n : Int) = n := by rw [wrap_u16]; omega
theorem parse_five (k : Nat) {s w0 w1 w2 w3 w4 : ByteArray} (h : strings_Split.f s ⟨#[32]⟩ = some [w0, w1, w2, w3, w4]) : hdr_Parse.f k s =
    (hdr_ParseAddr.f k w0).bind fun x0 => if x0.2 = 0 then (hdr_ParseAddr.f k w1).bind fun x1 => if x1.2 = 0 then (hdr_Number.f w2 255).bind fun x2 => if x2.2 = 0 then (hdr_Number.f w3 65535).bind fun x3 => if x3.2 = 0 then (hdr_Number.f w4 65535).bind fun x4 =>
      if x4.2 = 0 then some (x0.1, x1.1, x2.1 % 256, IntKind.u16.wrap x3.1, IntKind.u16.wrap x4.1, 0) else some (0, 0, 0, 0, 0, x4.2) else some (0, 0, 0, 0, 0, x3.2) else some (0, 0, 0, 0, 0, x2.2) else some (0, 0, 0, 0, 0, x1.2) else some (0, 0, 0, 0, 0, x0.2) := by
  unfold hdr_Parse.f
  rw [h]
  rfl
theorem hdr_read (k : Nat) {a b p q r : Nat} (ha : a < 4294967296) (hb : b < 4294967296) (hp : p ≤ 255) (hq : q ≤ 65535) (hr : r ≤ 65535) : hdr_Parse.f (k + 5) (B (hdrB a b p q r)) = some ((a : Int), (b : Int), (p : Int), (q : Int), (r : Int), 0) := by
  rw [parse_five (k + 5) (hdr_split (by omega) hq hr), addrT_read k a ha, Option.bind_some, if_pos rfl, addrT_read k b hb, Option.bind_some, if_pos rfl, num_read p (by omega) 255 (by omega), Option.bind_some, if_pos rfl,
    num_read q (by omega) 65535 (by omega), Option.bind_some, if_pos rfl, num_read r (by omega) 65535 (by omega), Option.bind_some, if_pos rfl, wrap16 hq, wrap16 hr, show (p : Int) % 256 = p by omega]

/-! ### Any line, read by both -/
theorem addr_same {s : ByteArray} (hs : s.size ≤ 300) (K : Nat) : ∃ r, hdr_ParseAddr.f (K + 705) s = some r ∧ crossbuckref02_ParseAddr.f (K + 705) s = some r ∧ (r.2 = 0 → 0 ≤ r.1 ∧ r.1 < 4294967296) := by
  obtain ⟨r, g1, _, g3⟩ := addr_both s hs (K + 700)
  obtain ⟨r', g1', g2, _⟩ := addr_both s hs K
  have m : ∀ j, hdr_ParseAddr.f (K + 5 + j) s = some r' := by
    intro j
    induction j with
    | zero => exact g1'
    | succ j ih => exact hdr_ParseAddr.mono _ _ _ ih
  have h := m 700
  rw [show K + 5 + 700 = K + 700 + 5 by omega, g1] at h
  have hr : r' = r := (Option.some.inj h).symm
  rw [hr] at g2
  exact ⟨r, g1, g2, g3⟩
theorem ref_round (k : Nat) (w0 w1 w2 w3 w4 : ByteArray) (x5 x7 : Int) (x9 : List Int) (i : Nat) (hi : i < 3) (h9 : x9.length = 3) (wd : ByteArray) (hw : rdOf ByteArray.empty [w0, w1, w2, w3, w4] ((2 + i : Nat) : Int) = wd) (most : Int) (hm : rd [255, 65535, 65535] (i : Int) = most) :
    crossbuckref02_Parse.l0 (k + 1) [w0, w1, w2, w3, w4] x5 x7 x9 [255, 65535, 65535] i = (crossbuckref02_Number.f k wd most).bind fun n => if n.2 = 0 then crossbuckref02_Parse.l0 k [w0, w1, w2, w3, w4] x5 x7 (x9.set i n.1) [255, 65535, 65535] ((i + 1 : Nat) : Int) else some (0, 0, 0, 0, 0, n.2) := by
  have e1 : wrap64 (2 + (i : Int)) = ((2 + i : Nat) : Int) := by rw [wrap64_id _ (by omega) (by omega)]; omega
  have e2 := w64n (n := i) (by clear e1; omega)
  rw [crossbuckref02_Parse.l0, e1, e2, hw, hm]
  clear e1 e2
  rw [if_pos (by omega), if_pos (by omega), if_pos (by simp only [List.length_cons, List.length_nil]; omega), if_pos (by omega), if_pos (by simp only [List.length_cons, List.length_nil]; omega)]
  congr 1
  funext n
  rw [if_pos (show (i : Int) < (x9.length : Int) by omega), Int.toNat_natCast]
theorem parse_both {s : ByteArray} (hs : s.size ≤ 300) (K : Nat) : ∃ r, hdr_Parse.f (K + 705) s = some r ∧ crossbuckref02_Parse.f (K + 705) s = some r ∧ (r.2.2.2.2.2 = 0 → hdr_Print.f (K + 705) r.1 r.2.1 r.2.2.1 r.2.2.2.1 r.2.2.2.2.1 = some s) := by
  obtain ⟨l, h1, h2, h3⟩ := split_both s hs 32 (K + 404)
  have e32 : ((32 : UInt8).toNat : Int) = 32 := rfl
  rw [e32, show K + 404 + 301 = K + 705 by omega] at h2
  have hm := split_sp hs h1
  by_cases c : l.length = 5
  · match l, c, h1, h2, h3, hm with
    | [w0, w1, w2, w3, w4], _, h1, h2, h3, hm =>
      have hj := join_sp 32 s.data.toList
      rw [← hm] at hj
      have z0 : w0.size ≤ 300 := h3 w0 (by simp)
      have z1 : w1.size ≤ 300 := h3 w1 (by simp)
      have z2 : w2.size ≤ 300 := h3 w2 (by simp)
      have z3 : w3.size ≤ 300 := h3 w3 (by simp)
      have z4 : w4.size ≤ 300 := h3 w4 (by simp)
      clear h3 hm
      rw [parse_five _ h1]
      have href : crossbuckref02_Parse.f (K + 705) s = (crossbuckref02_ParseAddr.f (K + 705) w0).bind fun x0 => if x0.2 = 0 then (crossbuckref02_ParseAddr.f (K + 705) w1).bind fun x1 => if x1.2 = 0 then crossbuckref02_Parse.l0 (K + 705) [w0, w1, w2, w3, w4] x0.1 x1.1 [0, 0, 0] [255, 65535, 65535] 0 else some (0, 0, 0, 0, 0, x1.2) else some (0, 0, 0, 0, 0, x0.2) := by
        unfold crossbuckref02_Parse.f
        rw [h2]
        rfl
      rw [href]
      clear href
      obtain ⟨⟨a, ea⟩, a1, a2, a3⟩ := addr_same z0 K
      rw [a1, a2, Option.bind_some, Option.bind_some]
      by_cases ca : ea = 0
      case neg =>
        rw [if_neg ca, if_neg ca]
        exact ⟨_, rfl, rfl, fun h => absurd h ca⟩
      subst ca
      rw [if_pos rfl, if_pos rfl]
      obtain ⟨⟨b, eb⟩, b1, b2, b3⟩ := addr_same z1 K
      rw [b1, b2, Option.bind_some, Option.bind_some]
      by_cases cb : eb = 0
      case neg =>
        rw [if_neg cb, if_neg cb]
        exact ⟨_, rfl, rfl, fun h => absurd h cb⟩
      subst cb
      rw [if_pos rfl, if_pos rfl]
      have r0 : crossbuckref02_Parse.l0 (K + 4 + 700 + 1) [w0, w1, w2, w3, w4] a b [0, 0, 0] [255, 65535, 65535] 0 = _ := ref_round (K + 4 + 700) w0 w1 w2 w3 w4 a b [0, 0, 0] 0 (by decide) rfl w2 rfl 255 rfl
      rw [show K + 705 = (K + 4 + 700) + 1 by omega, r0, number_eq w2 z2 255 (K + 4)]
      rcases hp : hdr_Number.f w2 255 with _ | ⟨p, ep⟩
      · unfold hdr_Number.f at hp; cases hp
      rw [Option.bind_some, Option.bind_some]
      by_cases cp : ep = 0
      case neg =>
        rw [if_neg cp, if_neg cp]
        exact ⟨_, rfl, rfl, fun h => absurd h cp⟩
      subst cp
      rw [if_pos rfl, if_pos rfl]
      rw [show K + 4 + 700 = (K + 3 + 700) + 1 by omega, ref_round (K + 3 + 700) w0 w1 w2 w3 w4 a b _ 1 (by decide) rfl w3 rfl 65535 rfl, number_eq w3 z3 65535 (K + 3)]
      rcases hq : hdr_Number.f w3 65535 with _ | ⟨q, eq⟩
      · unfold hdr_Number.f at hq; cases hq
      rw [Option.bind_some, Option.bind_some]
      by_cases cq : eq = 0
      case neg =>
        rw [if_neg cq, if_neg cq]
        exact ⟨_, rfl, rfl, fun h => absurd h cq⟩
      subst cq
      rw [if_pos rfl, if_pos rfl]
      rw [show K + 3 + 700 = (K + 2 + 700) + 1 by omega, ref_round (K + 2 + 700) w0 w1 w2 w3 w4 a b _ 2 (by decide) rfl w4 rfl 65535 rfl, number_eq w4 z4 65535 (K + 2)]
      rcases hr : hdr_Number.f w4 65535 with _ | ⟨r, er⟩
      · unfold hdr_Number.f at hr; cases hr
      rw [Option.bind_some, Option.bind_some]
      by_cases cr : er = 0
      case neg =>
        rw [if_neg cr, if_neg cr]
        exact ⟨_, rfl, rfl, fun h => absurd h cr⟩
      subst cr
      rw [if_pos rfl, if_pos rfl]
      refine ⟨_, rfl, ?_, ?_⟩
      · rw [show K + 2 + 700 = (K + 701) + 1 by omega, crossbuckref02_Parse.l0, if_neg (by decide)]
        rfl
      · intro _
        obtain ⟨n1, n2, n3, n4, y1, y2, y3, y4, rfl, rfl⟩ := addr_text z0 (K := K + 700) a1
        obtain ⟨m1, m2, m3, m4, v1, v2, v3, v4, rfl, rfl⟩ := addr_text z1 (K := K + 700) b1
        obtain ⟨p', rfl, lp, rfl⟩ := num_text (by decide) (by decide) hp
        obtain ⟨q', rfl, lq, rfl⟩ := num_text (by decide) (by decide) hq
        obtain ⟨r', rfl, lr, rfl⟩ := num_text (by decide) (by decide) hr
        have es : s = B (hdrB (((n1 * 256 + n2) * 256 + n3) * 256 + n4) (((m1 * 256 + m2) * 256 + m3) * 256 + m4) p' q' r') := by
          apply B_of
          rw [← hj]
          unfold hdrB
          rw [addrT_of y1 y2 y3 y4, addrT_of v1 v2 v3 v4]
          exact join_five _ _ _ _ _
        rw [es]
        show hdr_Print.f (K + 700 + 5) _ _ ((p' : Int) % 256) (IntKind.u16.wrap (q' : Int)) (IntKind.u16.wrap (r' : Int)) = _
        rw [wrap16 (by omega), wrap16 (by omega), show (p' : Int) % 256 = p' by omega]
        exact hdr_print (K + 700) (by omega) (by omega) (by omega) (by omega) (by omega)
  · refine ⟨(0, 0, 0, 0, 0, 6), ?_, ?_, fun h => absurd h (by decide)⟩
    · unfold hdr_Parse.f
      rw [h1, Option.bind_some, if_neg (by omega)]
    · unfold crossbuckref02_Parse.f
      rw [h2, Option.bind_some, if_neg (by omega)]
end Go.Proofs.YtloclimoffhbhaaDoor.Pure
