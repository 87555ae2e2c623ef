/- A change as a text: printed by the program, by the document, and read. No condition of its own. -/
import Derived.Test.YtloclimoffhbhaaDoorScr
import Derived.Test.YtloclimoffhbhaaDoorPScax12
import Derived.Test.YtloclimoffhbhaaDoorPScax3
import Derived.Test.YtloclimoffhbhaaDoorPScax6
import Derived.Test.YtloclimoffhbhaaDoorPScax7
import Derived.Test.YtloclimoffhbhaaDoorPScax9
namespace Go.Proofs.YtloclimoffhbhaaDoor.Scr
open Go Go.RowKit Go.Proofs.YtloclimoffhbhaaDoor.PSca Go.Proofs.YtloclimoffhbhaaDoorW.PrintWords Go.Proofs.YtloclimoffhbhaaDoorW.PrintLast Go.Proofs.YtloclimoffhbhaaDoorW.PrintMore Go.Proofs.YtloclimoffhbhaaDoor.Bits Go.Proofs.YtloclimoffhbhaaDoor.Facts
set_option linter.unusedVariables false
set_option linter.unusedSimpArgs false
theorem Ev_plus {α : Type} {g : Nat → Option α} {r : α} (n : Nat) (h : ∀ k, g (k + n) = some r) : Ev g r := ⟨n, fun k hk => by
  have := h (k - n)
  rw [Nat.sub_add_cancel hk] at this
  exact this⟩
theorem wrS (i : Nat) (h : i ≤ 1000000) : wrap64 ((i : Int) + 1) = ((i + 1 : Nat) : Int) := by unfold wrap64; omega
/-- The word of a rule's port. -/
def outW (o : Int) : List UInt8 := if o = -1 then [100, 114, 111, 112] else D o.toNat
/-- A change's text. -/
def chT (c : S46) : List UInt8 := if c.f0 = true then [100, 101, 108] ++ 32 :: D c.f1.f0.toNat else [97, 100, 100] ++ 32 :: (D c.f1.f0.toNat ++ 32 :: (D c.f1.f1.toNat ++ 32 :: (preT c.f1.f2.f0.toNat c.f1.f2.f1.toNat ++ 32 :: (D c.f1.f3.toNat ++ 32 :: outW c.f1.f4))))
def small (n : Int) : Prop := 0 ≤ n ∧ n ≤ 2097152
instance (n : Int) : Decidable (small n) := inferInstanceAs (Decidable (0 ≤ n ∧ n ≤ 2097152))
/-- What can be written. -/
def rightC (c : S46) : Bool := decide (small c.f1.f0) && (c.f0 || (decide (small c.f1.f1) && decide (small c.f1.f3) && decide (-1 ≤ c.f1.f4 ∧ c.f1.f4 ≤ 2097152) && rightB c.f1.f2.f0 c.f1.f2.f1))
def bdC (c : S46) : Prop := 0 ≤ c.f1.f2.f0 ∧ c.f1.f2.f0 < 4294967296
theorem D_no32 (n : Nat) : (32 : UInt8) ∉ D n := D_not n (by decide)
theorem outW_no (o : Int) : (32 : UInt8) ∉ outW o := by
  unfold outW
  split
  · decide
  · exact D_no32 _
theorem D_drop (n : Nat) : D n ≠ [100, 114, 111, 112] := by
  intro e
  have := D_mem n n (Nat.le_refl _) 100 (by rw [e]; exact List.mem_cons_self)
  simp at this
theorem outW_len {o : Int} (h : o ≤ 2097152) : (outW o).length ≤ 8 := by
  unfold outW
  split
  · decide
  · exact D_len7 (by omega)
theorem rightC_iff {c : S46} : rightC c = true ↔ small c.f1.f0 ∧ (c.f0 = true ∨ (small c.f1.f1 ∧ small c.f1.f3 ∧ (-1 ≤ c.f1.f4 ∧ c.f1.f4 ≤ 2097152) ∧ rightB c.f1.f2.f0 c.f1.f2.f1 = true)) := by
  unfold rightC
  simp only [Bool.and_eq_true, Bool.or_eq_true, decide_eq_true_eq, and_assoc]
/-! The words of a rule. -/
theorem join_six (a b c d e f : List UInt8) (h : (a ++ 32 :: (b ++ 32 :: (c ++ 32 :: (d ++ 32 :: (e ++ 32 :: f))))).length ≤ 1000) : strings_Join.f [B a, B b, B c, B d, B e, B f] ⟨#[32]⟩ = some (B (a ++ 32 :: (b ++ 32 :: (c ++ 32 :: (d ++ 32 :: (e ++ 32 :: f)))))) := by
  have e1 : Lib.join ([B a, B b, B c, B d, B e, B f].map (·.data.toList)) [32] = a ++ 32 :: (b ++ 32 :: (c ++ 32 :: (d ++ 32 :: (e ++ 32 :: f)))) := by
    show Lib.join [a, b, c, d, e, f] [32] = _
    rw [Lib.join_cons]
    simp [Lib.joinTail]
  unfold strings_Join.f
  rw [show (⟨#[32]⟩ : ByteArray).data.toList = [32] from rfl, e1, if_pos ⟨by omega, by simp⟩]
  rfl
theorem itoaS {n : Int} (h : small n) : strconv_Itoa_76.f n = some (B (D n.toNat)) := by
  have e : n = ((n.toNat : Nat) : Int) := by have := h.1; omega
  have h2 := h.2
  rw [e]
  simp only [Int.toNat_natCast]
  exact itoa7 n.toNat (by omega)
theorem digS {n : Int} (h : small n) : Ev (fun k => crossbuckref25_n.f k n) (B (D n.toNat)) := by
  have e : n = ((n.toNat : Nat) : Int) := by have := h.1; omega
  have h2 := h.2
  refine Ev_plus 8 (fun k => ?_)
  unfold crossbuckref25_n.f
  rw [e]
  simp only [Int.toNat_natCast]
  rw [digits7 k n.toNat (by omega)]
  rfl
theorem numS {n most : Int} (h : small n) (hm : n ≤ most) : hdr_Number.f (B (D n.toNat)) most = some (n, 0) := by
  have h1 := h.1
  have h2 := h.2
  have e : ((n.toNat : Nat) : Int) = n := by omega
  have := num7 n.toNat (by omega) most (by omega)
  rw [e] at this
  exact this
theorem right_bd {a b : Int} (h : rightB a b = true) : 0 ≤ b ∧ b ≤ 32 := by
  obtain ⟨h0, h1, _⟩ := rightB_iff.1 h
  exact ⟨h0, h1⟩
theorem preS {a b : Int} (a0 : 0 ≤ a) (a1 : a < 4294967296) (h : rightB a b = true) : (Ev (fun k => cidr_Print.f k a b) (B (preT a.toNat b.toNat))) ∧ (Ev (fun k => crossbuckref03_Print.f k a b) (B (preT a.toNat b.toNat))) ∧ Ev (fun k => cidr_Parse.f k (B (preT a.toNat b.toNat))) (a, b, 0) := by
  obtain ⟨b0, b1⟩ := right_bd h
  have ea : ((a.toNat : Nat) : Int) = a := by omega
  have eb : ((b.toNat : Nat) : Int) = b := by omega
  have h' : rightB ((a.toNat : Nat) : Int) ((b.toNat : Nat) : Int) = true := by rw [ea, eb]; exact h
  refine ⟨Ev_plus 5 (fun k => ?_), Ev_plus 5 (fun k => ?_), Ev_plus 5 (fun k => ?_)⟩
  · have := (pre_print k (x := a.toNat) (y := b.toNat) (by omega) (by omega)).1
    rw [ea, eb] at this
    exact this
  · have := (pre_print k (x := a.toNat) (y := b.toNat) (by omega) (by omega)).2
    rw [ea, eb] at this
    exact this
  · have := pre_read k (x := a.toNat) (y := b.toNat) (by omega) (by omega) h'
    rw [ea, eb] at this
    exact this
theorem print_ev {c : S46} (hb : bdC c) (h : rightC c = true) : Ev (fun k => script_PrintChange.f k c.f0 c.f1.f0 c.f1.f1 c.f1.f2.f0 c.f1.f2.f1 c.f1.f3 c.f1.f4) (B (chT c)) := by
  obtain ⟨h0, h⟩ := rightC_iff.1 h
  unfold script_PrintChange.f chT
  rw [itoaS h0]
  simp only [Option.bind_some]
  by_cases cd : c.f0 = true
  · simp only [if_pos cd]
    have l1 : (D c.f1.f0.toNat).length ≤ 8 := D_len7 (by have := h0.2; omega)
    simp only [if_pos (show 4 + (B (D c.f1.f0.toNat)).size ≤ 9223372036854775807 by rw [B_size]; omega)]
    have e : (⟨#[100, 101, 108, 32]⟩ : ByteArray) ++ B (D c.f1.f0.toNat) = B ([100, 101, 108] ++ 32 :: D c.f1.f0.toNat) := by
      show B [100, 101, 108, 32] ++ _ = _
      rw [B_add]
      rfl
    rw [e]
    exact Ev.now _
  · simp only [if_neg cd]
    obtain ⟨h1, h2, h3, h4⟩ := h.resolve_left cd
    obtain ⟨g1, _, _⟩ := preS hb.1 hb.2 h4
    have l1 : (D c.f1.f0.toNat).length ≤ 8 := D_len7 (by have := h0.2; omega)
    have l2 : (D c.f1.f1.toNat).length ≤ 8 := D_len7 (by have := h1.2; omega)
    have l3 : (D c.f1.f3.toNat).length ≤ 8 := D_len7 (by have := h2.2; omega)
    have l4 : (preT c.f1.f2.f0.toNat c.f1.f2.f1.toNat).length ≤ 29 := preT_len _ (by have := right_bd h4; omega)
    have l5 := outW_len h3.2
    have hj : Ev (fun k => script_PrintChange.j0 k (B (outW c.f1.f4)) c.f1.f0 c.f1.f1 c.f1.f2.f0 c.f1.f2.f1 c.f1.f3 c.f1.f4) (B ([97, 100, 100] ++ 32 :: (D c.f1.f0.toNat ++ 32 :: (D c.f1.f1.toNat ++ 32 :: (preT c.f1.f2.f0.toNat c.f1.f2.f1.toNat ++ 32 :: (D c.f1.f3.toNat ++ 32 :: outW c.f1.f4)))))) := by
      refine Ev.step (fun k => by rw [script_PrintChange.j0, itoaS h0, Option.bind_some, itoaS h1, Option.bind_some]) (Ev.bind g1 ?_)
      rw [itoaS h2]
      simp only [Option.bind_some]
      rw [show (⟨#[97, 100, 100]⟩ : ByteArray) = B [97, 100, 100] from rfl, join_six _ _ _ _ _ _ (by simp only [List.length_append, List.length_cons, List.length_nil]; omega)]
      exact Ev.now _
    by_cases co : c.f1.f4 = -1
    · simp only [if_pos co]
      have e : outW c.f1.f4 = [100, 114, 111, 112] := by unfold outW; rw [if_pos co]
      rw [e] at hj ⊢
      exact hj
    · simp only [if_neg co]
      rw [itoaS ⟨by omega, h3.2⟩]
      simp only [Option.bind_some]
      have e : outW c.f1.f4 = D c.f1.f4.toNat := by unfold outW; rw [if_neg co]
      rw [← e]
      exact hj
theorem ref_ev {c : S46} (hb : bdC c) (h : rightC c = true) : Ev (fun k => crossbuckref25_Change.f k c.f0 c.f1.f0 c.f1.f1 c.f1.f2.f0 c.f1.f2.f1 c.f1.f3 c.f1.f4) (B (chT c)) := by
  obtain ⟨h0, h⟩ := rightC_iff.1 h
  unfold crossbuckref25_Change.f chT
  have l1 : (D c.f1.f0.toNat).length ≤ 8 := D_len7 (by have := h0.2; omega)
  by_cases cd : c.f0 = true
  · simp only [if_pos cd]
    refine Ev.bind (digS h0) ?_
    simp only [if_pos (show 4 + (B (D c.f1.f0.toNat)).size ≤ 9223372036854775807 by rw [B_size]; omega)]
    have e : (⟨#[100, 101, 108, 32]⟩ : ByteArray) ++ B (D c.f1.f0.toNat) = B ([100, 101, 108] ++ 32 :: D c.f1.f0.toNat) := by
      show B [100, 101, 108, 32] ++ _ = _
      rw [B_add]
      rfl
    rw [e]
    exact Ev.now _
  · simp only [if_neg cd]
    obtain ⟨h1, h2, h3, h4⟩ := h.resolve_left cd
    obtain ⟨_, g2, _⟩ := preS hb.1 hb.2 h4
    have l2 : (D c.f1.f1.toNat).length ≤ 8 := D_len7 (by have := h1.2; omega)
    have l3 : (D c.f1.f3.toNat).length ≤ 8 := D_len7 (by have := h2.2; omega)
    have l4 : (preT c.f1.f2.f0.toNat c.f1.f2.f1.toNat).length ≤ 29 := preT_len _ (by have := right_bd h4; omega)
    have l5 := outW_len h3.2
    have hj : Ev (fun k => crossbuckref25_Change.j0 k (B (outW c.f1.f4)) c.f0 c.f1.f0 c.f1.f1 c.f1.f2.f0 c.f1.f2.f1 c.f1.f3 c.f1.f4) (B ([97, 100, 100] ++ 32 :: (D c.f1.f0.toNat ++ 32 :: (D c.f1.f1.toNat ++ 32 :: (preT c.f1.f2.f0.toNat c.f1.f2.f1.toNat ++ 32 :: (D c.f1.f3.toNat ++ 32 :: outW c.f1.f4)))))) := by
      refine Ev.step (fun k => by rw [crossbuckref25_Change.j0]) (Ev.bind (digS h0) ?_)
      rw [show (⟨#[97, 100, 100, 32]⟩ : ByteArray) = B [97, 100, 100, 32] from rfl, show (⟨#[32]⟩ : ByteArray) = B [32] from rfl]
      generalize D c.f1.f0.toNat = t1 at l1 ⊢
      have z : ([97, 100, 100, 32] : List UInt8).length = 4 := rfl
      have z1 : ([32] : List UInt8).length = 1 := rfl
      simp only [B_add, B_size, List.length_append, z, z1]
      simp only [if_pos (show 4 + t1.length ≤ 9223372036854775807 by omega), if_pos (show 4 + t1.length + 1 ≤ 9223372036854775807 by omega)]
      refine Ev.bind (digS h1) ?_
      generalize D c.f1.f1.toNat = t2 at l2 ⊢
      simp only [B_add, B_size, List.length_append, z, z1]
      simp only [if_pos (show 4 + t1.length + 1 + t2.length ≤ 9223372036854775807 by omega), if_pos (show 4 + t1.length + 1 + t2.length + 1 ≤ 9223372036854775807 by omega)]
      refine Ev.bind g2 ?_
      generalize preT c.f1.f2.f0.toNat c.f1.f2.f1.toNat = t3 at l4 ⊢
      simp only [B_add, B_size, List.length_append, z, z1]
      simp only [if_pos (show 4 + t1.length + 1 + t2.length + 1 + t3.length ≤ 9223372036854775807 by omega), if_pos (show 4 + t1.length + 1 + t2.length + 1 + t3.length + 1 ≤ 9223372036854775807 by omega)]
      refine Ev.bind (digS h2) ?_
      generalize D c.f1.f3.toNat = t4 at l3 ⊢
      generalize outW c.f1.f4 = t5 at l5 ⊢
      simp only [B_add, B_size, List.length_append, z, z1]
      simp only [if_pos (show 4 + t1.length + 1 + t2.length + 1 + t3.length + 1 + t4.length ≤ 9223372036854775807 by omega), if_pos (show 4 + t1.length + 1 + t2.length + 1 + t3.length + 1 + t4.length + 1 ≤ 9223372036854775807 by omega), if_pos (show 4 + t1.length + 1 + t2.length + 1 + t3.length + 1 + t4.length + 1 + t5.length ≤ 9223372036854775807 by omega)]
      have e : [97, 100, 100, 32] ++ t1 ++ [32] ++ t2 ++ [32] ++ t3 ++ [32] ++ t4 ++ [32] ++ t5 = [97, 100, 100] ++ 32 :: (t1 ++ 32 :: (t2 ++ 32 :: (t3 ++ 32 :: (t4 ++ 32 :: t5)))) := by simp
      rw [e]
      exact Ev.now _
    by_cases co : c.f1.f4 ≥ 0
    · simp only [if_pos co]
      refine Ev.bind (digS ⟨co, h3.2⟩) ?_
      have e : outW c.f1.f4 = D c.f1.f4.toNat := by unfold outW; rw [if_neg (by omega)]
      rw [← e]
      exact hj
    · simp only [if_neg co]
      have e : outW c.f1.f4 = [100, 114, 111, 112] := by unfold outW; rw [if_pos (by omega)]
      rw [e] at hj ⊢
      exact hj
/-! Read. -/
theorem numbers_ev (ns : List Int) (hl : ns.length ≤ 1000) (hs : ∀ n ∈ ns, small n) : Ev (fun k => script_numbers.f k (ns.map fun n => B (D n.toNat))) (ns, 0) := by
  have h : ∀ d i : Nat, i + d = ns.length → Ev (fun k => script_numbers.l0 k (ns.take i) (ns.map fun n => B (D n.toNat)) ((ns.map fun n => B (D n.toNat)).length : Int) (i : Int)) (ns, 0) := by
    intro d
    induction d with
    | zero =>
      intro i hi
      obtain rfl : i = ns.length := by omega
      rw [List.take_length]
      exact Ev.step (f := fun _ => some (ns, 0)) (fun k => by rw [script_numbers.l0, if_neg (by rw [List.length_map]; omega)]) (Ev.now _)
    | succ d ih =>
      intro i hi
      have hlt : i < ns.length := by omega
      have e : rdOf ByteArray.empty (ns.map fun n => B (D n.toNat)) (i : Int) = B (D (ns[i]).toNat) := by
        simp [rdOf, List.getD, hlt]
      have hsm := hs _ (List.getElem_mem hlt)
      have h3 := ih (i + 1) (by omega)
      rw [List.take_succ_eq_append_getElem hlt] at h3
      have hl2 : (ns.take i).length ≤ i := List.length_take_le _ _
      refine Ev.step (fun k => ?_) h3
      rw [script_numbers.l0, if_pos (by rw [List.length_map]; omega), if_pos (by omega), if_pos (by rw [List.length_map]; omega), e, numS hsm hsm.2, Option.bind_some]
      dsimp only
      rw [if_pos rfl, if_pos (by omega), wrS i (by omega)]
  have := h ns.length 0 (by omega)
  rw [List.take_zero] at this
  exact this
theorem rule_ev {c : S46} (hb : bdC c) (h0 : small c.f1.f0) (h1 : small c.f1.f1) (h2 : small c.f1.f3) (h3 : -1 ≤ c.f1.f4 ∧ c.f1.f4 ≤ 2097152) (h4 : rightB c.f1.f2.f0 c.f1.f2.f1 = true) :
    Ev (fun k => script_rule.f k [B (D c.f1.f0.toNat), B (D c.f1.f1.toNat), B (preT c.f1.f2.f0.toNat c.f1.f2.f1.toNat), B (D c.f1.f3.toNat), B (outW c.f1.f4)]) (c.f1.f0, c.f1.f1, c.f1.f2.f0, c.f1.f2.f1, c.f1.f3, c.f1.f4, 0) := by
  obtain ⟨_, _, g3⟩ := preS hb.1 hb.2 h4
  unfold script_rule.f
  have r0 : ∀ a b c d e : ByteArray, rdOf ByteArray.empty [a, b, c, d, e] 0 = a := fun _ _ _ _ _ => rfl
  have r1 : ∀ a b c d e : ByteArray, rdOf ByteArray.empty [a, b, c, d, e] 1 = b := fun _ _ _ _ _ => rfl
  have r2 : ∀ a b c d e : ByteArray, rdOf ByteArray.empty [a, b, c, d, e] 2 = c := fun _ _ _ _ _ => rfl
  have r3 : ∀ a b c d e : ByteArray, rdOf ByteArray.empty [a, b, c, d, e] 3 = d := fun _ _ _ _ _ => rfl
  have r4 : ∀ a b c d e : ByteArray, rdOf ByteArray.empty [a, b, c, d, e] 4 = e := fun _ _ _ _ _ => rfl
  have hlen : ∀ a b c d e : ByteArray, (([a, b, c, d, e] : List ByteArray).length : Int) = 5 := fun _ _ _ _ _ => rfl
  simp only [hlen, if_true, r0, r1, r2, r3, r4, show ((2 : Int) < 5) = True from by decide, show ((0 : Int) < 5) = True from by decide, show ((1 : Int) < 5) = True from by decide, show ((3 : Int) < 5) = True from by decide, show ((4 : Int) < 5) = True from by decide]
  refine Ev.bind g3 ?_
  simp only [if_true, Option.bind_some, toList_B]
  by_cases co : c.f1.f4 = -1
  · have e : outW c.f1.f4 = [100, 114, 111, 112] := by unfold outW; rw [if_pos co]
    simp only [e, if_true]
    have hn : Ev (fun k => script_numbers.f k [B (D c.f1.f0.toNat), B (D c.f1.f1.toNat), B (D c.f1.f3.toNat)]) ([c.f1.f0, c.f1.f1, c.f1.f3], 0) := numbers_ev [c.f1.f0, c.f1.f1, c.f1.f3] (by simp) (by intro n hn; simp at hn; rcases hn with rfl | rfl | rfl <;> assumption)
    refine Ev.step (fun k => by rw [script_rule.j0]) (Ev.bind hn ?_)
    have hl3 : ∀ a b c : Int, (([a, b, c] : List Int).length : Int) = 3 := fun _ _ _ => rfl
    simp only [hl3, if_true, show ((3 : Int) = 4) = False from by decide, if_false, show ((0 : Int) < 3) = True from by decide, show ((1 : Int) < 3) = True from by decide, show ((2 : Int) < 3) = True from by decide]
    rw [co]
    exact Ev.now _
  · have e : outW c.f1.f4 = D c.f1.f4.toNat := by unfold outW; rw [if_neg co]
    simp only [e, if_neg (D_drop c.f1.f4.toNat)]
    have hl3 : ∀ a b c : ByteArray, ([a, b, c] : List ByteArray).length < 8796093022208 := fun _ _ _ => by show 3 < _; omega
    simp only [if_pos (hl3 _ _ _)]
    have hn : Ev (fun k => script_numbers.f k ([B (D c.f1.f0.toNat), B (D c.f1.f1.toNat), B (D c.f1.f3.toNat)] ++ [B (D c.f1.f4.toNat)])) ([c.f1.f0, c.f1.f1, c.f1.f3, c.f1.f4], 0) := numbers_ev [c.f1.f0, c.f1.f1, c.f1.f3, c.f1.f4] (by simp) (by intro n hn; simp at hn; rcases hn with rfl | rfl | rfl | rfl <;> first | assumption | exact ⟨by omega, h3.2⟩)
    refine Ev.step (fun k => by rw [script_rule.j0]) (Ev.bind hn ?_)
    have hl4 : ∀ a b c d : Int, (([a, b, c, d] : List Int).length : Int) = 4 := fun _ _ _ _ => rfl
    simp only [hl4, if_true, show ((0 : Int) < 4) = True from by decide, show ((1 : Int) < 4) = True from by decide, show ((2 : Int) < 4) = True from by decide, show ((3 : Int) < 4) = True from by decide]
    exact Ev.now _
/-- What a change's text is read as. -/
def backC (c : S46) : S46 := if c.f0 = true then ⟨true, ⟨c.f1.f0, 0, ⟨0, 0⟩, 0, 0⟩⟩ else c
theorem read_ev {c : S46} (hb : bdC c) (h : rightC c = true) : Ev (fun k => script_Change.f k (B (chT c))) ((backC c).f0, (backC c).f1.f0, (backC c).f1.f1, (backC c).f1.f2.f0, (backC c).f1.f2.f1, (backC c).f1.f3, (backC c).f1.f4, 0) := by
  obtain ⟨h0, h⟩ := rightC_iff.1 h
  have l1 : (D c.f1.f0.toNat).length ≤ 8 := D_len7 (by have := h0.2; omega)
  unfold script_Change.f chT backC
  by_cases cd : c.f0 = true
  · simp only [if_pos cd]
    rw [cut_mid 32 [100, 101, 108] _ (by decide) (by simp only [List.length_append, List.length_cons, List.length_nil]; omega)]
    simp only [Option.bind_some, toList_B]
    simp only [if_neg (show ¬ ([100, 101, 108] : List UInt8) = [97, 100, 100] by decide), if_true]
    rw [numS h0 h0.2]
    simp only [Option.bind_some, if_true]
    exact Ev.now _
  · simp only [if_neg cd]
    obtain ⟨h1, h2, h3, h4⟩ := h.resolve_left cd
    have l2 : (D c.f1.f1.toNat).length ≤ 8 := D_len7 (by have := h1.2; omega)
    have l3 : (D c.f1.f3.toNat).length ≤ 8 := D_len7 (by have := h2.2; omega)
    have l4 : (preT c.f1.f2.f0.toNat c.f1.f2.f1.toNat).length ≤ 29 := preT_len _ (by have := right_bd h4; omega)
    have l5 := outW_len h3.2
    rw [cut_mid 32 [97, 100, 100] _ (by decide) (by simp only [List.length_append, List.length_cons, List.length_nil]; omega)]
    simp only [Option.bind_some, toList_B, if_true]
    rw [split_of (c := 32) (ps := [D c.f1.f0.toNat, D c.f1.f1.toNat, preT c.f1.f2.f0.toNat c.f1.f2.f1.toNat, D c.f1.f3.toNat, outW c.f1.f4]) (by rw [B_size]; simp only [List.length_append, List.length_cons]; omega)
      (by rw [B_data, sp_mid 32 _ _ (D_no32 _), sp_mid 32 _ _ (D_no32 _), sp_mid 32 _ _ (preT_no _ _), sp_mid 32 _ _ (D_no32 _), sp_none 32 _ (outW_no _)])]
    simp only [Option.bind_some, List.map_cons, List.map_nil]
    refine Ev.bind (rule_ev hb h0 h1 h2 h3 h4) ?_
    have e : c.f0 = false := by simpa using cd
    simp only [e]
    exact Ev.now _
/-! What can be written: the document's Right. -/
theorem small_ev (ns : List Int) (hl : ns.length ≤ 1000) : Ev (fun k => crossbuckref25_small.f k ns) (ns.all fun n => decide (small n)) := by
  have h : ∀ d i : Nat, i + d = ns.length → Ev (fun k => crossbuckref25_small.l0 k ns (i : Int)) ((ns.drop i).all fun n => decide (small n)) := by
    intro d
    induction d with
    | zero =>
      intro i hi
      obtain rfl : i = ns.length := by omega
      rw [List.drop_length]
      exact Ev.step (f := fun _ => some true) (fun k => by rw [crossbuckref25_small.l0, if_neg (by omega)]) (Ev.now _)
    | succ d ih =>
      intro i hi
      have hlt : i < ns.length := by omega
      have e : ns.drop i = rd ns (i : Int) :: ns.drop (i + 1) := by
        rw [List.drop_eq_getElem_cons hlt]
        simp [rd, List.getD, hlt]
      have h3 := ih (i + 1) (by omega)
      rw [e, List.all_cons]
      generalize hx : rd ns (i : Int) = x
      by_cases c1 : x < 0
      · rw [decide_eq_false (show ¬ small x from fun h => by have := h.1; omega), Bool.false_and]
        exact Ev.step (f := fun _ => some false) (fun k => by rw [crossbuckref25_small.l0, if_pos (by omega), if_pos (by omega), hx, if_pos c1]) (Ev.now _)
      · by_cases c2 : x > 2097152
        · rw [decide_eq_false (show ¬ small x from fun h => by have := h.2; omega), Bool.false_and]
          exact Ev.step (f := fun _ => some false) (fun k => by rw [crossbuckref25_small.l0, if_pos (by omega), if_pos (by omega), hx, if_neg c1, if_pos c2]) (Ev.now _)
        · rw [decide_eq_true (show small x from ⟨by omega, by omega⟩), Bool.true_and]
          exact Ev.step (fun k => by rw [crossbuckref25_small.l0, if_pos (by omega), if_pos (by omega), hx, if_neg c1, if_neg c2, wrS i (by omega)]) h3
  exact h ns.length 0 (by omega)
theorem rightL_ev (l : List S46) (hl : l.length ≤ 1000) (hb : ∀ c ∈ l, bdC c) (a2 a3 a4 a5 a6 a7 a8 a9 a10 a11 a12 a13 a14 : Int) : Ev (fun k => crossbuckref25_Right.f k 0 l a2 a3 a4 a5 a6 a7 a8 a9 a10 a11 a12 a13 a14) (l.all rightC && decide (0 < l.length)) := by
  have h : ∀ d i : Nat, i + d = l.length → Ev (fun k => crossbuckref25_Right.l0 k (i : Int) 0 l a2 a3 a4 a5 a6 a7 a8 a9 a10 a11 a12 a13 a14) ((l.drop i).all rightC && decide (0 < l.length)) := by
    intro d
    induction d with
    | zero =>
      intro i hi
      obtain rfl : i = l.length := by omega
      rw [List.drop_length, List.all_nil, Bool.true_and]
      refine Ev.step (f := fun _ => some (decide (0 < l.length))) (fun k => ?_) (Ev.now _)
      rw [crossbuckref25_Right.l0, if_neg (by omega)]
      congr 1
      have : ((l.length : Int) > 0) = (0 < l.length) := by
        apply propext
        constructor <;> intro h <;> omega
      simp only [this]
    | succ d ih =>
      intro i hi
      have hlt : i < l.length := by omega
      have e : l.drop i = rd_T46 l (i : Int) :: l.drop (i + 1) := by
        rw [List.drop_eq_getElem_cons hlt]
        simp [rd_T46, List.getD, hlt]
      have hm : rd_T46 l (i : Int) ∈ l := by simp [rd_T46, List.getD, hlt]
      have hbd := hb _ hm
      have h3 := ih (i + 1) (by omega)
      rw [e, List.all_cons]
      generalize hx : rd_T46 l (i : Int) = x at hbd
      refine Ev.step (fun k => by rw [crossbuckref25_Right.l0, if_pos (by omega), if_pos (by omega), hx]) (Ev.bind (small_ev [x.f1.f0] (by simp)) ?_)
      unfold rightC
      by_cases c0 : small x.f1.f0
      · simp only [List.all_cons, List.all_nil, Bool.and_true, decide_eq_true c0, if_true, Bool.true_and]
        by_cases cd : x.f0 = true
        · simp only [cd, if_true, Bool.true_or, Bool.true_and]
          rw [wrS i (by omega)]
          exact h3
        · simp only [if_neg cd, show x.f0 = false by simpa using cd, Bool.false_or, Bool.false_eq_true, if_false]
          refine Ev.bind (small_ev [x.f1.f1, x.f1.f3] (by simp)) ?_
          simp only [List.all_cons, List.all_nil, Bool.and_true]
          by_cases c1 : (decide (small x.f1.f1) && decide (small x.f1.f3)) = true
          · simp only [c1, if_true, Bool.true_and]
            by_cases c2 : x.f1.f4 < -1
            · rw [decide_eq_false (show ¬ (-1 ≤ x.f1.f4 ∧ x.f1.f4 ≤ 2097152) by omega)]
              simp only [if_pos c2, Bool.false_and]
              exact Ev.now _
            · by_cases c3 : x.f1.f4 > 2097152
              · rw [decide_eq_false (show ¬ (-1 ≤ x.f1.f4 ∧ x.f1.f4 ≤ 2097152) by omega)]
                simp only [if_neg c2, if_pos c3, Bool.false_and]
                exact Ev.now _
              · rw [decide_eq_true (show (-1 ≤ x.f1.f4 ∧ x.f1.f4 ≤ 2097152) by omega)]
                simp only [if_neg c2, if_neg c3, Bool.true_and]
                refine Ev.bind (⟨33, fun k hk => refRight_eq hk hbd.1 hbd.2⟩ : Ev _ (rightB x.f1.f2.f0 x.f1.f2.f1)) ?_
                by_cases c4 : rightB x.f1.f2.f0 x.f1.f2.f1 = true
                · simp only [c4, if_true, Bool.true_and]
                  rw [wrS i (by omega)]
                  exact h3
                · simp only [show rightB x.f1.f2.f0 x.f1.f2.f1 = false by simpa using c4, Bool.false_eq_true, if_false, Bool.false_and]
                  exact Ev.now _
          · have e1 : (decide (small x.f1.f1) && decide (small x.f1.f3)) = false := by simpa using c1
            simp only [e1, Bool.false_eq_true, if_false, Bool.false_and]
            exact Ev.now _
      · simp only [List.all_cons, List.all_nil, Bool.and_true, decide_eq_false c0, Bool.false_eq_true, if_false, Bool.false_and]
        exact Ev.now _
  unfold crossbuckref25_Right.f
  simp only [if_true]
  exact h l.length 0 (by omega)
/-! The document's example. -/
def aw1 : S46 := ⟨false, ⟨1, 0, ⟨167772160, 8⟩, 5, -1⟩⟩
def aw2 : S46 := ⟨true, ⟨3, 0, ⟨0, 0⟩, 0, 0⟩⟩
end Go.Proofs.YtloclimoffhbhaaDoor.Scr
