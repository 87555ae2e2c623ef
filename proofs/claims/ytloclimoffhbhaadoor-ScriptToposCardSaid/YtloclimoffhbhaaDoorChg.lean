/- A change as a text: printed by the program, by the document, and read. No condition of its own. -/
import Derived.Test.YtloclimoffhbhaaDoorScr
import Derived.Test.YtloclimoffhbhaaDoorPStox3
import Derived.Test.YtloclimoffhbhaaDoorPStox6
namespace Go.Proofs.YtloclimoffhbhaaDoor.Scr
open Go Go.RowKit Go.Proofs.YtloclimoffhbhaaDoor.PSto Go.Proofs.YtloclimoffhbhaaDoorW.PrintWords Go.Proofs.YtloclimoffhbhaaDoorW.PrintLast Go.Proofs.YtloclimoffhbhaaDoorW.PrintMore Go.Proofs.YtloclimoffhbhaaDoor.Bits Go.Proofs.YtloclimoffhbhaaDoor.Facts
set_option linter.unusedVariables false
set_option linter.unusedSimpArgs false
theorem Ev_plus {α : Type} {g : Nat → Option α} {r : α} (n : Nat) (h : ∀ k, g (k + n) = some r) : Ev g r := ⟨n, fun k hk => by
  have := h (k - n)
  rw [Nat.sub_add_cancel hk] at this
  exact this⟩
theorem wrS (i : Nat) (h : i ≤ 1000000) : wrap64 ((i : Int) + 1) = ((i + 1 : Nat) : Int) := by unfold wrap64; omega
/-- The word of a rule's port. -/
def outW (o : Int) : List UInt8 := if o = -1 then [100, 114, 111, 112] else D o.toNat
/-- A change's text. -/
def chT (c : S46) : List UInt8 := if c.f0 = true then [100, 101, 108] ++ 32 :: D c.f1.f0.toNat else [97, 100, 100] ++ 32 :: (D c.f1.f0.toNat ++ 32 :: (D c.f1.f1.toNat ++ 32 :: (preT c.f1.f2.f0.toNat c.f1.f2.f1.toNat ++ 32 :: (D c.f1.f3.toNat ++ 32 :: outW c.f1.f4))))
def small (n : Int) : Prop := 0 ≤ n ∧ n ≤ 2097152
instance (n : Int) : Decidable (small n) := inferInstanceAs (Decidable (0 ≤ n ∧ n ≤ 2097152))
/-- What can be written. -/
def rightC (c : S46) : Bool := decide (small c.f1.f0) && (c.f0 || (decide (small c.f1.f1) && decide (small c.f1.f3) && decide (-1 ≤ c.f1.f4 ∧ c.f1.f4 ≤ 2097152) && rightB c.f1.f2.f0 c.f1.f2.f1))
def bdC (c : S46) : Prop := 0 ≤ c.f1.f2.f0 ∧ c.f1.f2.f0 < 4294967296
theorem D_no32 (n : Nat) : (32 : UInt8) ∉ D n := D_not n (by decide)
theorem outW_no (o : Int) : (32 : UInt8) ∉ outW o := by
  unfold outW
  split
  · decide
  · exact D_no32 _
theorem D_drop (n : Nat) : D n ≠ [100, 114, 111, 112] := by
  intro e
  have := D_mem n n (Nat.le_refl _) 100 (by rw [e]; exact List.mem_cons_self)
  simp at this
theorem outW_len {o : Int} (h : o ≤ 2097152) : (outW o).length ≤ 8 := by
  unfold outW
  split
  · decide
  · exact D_len7 (by omega)
theorem rightC_iff {c : S46} : rightC c = true ↔ small c.f1.f0 ∧ (c.f0 = true ∨ (small c.f1.f1 ∧ small c.f1.f3 ∧ (-1 ≤ c.f1.f4 ∧ c.f1.f4 ≤ 2097152) ∧ rightB c.f1.f2.f0 c.f1.f2.f1 = true)) := by
  unfold rightC
  simp only [Bool.and_eq_true, Bool.or_eq_true, decide_eq_true_eq, and_assoc]
/-! The words of a rule. -/
theorem itoaS {n : Int} (h : small n) : strconv_Itoa_76.f n = some (B (D n.toNat)) := by
  have e : n = ((n.toNat : Nat) : Int) := by have := h.1; omega
  have h2 := h.2
  rw [e]
  simp only [Int.toNat_natCast]
  exact itoa7 n.toNat (by omega)
theorem digS {n : Int} (h : small n) : Ev (fun k => crossbuckref25_n.f k n) (B (D n.toNat)) := by
  have e : n = ((n.toNat : Nat) : Int) := by have := h.1; omega
  have h2 := h.2
  refine Ev_plus 8 (fun k => ?_)
  unfold crossbuckref25_n.f
  rw [e]
  simp only [Int.toNat_natCast]
  rw [digits7 k n.toNat (by omega)]
  rfl
theorem numS {n most : Int} (h : small n) (hm : n ≤ most) : hdr_Number.f (B (D n.toNat)) most = some (n, 0) := by
  have h1 := h.1
  have h2 := h.2
  have e : ((n.toNat : Nat) : Int) = n := by omega
  have := num7 n.toNat (by omega) most (by omega)
  rw [e] at this
  exact this
theorem right_bd {a b : Int} (h : rightB a b = true) : 0 ≤ b ∧ b ≤ 32 := by
  obtain ⟨h0, h1, _⟩ := rightB_iff.1 h
  exact ⟨h0, h1⟩
theorem preS {a b : Int} (a0 : 0 ≤ a) (a1 : a < 4294967296) (h : rightB a b = true) : (Ev (fun k => cidr_Print.f k a b) (B (preT a.toNat b.toNat))) ∧ (Ev (fun k => crossbuckref03_Print.f k a b) (B (preT a.toNat b.toNat))) ∧ Ev (fun k => cidr_Parse.f k (B (preT a.toNat b.toNat))) (a, b, 0) := by
  obtain ⟨b0, b1⟩ := right_bd h
  have ea : ((a.toNat : Nat) : Int) = a := by omega
  have eb : ((b.toNat : Nat) : Int) = b := by omega
  have h' : rightB ((a.toNat : Nat) : Int) ((b.toNat : Nat) : Int) = true := by rw [ea, eb]; exact h
  refine ⟨Ev_plus 5 (fun k => ?_), Ev_plus 5 (fun k => ?_), Ev_plus 5 (fun k => ?_)⟩
  · have := (pre_print k (x := a.toNat) (y := b.toNat) (by omega) (by omega)).1
    rw [ea, eb] at this
    exact this
  · have := (pre_print k (x := a.toNat) (y := b.toNat) (by omega) (by omega)).2
    rw [ea, eb] at this
    exact this
  · have := pre_read k (x := a.toNat) (y := b.toNat) (by omega) (by omega) h'
    rw [ea, eb] at this
    exact this
/-! Read. -/
theorem numbers_ev (ns : List Int) (hl : ns.length ≤ 1000) (hs : ∀ n ∈ ns, small n) : Ev (fun k => script_numbers.f k (ns.map fun n => B (D n.toNat))) (ns, 0) := by
  have h : ∀ d i : Nat, i + d = ns.length → Ev (fun k => script_numbers.l0 k (ns.take i) (ns.map fun n => B (D n.toNat)) ((ns.map fun n => B (D n.toNat)).length : Int) (i : Int)) (ns, 0) := by
    intro d
    induction d with
    | zero =>
      intro i hi
      obtain rfl : i = ns.length := by omega
      rw [List.take_length]
      exact Ev.step (f := fun _ => some (ns, 0)) (fun k => by rw [script_numbers.l0, if_neg (by rw [List.length_map]; omega)]) (Ev.now _)
    | succ d ih =>
      intro i hi
      have hlt : i < ns.length := by omega
      have e : rdOf ByteArray.empty (ns.map fun n => B (D n.toNat)) (i : Int) = B (D (ns[i]).toNat) := by
        simp [rdOf, List.getD, hlt]
      have hsm := hs _ (List.getElem_mem hlt)
      have h3 := ih (i + 1) (by omega)
      rw [List.take_succ_eq_append_getElem hlt] at h3
      have hl2 : (ns.take i).length ≤ i := List.length_take_le _ _
      refine Ev.step (fun k => ?_) h3
      rw [script_numbers.l0, if_pos (by rw [List.length_map]; omega), if_pos (by omega), if_pos (by rw [List.length_map]; omega), e, numS hsm hsm.2, Option.bind_some]
      dsimp only
      rw [if_pos rfl, if_pos (by omega), wrS i (by omega)]
  have := h ns.length 0 (by omega)
  rw [List.take_zero] at this
  exact this
theorem rule_ev {c : S46} (hb : bdC c) (h0 : small c.f1.f0) (h1 : small c.f1.f1) (h2 : small c.f1.f3) (h3 : -1 ≤ c.f1.f4 ∧ c.f1.f4 ≤ 2097152) (h4 : rightB c.f1.f2.f0 c.f1.f2.f1 = true) :
    Ev (fun k => script_rule.f k [B (D c.f1.f0.toNat), B (D c.f1.f1.toNat), B (preT c.f1.f2.f0.toNat c.f1.f2.f1.toNat), B (D c.f1.f3.toNat), B (outW c.f1.f4)]) (c.f1.f0, c.f1.f1, c.f1.f2.f0, c.f1.f2.f1, c.f1.f3, c.f1.f4, 0) := by
  obtain ⟨_, _, g3⟩ := preS hb.1 hb.2 h4
  unfold script_rule.f
  have r0 : ∀ a b c d e : ByteArray, rdOf ByteArray.empty [a, b, c, d, e] 0 = a := fun _ _ _ _ _ => rfl
  have r1 : ∀ a b c d e : ByteArray, rdOf ByteArray.empty [a, b, c, d, e] 1 = b := fun _ _ _ _ _ => rfl
  have r2 : ∀ a b c d e : ByteArray, rdOf ByteArray.empty [a, b, c, d, e] 2 = c := fun _ _ _ _ _ => rfl
  have r3 : ∀ a b c d e : ByteArray, rdOf ByteArray.empty [a, b, c, d, e] 3 = d := fun _ _ _ _ _ => rfl
  have r4 : ∀ a b c d e : ByteArray, rdOf ByteArray.empty [a, b, c, d, e] 4 = e := fun _ _ _ _ _ => rfl
  have hlen : ∀ a b c d e : ByteArray, (([a, b, c, d, e] : List ByteArray).length : Int) = 5 := fun _ _ _ _ _ => rfl
  simp only [hlen, if_true, r0, r1, r2, r3, r4, show ((2 : Int) < 5) = True from by decide, show ((0 : Int) < 5) = True from by decide, show ((1 : Int) < 5) = True from by decide, show ((3 : Int) < 5) = True from by decide, show ((4 : Int) < 5) = True from by decide]
  refine Ev.bind g3 ?_
  simp only [if_true, Option.bind_some, toList_B]
  by_cases co : c.f1.f4 = -1
  · have e : outW c.f1.f4 = [100, 114, 111, 112] := by unfold outW; rw [if_pos co]
    simp only [e, if_true]
    have hn : Ev (fun k => script_numbers.f k [B (D c.f1.f0.toNat), B (D c.f1.f1.toNat), B (D c.f1.f3.toNat)]) ([c.f1.f0, c.f1.f1, c.f1.f3], 0) := numbers_ev [c.f1.f0, c.f1.f1, c.f1.f3] (by simp) (by intro n hn; simp at hn; rcases hn with rfl | rfl | rfl <;> assumption)
    refine Ev.step (fun k => by rw [script_rule.j0]) (Ev.bind hn ?_)
    have hl3 : ∀ a b c : Int, (([a, b, c] : List Int).length : Int) = 3 := fun _ _ _ => rfl
    simp only [hl3, if_true, show ((3 : Int) = 4) = False from by decide, if_false, show ((0 : Int) < 3) = True from by decide, show ((1 : Int) < 3) = True from by decide, show ((2 : Int) < 3) = True from by decide]
    rw [co]
    exact Ev.now _
  · have e : outW c.f1.f4 = D c.f1.f4.toNat := by unfold outW; rw [if_neg co]
    simp only [e, if_neg (D_drop c.f1.f4.toNat)]
    have hl3 : ∀ a b c : ByteArray, ([a, b, c] : List ByteArray).length < 8796093022208 := fun _ _ _ => by show 3 < _; omega
    simp only [if_pos (hl3 _ _ _)]
    have hn : Ev (fun k => script_numbers.f k ([B (D c.f1.f0.toNat), B (D c.f1.f1.toNat), B (D c.f1.f3.toNat)] ++ [B (D c.f1.f4.toNat)])) ([c.f1.f0, c.f1.f1, c.f1.f3, c.f1.f4], 0) := numbers_ev [c.f1.f0, c.f1.f1, c.f1.f3, c.f1.f4] (by simp) (by intro n hn; simp at hn; rcases hn with rfl | rfl | rfl | rfl <;> first | assumption | exact ⟨by omega, h3.2⟩)
    refine Ev.step (fun k => by rw [script_rule.j0]) (Ev.bind hn ?_)
    have hl4 : ∀ a b c d : Int, (([a, b, c, d] : List Int).length : Int) = 4 := fun _ _ _ _ => rfl
    simp only [hl4, if_true, show ((0 : Int) < 4) = True from by decide, show ((1 : Int) < 4) = True from by decide, show ((2 : Int) < 4) = True from by decide, show ((3 : Int) < 4) = True from by decide]
    exact Ev.now _
/-- What a change's text is read as. -/
def backC (c : S46) : S46 := if c.f0 = true then ⟨true, ⟨c.f1.f0, 0, ⟨0, 0⟩, 0, 0⟩⟩ else c
theorem read_ev {c : S46} (hb : bdC c) (h : rightC c = true) : Ev (fun k => script_Change.f k (B (chT c))) ((backC c).f0, (backC c).f1.f0, (backC c).f1.f1, (backC c).f1.f2.f0, (backC c).f1.f2.f1, (backC c).f1.f3, (backC c).f1.f4, 0) := by
  obtain ⟨h0, h⟩ := rightC_iff.1 h
  have l1 : (D c.f1.f0.toNat).length ≤ 8 := D_len7 (by have := h0.2; omega)
  unfold script_Change.f chT backC
  by_cases cd : c.f0 = true
  · simp only [if_pos cd]
    rw [cut_mid 32 [100, 101, 108] _ (by decide) (by simp only [List.length_append, List.length_cons, List.length_nil]; omega)]
    simp only [Option.bind_some, toList_B]
    simp only [if_neg (show ¬ ([100, 101, 108] : List UInt8) = [97, 100, 100] by decide), if_true]
    rw [numS h0 h0.2]
    simp only [Option.bind_some, if_true]
    exact Ev.now _
  · simp only [if_neg cd]
    obtain ⟨h1, h2, h3, h4⟩ := h.resolve_left cd
    have l2 : (D c.f1.f1.toNat).length ≤ 8 := D_len7 (by have := h1.2; omega)
    have l3 : (D c.f1.f3.toNat).length ≤ 8 := D_len7 (by have := h2.2; omega)
    have l4 : (preT c.f1.f2.f0.toNat c.f1.f2.f1.toNat).length ≤ 29 := preT_len _ (by have := right_bd h4; omega)
    have l5 := outW_len h3.2
    rw [cut_mid 32 [97, 100, 100] _ (by decide) (by simp only [List.length_append, List.length_cons, List.length_nil]; omega)]
    simp only [Option.bind_some, toList_B, if_true]
    rw [split_of (c := 32) (ps := [D c.f1.f0.toNat, D c.f1.f1.toNat, preT c.f1.f2.f0.toNat c.f1.f2.f1.toNat, D c.f1.f3.toNat, outW c.f1.f4]) (by rw [B_size]; simp only [List.length_append, List.length_cons]; omega)
      (by rw [B_data, sp_mid 32 _ _ (D_no32 _), sp_mid 32 _ _ (D_no32 _), sp_mid 32 _ _ (preT_no _ _), sp_mid 32 _ _ (D_no32 _), sp_none 32 _ (outW_no _)])]
    simp only [Option.bind_some, List.map_cons, List.map_nil]
    refine Ev.bind (rule_ev hb h0 h1 h2 h3 h4) ?_
    have e : c.f0 = false := by simpa using cd
    simp only [e]
    exact Ev.now _
/-! What can be written: the document's Right. -/
/-! The document's example. -/
def aw1 : S46 := ⟨false, ⟨1, 0, ⟨167772160, 8⟩, 5, -1⟩⟩
def aw2 : S46 := ⟨true, ⟨3, 0, ⟨0, 0⟩, 0, 0⟩⟩
end Go.Proofs.YtloclimoffhbhaaDoor.Scr
