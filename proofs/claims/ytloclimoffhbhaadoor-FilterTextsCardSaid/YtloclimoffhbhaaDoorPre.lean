/- Prefixes and ranges written and read: by the program, by the document; what is read stands there. No condition of its own. -/
import Derived.Test.YtloclimoffhbhaaDoorBack
import Derived.Test.YtloclimoffhbhaaDoorCut
import Derived.Test.YtloclimoffhbhaaDoorFactsRt
import Derived.Test.YtloclimoffhbhaaDoorPFxx1
import Derived.Test.YtloclimoffhbhaaDoorPFxx10
import Derived.Test.YtloclimoffhbhaaDoorPFxx2
import Derived.Test.YtloclimoffhbhaaDoorPFxx7
import Derived.Test.YtloclimoffhbhaaDoorPFxx9
namespace Go.Proofs.YtloclimoffhbhaaDoor.Pure
open Go Go.RowKit Go.Proofs.YtloclimoffhbhaaDoor.PFx Go.Proofs.YtloclimoffhbhaaDoorW.PrintWords Go.Proofs.YtloclimoffhbhaaDoorW.PrintLast Go.Proofs.YtloclimoffhbhaaDoorW.PrintMore Go.Proofs.YtloclimoffhbhaaDoor.Bits Go.Proofs.YtloclimoffhbhaaDoor.Text Go.Proofs.YtloclimoffhbhaaDoor.Dec Go.Proofs.YtloclimoffhbhaaDoor.Facts
set_option linter.unusedVariables false

theorem parse_both (s : ByteArray) (hs : s.size ≤ 300) (K : Nat) : ∃ r, cidr_Parse.f (K + 705) s = some r ∧ crossbuckref03_Parse.f (K + 705) s = some r := by
  unfold cidr_Parse.f crossbuckref03_Parse.f
  have e47 : (((47 : UInt8).toNat : Nat) : Int) = 47 := rfl
  rcases cut_both s hs 47 (K + 5) with ⟨a, b, h1, h2, ha, hb⟩ | ⟨a, b, a', b', h1, h2⟩
  · rw [e47, show K + 5 + 700 = K + 705 by omega] at h2
    rw [h1, h2, Option.bind_some, Option.bind_some, if_pos rfl, if_pos rfl]
    obtain ⟨r, g1, _, g3⟩ := addr_both a ha (K + 700)
    obtain ⟨r', g1', g2, _⟩ := addr_both a ha K
    have hr : r' = r := by
      have m : ∀ j, hdr_ParseAddr.f (K + 5 + j) a = some r' := by
        intro j
        induction j with
        | zero => exact g1'
        | succ j ih => exact hdr_ParseAddr.mono _ _ _ ih
      have := m 700
      rw [show K + 5 + 700 = K + 700 + 5 by omega, g1] at this
      exact (Option.some.inj this).symm
    rw [hr] at g2
    rw [show K + 705 = K + 700 + 5 by omega, g1]
    rw [show K + 700 + 5 = K + 705 by omega, g2, Option.bind_some, Option.bind_some]
    by_cases c : r.2 = 0
    · rw [if_pos c, if_pos c]
      have hn := number_eq b hb 32 (K + 5)
      rw [show K + 5 + 700 = K + 705 by omega] at hn
      rw [hn]
      rcases hv : hdr_Number.f b 32 with _ | n
      · unfold hdr_Number.f at hv; cases hv
      rw [Option.bind_some, Option.bind_some]
      by_cases e : n.2 = 0
      · obtain ⟨q0, q1⟩ := g3 c
        rw [if_pos e, if_pos e, tright_eq q0 q1, refRight_eq (by omega) q0 q1, Option.bind_some]
        cases rightB r.1 n.1 <;> exact ⟨_, rfl, rfl⟩
      · rw [if_neg e, if_neg e]; exact ⟨_, rfl, rfl⟩
    · rw [if_neg c, if_neg c]; exact ⟨_, rfl, rfl⟩
  · rw [e47, show K + 5 + 700 = K + 705 by omega] at h2
    rw [h1, h2, Option.bind_some, Option.bind_some, if_neg Bool.false_ne_true, if_neg Bool.false_ne_true]
    exact ⟨_, rfl, rfl⟩
theorem range_both (s : ByteArray) (hs : s.size ≤ 300) (K : Nat) : ∃ r, cidr_ParseRange.f s = some r ∧ crossbuckref03_ParseRange.f (K + 705) s = some r := by
  unfold cidr_ParseRange.f crossbuckref03_ParseRange.f
  have e45 : (((45 : UInt8).toNat : Nat) : Int) = 45 := rfl
  rcases cut_both s hs 45 (K + 5) with ⟨a, b, h1, h2, ha, hb⟩ | ⟨a, b, a', b', h1, h2⟩
  · rw [e45, show K + 5 + 700 = K + 705 by omega] at h2
    have ea := number_eq a ha 65535 (K + 5)
    have eb := number_eq b hb 65535 (K + 5)
    rw [show K + 5 + 700 = K + 705 by omega] at ea eb
    rw [h1, h2, Option.bind_some, Option.bind_some, if_pos rfl, if_pos rfl]
    simp only [ea, eb]
    rcases hv : hdr_Number.f a 65535 with _ | n
    · unfold hdr_Number.f at hv; cases hv
    rcases hw : hdr_Number.f b 65535 with _ | m
    · unfold hdr_Number.f at hw; cases hw
    simp only [Option.bind_some]
    by_cases c : n.2 = 0
    · rw [if_pos c]
      by_cases d : m.2 = 0
      · rw [if_pos d]
        by_cases g : n.1 > m.1
        · rw [if_pos g]; exact ⟨_, rfl, rfl⟩
        · rw [if_neg g]; exact ⟨_, rfl, rfl⟩
      · rw [if_neg d]; exact ⟨_, rfl, rfl⟩
    · rw [if_neg c]; exact ⟨_, rfl, rfl⟩
  · rw [e45, show K + 5 + 700 = K + 705 by omega] at h2
    rw [h1, h2, Option.bind_some, Option.bind_some, if_neg Bool.false_ne_true, if_neg Bool.false_ne_true]
    exact ⟨_, rfl, rfl⟩

theorem ranges_eq (k a b : Nat) (ha : a ≤ 65535) (hb : b ≤ 65535) : cidr_PrintRange.f a b = some (B (D a ++ [45] ++ D b)) ∧ crossbuckref03_PrintRange.f (k + 5) a b = some (B (D a ++ [45] ++ D b)) := by
  have la := D_len ha
  have lb := D_len hb
  unfold cidr_PrintRange.f crossbuckref03_PrintRange.f
  have wa : wrap64 (a : Int) = a := wrap64_id _ (by omega) (by omega)
  have wb : wrap64 (b : Int) = b := wrap64_id _ (by omega) (by omega)
  have s1 : (B (D a)).size + 1 ≤ 9223372036854775807 := by rw [B_size]; clear wa wb; omega
  have s2 : (B (D a ++ [45])).size + (B (D b)).size ≤ 9223372036854775807 := by rw [B_size, B_size, List.length_append, List.length_singleton]; clear wa wb; omega
  rw [wa, wb, itoa_eq a ha, itoa_eq b hb, digits_eq k a ha, digits_eq k b hb]
  simp only [Option.bind_some]
  rw [if_pos s1, B_45, B_add, if_pos s2, B_add]
  exact ⟨rfl, rfl⟩

/-! ### Reading -/
theorem index_mid (c : UInt8) : ∀ (l r : List UInt8), c ∉ l → Lib.indexByte (l ++ c :: r) c = l.length
  | [], r, _ => by rw [List.nil_append, Lib.indexByte, if_pos (beq_self_eq_true c)]; rfl
  | b :: l, r, h => by
    have h1 : ¬ (b == c) = true := by
      rw [beq_iff_eq]; intro e; subst e; exact h (List.mem_cons_self ..)
    have ih := index_mid c l r (fun m => h (List.mem_cons_of_mem _ m))
    rw [List.cons_append, Lib.indexByte, if_neg h1, ih, if_neg (by rw [beq_iff_eq]; omega)]
    simp
theorem cut_mid (c : UInt8) (l r : List UInt8) (h : c ∉ l) (hs : (l ++ c :: r).length < 1000) : strings_Cut.f (B (l ++ c :: r)) ⟨#[c]⟩ = some (B l, B r, true) := by
  unfold strings_Cut.f
  rw [if_pos (by rw [B_size]; omega), B_data]
  unfold Lib.cut
  rw [show (⟨#[c]⟩ : ByteArray).data.toList = [c] from rfl, Lib.index_one, index_mid c l r h, if_pos (by omega), Int.toNat_natCast, List.take_left, List.length_singleton,
    show l ++ c :: r = (l ++ [c]) ++ r by simp, show l.length + 1 = (l ++ [c]).length by simp, List.drop_left]
  rfl
theorem range_read (a b : Nat) (ha : a ≤ 65535) (hb : b ≤ 65535) (h : a ≤ b) : cidr_ParseRange.f (B (D a ++ [45] ++ D b)) = some ((a : Int), (b : Int), 0) := by
  have la := D_len ha
  have lb := D_len hb
  unfold cidr_ParseRange.f
  rw [show D a ++ [45] ++ D b = D a ++ 45 :: D b by simp, cut_mid 45 _ _ (D_not a (by decide)) (by rw [List.length_append, List.length_cons]; omega), Option.bind_some, if_pos rfl,
    num_read a ha 65535 (by omega), Option.bind_some, if_pos rfl, num_read b hb 65535 (by omega), Option.bind_some, if_pos rfl, if_neg (by simp only []; omega), wrap_u16, wrap_u16, Int.emod_eq_of_lt (by omega) (by omega), Int.emod_eq_of_lt (by omega) (by omega)]

theorem prefix_print (k x y : Nat) (h : x < 4294967296) (hy : y ≤ 32) (l : List UInt8) (hl : addrB (x / 16777216 % 256) (x / 65536 % 256) (x / 256 % 256) (x % 256) = l) (hl2 : l.length ≤ 23) :
    cidr_Print.f (k + 5) x y = some (B (l ++ 47 :: D y)) ∧ crossbuckref03_Print.f (k + 5) x y = some (B (l ++ 47 :: D y)) := by
  have ly := D_len (n := y) (by omega)
  have z47 : ([47] : List UInt8).length = 1 := rfl
  have s1 : (B l).size + 1 ≤ 9223372036854775807 := by rw [B_size]; omega
  have s2 : (B (l ++ [47])).size + (B (D y)).size ≤ 9223372036854775807 := by simp only [B_size, List.length_append]; omega
  unfold cidr_Print.f crossbuckref03_Print.f
  rw [addr_print k x h, addr_ref k x h, itoa_eq y (by omega), digits_eq k y (by omega), hl]
  simp only [Option.bind_some]
  rw [if_pos s1, B_47, B_add, if_pos s2, B_add]
  simp
theorem addr_no47 (n1 n2 n3 n4 : Nat) : (47 : UInt8) ∉ addrB n1 n2 n3 n4 := by
  unfold addrB
  intro h
  have d : ∀ n, (47 : UInt8) ∉ D n := fun n => D_not n (by decide)
  simp [d] at h
theorem prefix_read (k x y : Nat) (h : x < 4294967296) (hy : y ≤ 32) (hr : rightB x y = true) (l : List UInt8) (hl : addrB (x / 16777216 % 256) (x / 65536 % 256) (x / 256 % 256) (x % 256) = l) (hl2 : l.length ≤ 23) :
    cidr_Parse.f (k + 5) (B (l ++ 47 :: D y)) = some ((x : Int), (y : Int), 0) := by
  have ly := D_len (n := y) (by omega)
  have ha := addr_read k (n1 := x / 16777216 % 256) (n2 := x / 65536 % 256) (n3 := x / 256 % 256) (n4 := x % 256) (by omega) (by omega) (by omega) (by omega)
  have ex : (((x / 16777216 % 256) * 256 + x / 65536 % 256) * 256 + x / 256 % 256) * 256 + x % 256 = x := by omega
  rw [hl, ex] at ha
  have hn : (47 : UInt8) ∉ l := by rw [← hl]; exact addr_no47 _ _ _ _
  unfold cidr_Parse.f
  rw [cut_mid 47 l (D y) hn (by rw [List.length_append, List.length_cons]; omega), Option.bind_some, if_pos rfl, ha, Option.bind_some, if_pos rfl, num_read y (by omega) 32 (by omega), Option.bind_some, if_pos rfl, tright_eq (by omega) (by omega), hr, Option.bind_some, if_pos rfl]


/-! ### What was read stands there -/
theorem index_split (c : UInt8) : ∀ (l : List UInt8), Lib.indexByte l c ≠ -1 → l = l.take (Lib.indexByte l c).toNat ++ c :: l.drop ((Lib.indexByte l c).toNat + 1)
  | [], h => absurd rfl h
  | b :: l, h => by
    by_cases e : b = c
    · have hi : Lib.indexByte (b :: l) c = 0 := by rw [Lib.indexByte, if_pos (beq_iff_eq.2 e)]
      rw [hi, e]
      rfl
    · have hge := Lib.indexByte_ge l c
      by_cases g : Lib.indexByte l c = -1
      · exact absurd (by rw [Lib.indexByte, if_neg (by simpa using e), if_pos (beq_iff_eq.2 g)]) h
      · have hi : Lib.indexByte (b :: l) c = Lib.indexByte l c + 1 := by rw [Lib.indexByte, if_neg (by simpa using e), if_neg (by simpa using g)]
        have hn : (Lib.indexByte l c + 1).toNat = (Lib.indexByte l c).toNat + 1 := by omega
        have ih := index_split c l g
        rw [hi, hn, List.take_succ_cons, List.drop_succ_cons, List.cons_append, ← ih]
theorem cut_text {s a b : ByteArray} {c : UInt8} (h : strings_Cut.f s ⟨#[c]⟩ = some (a, b, true)) : s = B (a.data.toList ++ c :: b.data.toList) := by
  unfold strings_Cut.f at h
  by_cases g : s.size < 4294967281
  · rw [if_pos g] at h
    unfold Lib.cut at h
    rw [show (⟨#[c]⟩ : ByteArray).data.toList = [c] from rfl, Lib.index_one] at h
    by_cases d : Lib.indexByte s.data.toList c ≥ 0
    · rw [if_pos d] at h
      simp only [Option.some.injEq, Prod.mk.injEq] at h
      obtain ⟨rfl, rfl, _⟩ := h
      exact B_of (index_split c _ (by omega))
    · rw [if_neg d] at h
      simp at h
  · rw [if_neg g] at h; cases h
theorem cut_small {s a b : ByteArray} {c : UInt8} (hs : s.size ≤ 300) (h : strings_Cut.f s ⟨#[c]⟩ = some (a, b, true)) : a.size ≤ 300 ∧ b.size ≤ 300 := by
  have e := congrArg ByteArray.size (cut_text h)
  rw [B_size, List.length_append, List.length_cons] at e
  have e1 : a.data.toList.length = a.size := by simp
  have e2 : b.data.toList.length = b.size := by simp
  omega
def preT (x y : Nat) : List UInt8 := addrT x ++ 47 :: D y
def rngT (x y : Nat) : List UInt8 := D x ++ 45 :: D y
theorem cidr_text {s : ByteArray} (hs : s.size ≤ 300) {K : Nat} {a b : Int} (h : cidr_Parse.f (K + 5) s = some (a, b, 0)) :
    ∃ x y : Nat, a = x ∧ b = y ∧ x < 4294967296 ∧ y ≤ 32 ∧ rightB x y = true ∧ s = B (preT x y) := by
  unfold cidr_Parse.f at h
  rcases hc : strings_Cut.f s ⟨#[47]⟩ with _ | ⟨u, v, t⟩
  · rw [hc] at h; cases h
  rw [hc, Option.bind_some] at h
  cases t with
  | false =>
    rw [if_neg Bool.false_ne_true] at h
    simp at h
  | true =>
    obtain ⟨su, sv⟩ := cut_small hs hc
    have ht := cut_text hc
    rw [if_pos rfl] at h
    rcases ha : hdr_ParseAddr.f (K + 5) u with _ | ⟨x, e⟩
    · rw [ha] at h; cases h
    rw [ha, Option.bind_some] at h
    by_cases ce : e = 0
    · subst ce
      rw [if_pos rfl] at h
      obtain ⟨n1, n2, n3, n4, y1, y2, y3, y4, rfl, rfl⟩ := addr_text su ha
      rcases hn : hdr_Number.f v 32 with _ | ⟨n, e⟩
      · rw [hn] at h; cases h
      rw [hn, Option.bind_some] at h
      by_cases ce : e = 0
      · subst ce
        obtain ⟨m, rfl, lm, rfl⟩ := num_text (by decide) (by decide) hn
        rw [if_pos rfl, tright_eq (by omega) (by omega), Option.bind_some] at h
        cases hr : rightB (((((n1 * 256 + n2) * 256 + n3) * 256 + n4 : Nat) : Int)) (m : Int) with
        | false => rw [hr, if_neg Bool.false_ne_true] at h; simp at h
        | true =>
          rw [hr, if_pos rfl] at h
          simp only [Option.some.injEq, Prod.mk.injEq] at h
          obtain ⟨rfl, rfl, _⟩ := h
          refine ⟨((n1 * 256 + n2) * 256 + n3) * 256 + n4, m, rfl, rfl, by omega, by omega, hr, ?_⟩
          rw [ht]
          unfold preT
          rw [addrT_of y1 y2 y3 y4]
          rfl
      · rw [if_neg ce] at h
        simp only [Option.some.injEq, Prod.mk.injEq] at h
        exact absurd h.2.2 ce
    · rw [if_neg ce] at h
      simp only [Option.some.injEq, Prod.mk.injEq] at h
      exact absurd h.2.2 ce
theorem range_text {s : ByteArray} {a b : Int} (h : cidr_ParseRange.f s = some (a, b, 0)) :
    ∃ x y : Nat, a = x ∧ b = y ∧ x ≤ y ∧ y ≤ 65535 ∧ s = B (rngT x y) := by
  unfold cidr_ParseRange.f at h
  rcases hc : strings_Cut.f s ⟨#[45]⟩ with _ | ⟨u, v, t⟩
  · rw [hc] at h; cases h
  rw [hc, Option.bind_some] at h
  cases t with
  | false =>
    rw [if_neg Bool.false_ne_true] at h
    simp at h
  | true =>
    have ht := cut_text hc
    rw [if_pos rfl] at h
    rcases ha : hdr_Number.f u 65535 with _ | ⟨x, e⟩
    · rw [ha] at h; cases h
    rw [ha, Option.bind_some] at h
    by_cases ce : e = 0
    · subst ce
      rw [if_pos rfl] at h
      obtain ⟨m, rfl, lm, rfl⟩ := num_text (by decide) (by decide) ha
      rcases hb : hdr_Number.f v 65535 with _ | ⟨y, e⟩
      · rw [hb] at h; cases h
      rw [hb, Option.bind_some] at h
      by_cases ce : e = 0
      · subst ce
        obtain ⟨n, rfl, ln, rfl⟩ := num_text (by decide) (by decide) hb
        rw [if_pos rfl] at h
        by_cases g : (m : Int) > (n : Int)
        · rw [if_pos g] at h; simp at h
        · rw [if_neg g, wrap16 (by omega), wrap16 (by omega)] at h
          simp only [Option.some.injEq, Prod.mk.injEq] at h
          obtain ⟨rfl, rfl, _⟩ := h
          exact ⟨m, n, rfl, rfl, by omega, by omega, ht⟩
      · rw [if_neg ce] at h
        simp only [Option.some.injEq, Prod.mk.injEq] at h
        exact absurd h.2.2 ce
    · rw [if_neg ce] at h
      simp only [Option.some.injEq, Prod.mk.injEq] at h
      exact absurd h.2.2 ce
end Go.Proofs.YtloclimoffhbhaaDoor.Pure
