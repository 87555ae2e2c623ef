/- Words split and addresses read: the document's own answer as the program's. No condition of its own. -/
import Derived.Test.YtloclimoffhbhaaDoorNum
import Derived.Test.YtloclimoffhbhaaDoorPFxx1
import Derived.Test.YtloclimoffhbhaaDoorPFxx6
namespace Go.Proofs.YtloclimoffhbhaaDoor.Text
open Go Go.RowKit Go.Proofs.YtloclimoffhbhaaDoor.PFx Go.Proofs.YtloclimoffhbhaaDoorW.PrintWords Go.Proofs.YtloclimoffhbhaaDoorW.PrintLast Go.Proofs.YtloclimoffhbhaaDoorW.PrintMore Go.Proofs.YtloclimoffhbhaaDoor.Bits
set_option linter.unusedVariables false

/-- The pieces between the bytes c. -/
def sp (c : UInt8) : List UInt8 → List (List UInt8)
  | [] => [[]]
  | b :: l => if b = c then [] :: sp c l else match sp c l with
    | [] => [[b]]
    | h :: t => (b :: h) :: t
theorem sp_cons (c : UInt8) : ∀ s : List UInt8, ∃ h t, sp c s = h :: t
  | [] => ⟨_, _, rfl⟩
  | b :: l => by
    obtain ⟨h, t, e⟩ := sp_cons c l
    rw [sp, e]
    by_cases d : b = c
    · rw [if_pos d]; exact ⟨_, _, rfl⟩
    · rw [if_neg d]; exact ⟨_, _, rfl⟩
theorem sp_le (c : UInt8) : ∀ (s : List UInt8) (x : List UInt8), x ∈ sp c s → x.length ≤ s.length
  | [], x, h => by simp [sp] at h; subst h; simp
  | b :: l, x, hx => by
    obtain ⟨h, t, e⟩ := sp_cons c l
    have ih := sp_le c l
    rw [sp, e] at hx
    rw [e] at ih
    by_cases d : b = c
    · rw [if_pos d] at hx
      rcases List.mem_cons.1 hx with r | r
      · subst r; simp
      · have := ih x r; simp; omega
    · rw [if_neg d] at hx
      rcases List.mem_cons.1 hx with r | r
      · subst r
        have := ih h (List.mem_cons_self ..)
        simp; omega
      · have := ih x (List.mem_cons_of_mem _ r); simp; omega
theorem splitK_sp (c : UInt8) : ∀ s : List UInt8, Lib.splitK [c] 0 (s.count c) s = sp c s
  | [] => rfl
  | b :: l => by
    have ih := splitK_sp c l
    by_cases d : b = c
    · subst d
      have hi : Lib.index (b :: l) [b] = 0 := by rw [Lib.index_one, Lib.indexByte, if_pos (beq_self_eq_true b)]
      rw [sp, if_pos rfl, List.count_cons_self, Lib.splitK, hi, if_neg (by decide), ← ih]
      rfl
    · have hc : (b :: l).count c = l.count c := by rw [List.count_cons_of_ne (by simpa using d)]
      rw [sp, if_neg d, hc]
      cases hn : l.count c with
      | zero =>
        rw [hn] at ih
        have e : sp c l = [l] := ih.symm
        rw [e]
        rfl
      | succ m =>
        rw [hn] at ih
        by_cases g : Lib.indexByte l c = -1
        · have hi : Lib.index (b :: l) [c] = -1 := by rw [Lib.index_one, Lib.indexByte, if_neg (by simpa using d), if_pos (beq_iff_eq.2 g)]
          rw [Lib.splitK, Lib.index_one, g, if_pos (by decide)] at ih
          rw [← ih, Lib.splitK, hi, if_pos (by decide)]
        · have hge := Lib.indexByte_ge l c
          have hi : Lib.index (b :: l) [c] = Lib.indexByte l c + 1 := by rw [Lib.index_one, Lib.indexByte, if_neg (by simpa using d), if_neg (by simpa using g)]
          rw [Lib.splitK, Lib.index_one, if_neg (by simpa using g)] at ih
          rw [← ih, Lib.splitK, hi, if_neg (by rw [beq_iff_eq]; omega)]
          have e : (Lib.indexByte l c + 1).toNat = (Lib.indexByte l c).toNat + 1 := by omega
          rw [e]
          rfl
theorem ext_one (s : ByteArray) (p : Nat) (h : p < s.size) : (s.extract p (p + 1)).data.toList = [s[p]] := by
  rw [ByteArray.data_extract, Array.toList_extract, List.extract_eq_take_drop, drop_at s p h, show p + 1 - p = 1 by omega]
  rfl
theorem split_go (s : ByteArray) (hs : s.size ≤ 300) (c : UInt8) (k : Nat) : ∀ (d p : Nat) (acc : List ByteArray) (cur : ByteArray), p + d = s.size → acc.length ≤ p → cur.size ≤ p →
    ∃ r, crossbuckref02_Split.l0 (k + d + 1) s (c.toNat : Int) (acc ++ [cur]) p = some r ∧
      ∀ h t, sp c (s.data.toList.drop p) = h :: t → r.map (·.data.toList) = acc.map (·.data.toList) ++ (cur.data.toList ++ h) :: t := by
  intro d
  induction d with
  | zero =>
    intro p acc cur h ha hc
    refine ⟨acc ++ [cur], by rw [crossbuckref02_Split.l0, if_neg (by omega)], ?_⟩
    intro h' t' e
    rw [drop_end s p (by omega)] at e
    simp only [sp, List.cons.injEq] at e
    obtain ⟨rfl, rfl⟩ := e
    simp
  | succ d ih =>
    intro p acc cur h ha hc
    have hp : p < s.size := by omega
    have c1 : (p : Int) < (s.size : Int) := by omega
    have c0 : (0 : Int) ≤ (p : Int) := by omega
    have c5 : (p : Int) ≤ ((p + 1 : Nat) : Int) := by omega
    have c6 : ((p + 1 : Nat) : Int) ≤ (s.size : Int) := by omega
    have hlen : (acc ++ [cur]).length = acc.length + 1 := by simp
    have c2 : (acc ++ [cur]).length < 8796093022208 := by omega
    have c3 : (0 : Int) ≤ ((acc.length : Nat) : Int) := by omega
    have c4 : ((acc.length : Nat) : Int) < ((acc ++ [cur]).length : Int) := by omega
    have hx := ext_one s p hp
    have hxs : (s.extract p (p + 1)).size = 1 := by
      have : (s.extract p (p + 1)).size = (s.extract p (p + 1)).data.toList.length := rfl
      rw [this, hx]; rfl
    have c7 : cur.size + (s.extract p (p + 1)).size ≤ 9223372036854775807 := by omega
    have ew : wrap64 (((acc ++ [cur]).length : Int) - 1) = ((acc.length : Nat) : Int) := by rw [hlen, wrap64_id _ (by omega) (by omega)]; omega
    have hr : rdOf ByteArray.empty (acc ++ [cur]) ((acc.length : Nat) : Int) = cur := by simp [rdOf]
    have hset : (acc ++ [cur]).set acc.length (cur ++ s.extract p (p + 1)) = acc ++ [cur ++ s.extract p (p + 1)] := by simp
    have e1 : acc.length + 1 ≤ p + 1 := by omega
    have e2 : (⟨#[]⟩ : ByteArray).size ≤ p + 1 := Nat.zero_le _
    have e3 : (cur ++ s.extract p (p + 1)).size ≤ p + 1 := by rw [ByteArray.size_append, hxs]; omega
    have e4 : acc.length ≤ p + 1 := by omega
    have ew2 := w64n (n := p) (by clear ew; omega)
    obtain ⟨h1, t1, hsp⟩ := sp_cons c (s.data.toList.drop (p + 1))
    rw [show k + (d + 1) + 1 = (k + d + 1) + 1 from rfl, crossbuckref02_Split.l0, if_pos c1, if_pos c0, bt_eq s p hp, drop_at s p hp, ew2]
    by_cases e : s[p] = c
    · obtain ⟨r, hr1, hr2⟩ := ih (p + 1) (acc ++ [cur]) ⟨#[]⟩ (by clear ew ew2; omega) (by rw [hlen]; exact e1) e2
      refine ⟨r, by rw [if_pos (by rw [e]), if_pos c2]; exact hr1, ?_⟩
      intro h' t' es
      rw [sp, if_pos e, hsp] at es
      obtain ⟨rfl, rfl⟩ := List.cons.inj es
      rw [hr2 h1 t1 hsp]
      simp
    · obtain ⟨r, hr1, hr2⟩ := ih (p + 1) acc (cur ++ s.extract p (p + 1)) (by clear ew ew2; omega) e4 e3
      have e' : ¬ ((s[p].toNat : Int) = (c.toNat : Int)) := fun h => e (UInt8.toNat_inj.1 (by clear ew ew2; omega))
      refine ⟨r, ?_, ?_⟩
      · rw [if_neg e', ew, if_pos c3, if_pos c4, if_pos c5, if_pos c6, hr, Int.toNat_natCast, Int.toNat_natCast, if_pos c7, Int.toNat_natCast, hset]
        exact hr1
      · intro h' t' es
        rw [sp, if_neg e, hsp] at es
        obtain ⟨rfl, rfl⟩ := List.cons.inj es
        rw [hr2 h1 t1 hsp, ByteArray.data_append, Array.toList_append, hx]
        simp
theorem map_inj : ∀ (a b : List ByteArray), a.map (·.data.toList) = b.map (·.data.toList) → a = b
  | [], [], _ => rfl
  | [], _ :: _, h => by simp at h
  | _ :: _, [], h => by simp at h
  | x :: a, y :: b, h => by
    simp only [List.map_cons, List.cons.injEq] at h
    have e : x = y := by apply ByteArray.ext; exact Array.toList_inj.mp h.1
    rw [e, map_inj a b h.2]
/-- Both splits at once. -/
theorem split_both (s : ByteArray) (hs : s.size ≤ 300) (c : UInt8) (k : Nat) :
    ∃ l, strings_Split.f s ⟨#[c]⟩ = some l ∧ crossbuckref02_Split.f (k + 301) s (c.toNat : Int) = some l ∧ ∀ x ∈ l, x.size ≤ 300 := by
  obtain ⟨r, h1, h2⟩ := split_go s hs c (k + 300 - s.size) s.size 0 [] ⟨#[]⟩ (by omega) (Nat.zero_le _) (Nat.le_refl 0)
  rw [show k + 300 - s.size + s.size + 1 = k + 301 by omega] at h1
  obtain ⟨h, t, e⟩ := sp_cons c s.data.toList
  have h3 := h2 h t (by rw [List.drop_zero]; exact e)
  have h4 : r.map (·.data.toList) = sp c s.data.toList := by rw [h3, e]; simp
  refine ⟨r, ?_, h1, ?_⟩
  · unfold strings_Split.f
    rw [if_pos ⟨by omega, by simp [ByteArray.size]⟩]
    congr 1
    apply map_inj
    rw [Lib.splitB_data, h4, ← splitK_sp c s.data.toList]
    unfold Lib.countB
    rw [show (⟨#[c]⟩ : ByteArray).data.toList = [c] from rfl, Lib.count_one]
  · intro x hx
    have := sp_le c s.data.toList x.data.toList (by rw [← h4]; exact List.mem_map.2 ⟨x, hx, rfl⟩)
    have e1 : x.data.toList.length = x.size := by simp
    have e2 : s.data.toList.length = s.size := by simp
    omega

/-! ### Addresses -/
theorem or_add {v n : Int} (v0 : 0 ≤ v) (v1 : v < 4294967296) (n0 : 0 ≤ n) (n1 : n ≤ 255) :
    Go.bits .or .u32 ((v * 256) % 4294967296) (n % 4294967296) = ((v * 256) % 4294967296 + n % 4294967296) % 4294967296 ∧ 0 ≤ ((v * 256) % 4294967296 + n % 4294967296) % 4294967296 ∧ ((v * 256) % 4294967296 + n % 4294967296) % 4294967296 < 4294967296 := by
  have a0 : 0 ≤ (v * 256) % 4294967296 := by omega
  have a1 : (v * 256) % 4294967296 < 4294967296 := by omega
  have a2 : (v * 256) % 4294967296 % 256 = 0 := by omega
  have en : n % 4294967296 = n := by omega
  rw [en]
  generalize (v * 256) % 4294967296 = a at a0 a1 a2 ⊢
  have := bits_join .u32 32 (by decide) wraps_u32 8 a n a0 a2 a1 n0 (by omega) (by omega)
  rw [this]
  omega
theorem addr_go (l : List ByteArray) (hl : l.length = 4) (hsz : ∀ x ∈ l, x.size ≤ 300) (K : Nat) : ∀ (d i : Nat) (v : Int), i + d = 4 → 0 ≤ v → v < 4294967296 →
    ∃ r, hdr_ParseAddr.l0 (K + d + 1) v l 4 i = some r ∧ crossbuckref02_ParseAddr.l0 (K + d + 1 + 700) l v i = some r ∧ (r.2 = 0 → 0 ≤ r.1 ∧ r.1 < 4294967296) := by
  intro d
  induction d with
  | zero =>
    intro i v h v0 v1
    exact ⟨(v, 0), by rw [hdr_ParseAddr.l0, if_neg (by omega)], by rw [show K + 0 + 1 + 700 = (K + 700) + 1 by omega, crossbuckref02_ParseAddr.l0, if_neg (by omega)], fun _ => ⟨v0, v1⟩⟩
  | succ d ih =>
    intro i v h v0 v1
    have hi : i < l.length := by omega
    have c1 : (i : Int) < 4 := by omega
    have c0 : (0 : Int) ≤ (i : Int) := by omega
    have c2 : (i : Int) < (l.length : Int) := by omega
    have hr : rdOf ByteArray.empty l (i : Int) = l[i] := by simp [rdOf, hi]
    have hm := hsz l[i] (List.getElem_mem hi)
    have ew := w64n (n := i) (by omega)
    rcases hn : hdr_Number.f l[i] 255 with _ | n
    · unfold hdr_Number.f at hn; cases hn
    have hn2 := number_eq l[i] hm 255 (K + d + 1)
    rw [hn] at hn2
    by_cases e : n.2 = 0
    · have hrg := number_range (by decide) (by decide) hn e
      obtain ⟨f1, f2, f3⟩ := or_add v0 v1 hrg.1 hrg.2
      obtain ⟨r, g1, g2, g3⟩ := ih (i + 1) _ (by clear ew; omega) f2 f3
      refine ⟨r, ?_, ?_, g3⟩
      · rw [show K + (d + 1) + 1 = (K + d + 1) + 1 from rfl, hdr_ParseAddr.l0, if_pos c1, if_pos c0, if_pos c2, hr, hn, Option.bind_some, if_pos e, f1, ew]
        exact g1
      · rw [show K + (d + 1) + 1 + 700 = (K + d + 1 + 700) + 1 by clear ew; omega, crossbuckref02_ParseAddr.l0, if_pos c1, if_pos c0, if_pos c2, hr, hn2, Option.bind_some, if_pos e, ew]
        exact g2
    · refine ⟨(0, n.2), ?_, ?_, fun h => absurd h e⟩
      · rw [show K + (d + 1) + 1 = (K + d + 1) + 1 from rfl, hdr_ParseAddr.l0, if_pos c1, if_pos c0, if_pos c2, hr, hn, Option.bind_some, if_neg e]
      · rw [show K + (d + 1) + 1 + 700 = (K + d + 1 + 700) + 1 by clear ew; omega, crossbuckref02_ParseAddr.l0, if_pos c1, if_pos c0, if_pos c2, hr, hn2, Option.bind_some, if_neg e]
theorem addr_both (s : ByteArray) (hs : s.size ≤ 300) (K : Nat) :
    ∃ r, hdr_ParseAddr.f (K + 5) s = some r ∧ crossbuckref02_ParseAddr.f (K + 705) s = some r ∧ (r.2 = 0 → 0 ≤ r.1 ∧ r.1 < 4294967296) := by
  obtain ⟨l, h1, h2, h3⟩ := split_both s hs 46 (K + 404)
  unfold hdr_ParseAddr.f crossbuckref02_ParseAddr.f
  rw [show K + 404 + 301 = K + 705 by omega] at h2
  have e46 : ((46 : UInt8).toNat : Int) = 46 := rfl
  rw [e46] at h2
  rw [h1, h2, Option.bind_some, Option.bind_some]
  by_cases c : l.length = 4
  · obtain ⟨r, g1, g2, g3⟩ := addr_go l c h3 K 4 0 0 rfl (by decide) (by decide)
    refine ⟨r, ?_, ?_, g3⟩
    · rw [if_pos (by omega), c]; exact g1
    · rw [if_pos (by omega)]; exact g2
  · exact ⟨(0, 6), by rw [if_neg (by omega)], by rw [if_neg (by omega)], fun h => absurd h (by decide)⟩
end Go.Proofs.YtloclimoffhbhaaDoor.Text
