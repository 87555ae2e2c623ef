/- Filters as texts: written and read by the program as by the document; what is read is written as it was. No condition of its own. -/
import Derived.Test.YtloclimoffhbhaaDoorPre
import Derived.Test.YtloclimoffhbhaaDoorAwake04
import Derived.Test.YtloclimoffhbhaaDoorPFxx10
import Derived.Test.YtloclimoffhbhaaDoorPFxx3
import Derived.Test.YtloclimoffhbhaaDoorPFxx8
import Derived.Test.YtloclimoffhbhaaDoorPFxx9
namespace Go.Proofs.YtloclimoffhbhaaDoor.Pure
open Go Go.RowKit Go.Proofs.YtloclimoffhbhaaDoor.PFx Go.Proofs.YtloclimoffhbhaaDoorW.PrintWords Go.Proofs.YtloclimoffhbhaaDoorW.PrintLast Go.Proofs.YtloclimoffhbhaaDoorW.PrintMore Go.Proofs.YtloclimoffhbhaaDoor.Bits Go.Proofs.YtloclimoffhbhaaDoor.Text Go.Proofs.YtloclimoffhbhaaDoor.Dec Go.Proofs.YtloclimoffhbhaaDoor.Facts
set_option linter.unusedVariables false

/-- The word of a protocol. -/
def proW (p : Int) : List UInt8 := if p = -1 then [97, 110, 121] else D p.toNat
def fltT (a b c d : Nat) (p : Int) (e f g h : Nat) : List UInt8 := preT a b ++ 32 :: (preT c d ++ 32 :: (proW p ++ 32 :: (rngT e f ++ 32 :: rngT g h)))
theorem preT_len (x : Nat) {y : Nat} (h : y ≤ 65535) : (preT x y).length ≤ 29 := by
  have := addrT_len x
  have := D_len h
  simp [preT]
  omega
theorem rngT_len {x y : Nat} (h : x ≤ 65535) (g : y ≤ 65535) : (rngT x y).length ≤ 11 := by
  have := D_len h
  have := D_len g
  simp [rngT]
  omega
theorem proW_len {p : Int} (h : p ≤ 255) : (proW p).length ≤ 5 := by
  unfold proW
  by_cases c : p = -1
  · rw [if_pos c]; decide
  · rw [if_neg c]; exact D_len (by omega)
theorem preT_no (x y : Nat) : (32 : UInt8) ∉ preT x y := by
  unfold preT
  intro h
  have d : (32 : UInt8) ∉ D y := D_not y (by decide)
  have := addrT_no x
  simp [d, this] at h
theorem rngT_no (x y : Nat) : (32 : UInt8) ∉ rngT x y := by
  unfold rngT
  intro h
  have d : ∀ n, (32 : UInt8) ∉ D n := fun n => D_not n (by decide)
  simp [d] at h
theorem proW_no (p : Int) : (32 : UInt8) ∉ proW p := by
  unfold proW
  by_cases c : p = -1
  · rw [if_pos c]; decide
  · rw [if_neg c]; exact D_not _ (by decide)
theorem D_any (n : Nat) : D n ≠ [97, 110, 121] := by
  intro h
  have := D_mem n n (Nat.le_refl _) 97 (by rw [h]; simp)
  have e : (97 : UInt8).toNat = 97 := rfl
  rw [e] at this
  omega
theorem pre_print (k : Nat) {x y : Nat} (h : x < 4294967296) (hy : y ≤ 32) : cidr_Print.f (k + 5) x y = some (B (preT x y)) ∧ crossbuckref03_Print.f (k + 5) x y = some (B (preT x y)) :=
  prefix_print k x y h hy (addrT x) rfl (addrT_len x)
theorem pre_read (k : Nat) {x y : Nat} (h : x < 4294967296) (hy : y ≤ 32) (hr : rightB x y = true) : cidr_Parse.f (k + 5) (B (preT x y)) = some ((x : Int), (y : Int), 0) :=
  prefix_read k x y h hy hr (addrT x) rfl (addrT_len x)
theorem rng_print (k : Nat) {x y : Nat} (h : x ≤ 65535) (g : y ≤ 65535) : cidr_PrintRange.f x y = some (B (rngT x y)) ∧ crossbuckref03_PrintRange.f (k + 5) x y = some (B (rngT x y)) := by
  have := ranges_eq k x y h g
  rw [List.append_assoc] at this
  exact this
theorem rng_read {x y : Nat} (h : x ≤ 65535) (g : y ≤ 65535) (l : x ≤ y) : cidr_ParseRange.f (B (rngT x y)) = some ((x : Int), (y : Int), 0) := by
  have := range_read x y h g l
  rw [List.append_assoc] at this
  exact this
theorem flt_print (k : Nat) {a b c d e f g h : Nat} {p : Int} (ha : a < 4294967296) (hb : b ≤ 32) (hc : c < 4294967296) (hd : d ≤ 32) (p0 : -1 ≤ p) (p1 : p ≤ 255) (he : e ≤ 65535) (hf : f ≤ 65535) (hg : g ≤ 65535) (hh : h ≤ 65535) :
    filter_Print.f (k + 6) a b c d p e f g h = some (B (fltT a b c d p e f g h)) := by
  have l1 := preT_len a (y := b) (by omega)
  have l2 := preT_len c (y := d) (by omega)
  have l3 := proW_len p1
  have l4 := rngT_len he hf
  have l5 := rngT_len hg hh
  have hj : filter_Print.j0 (k + 6) (B (proW p)) a b c d p e f g h = some (B (fltT a b c d p e f g h)) := by
    rw [filter_Print.j0, (pre_print k ha hb).1, Option.bind_some, (pre_print k hc hd).1, Option.bind_some, (rng_print k he hf).1, Option.bind_some, (rng_print k hg hh).1, Option.bind_some]
    unfold strings_Join.f
    have e1 : Lib.join (List.map (fun z : ByteArray => z.data.toList) [B (preT a b), B (preT c d), B (proW p), B (rngT e f), B (rngT g h)]) (⟨#[32]⟩ : ByteArray).data.toList = fltT a b c d p e f g h := join_five _ _ _ _ _
    rw [e1, if_pos ⟨by simp only [fltT, List.length_append, List.length_cons]; omega, by simp⟩]
    rfl
  unfold filter_Print.f
  by_cases q : p = -1
  · rw [if_pos q]
    rw [show proW p = [97, 110, 121] from if_pos q] at hj
    exact hj
  · obtain ⟨m, rfl⟩ := Int.eq_ofNat_of_zero_le (show 0 ≤ p by omega)
    rw [show proW (m : Int) = D m by rw [proW, if_neg q, Int.toNat_natCast]] at hj
    rw [if_neg q, itoa_eq m (by omega), Option.bind_some]
    exact hj
theorem flt_ref (k : Nat) {a b c d e f g h : Nat} {p : Int} (ha : a < 4294967296) (hb : b ≤ 32) (hc : c < 4294967296) (hd : d ≤ 32) (p0 : -1 ≤ p) (p1 : p ≤ 255) (he : e ≤ 65535) (hf : f ≤ 65535) (hg : g ≤ 65535) (hh : h ≤ 65535) :
    crossbuckref04_Print.f (k + 6) a b c d p e f g h = some (B (fltT a b c d p e f g h)) := by
  have l1 := preT_len a (y := b) (by omega)
  have l2 := preT_len c (y := d) (by omega)
  have l3 := proW_len p1
  have l4 := rngT_len he hf
  have l5 := rngT_len hg hh
  have z : ([32] : List UInt8).length = 1 := rfl
  have B_32 : (⟨#[32]⟩ : ByteArray) = B [32] := rfl
  have hj : crossbuckref04_Print.j0 (k + 6) (B (proW p)) a b c d p e f g h = some (B (fltT a b c d p e f g h)) := by
    rw [crossbuckref04_Print.j0, (pre_print k ha hb).2, (pre_print k hc hd).2, (rng_print k he hf).2, (rng_print k hg hh).2]
    simp only [Option.bind_some, B_32, B_add]
    rw [if_pos (by simp only [B_size]; omega), if_pos (by simp only [B_size, List.length_append]; omega), if_pos (by simp only [B_size, List.length_append]; omega), if_pos (by simp only [B_size, List.length_append]; omega), if_pos (by simp only [B_size, List.length_append]; omega), if_pos (by simp only [B_size, List.length_append]; omega), if_pos (by simp only [B_size, List.length_append]; omega), if_pos (by simp only [B_size, List.length_append]; omega)]
    simp [fltT]
  unfold crossbuckref04_Print.f
  by_cases q : p = -1
  · rw [if_neg (by omega)]
    rw [show proW p = [97, 110, 121] from if_pos q] at hj
    exact hj
  · obtain ⟨m, rfl⟩ := Int.eq_ofNat_of_zero_le (show 0 ≤ p by omega)
    rw [show proW (m : Int) = D m by rw [proW, if_neg q, Int.toNat_natCast]] at hj
    rw [if_pos (by omega), digits_eq (k + 1) m (by omega), Option.bind_some]
    exact hj
theorem flt_split {a b c d e f g h : Nat} {p : Int} (hb : b ≤ 32) (hd : d ≤ 32) (p1 : p ≤ 255) (he : e ≤ 65535) (hf : f ≤ 65535) (hg : g ≤ 65535) (hh : h ≤ 65535) :
    strings_Split.f (B (fltT a b c d p e f g h)) ⟨#[32]⟩ = some [B (preT a b), B (preT c d), B (proW p), B (rngT e f), B (rngT g h)] := by
  have l1 := preT_len a (y := b) (by omega)
  have l2 := preT_len c (y := d) (by omega)
  have l3 := proW_len p1
  have l4 := rngT_len he hf
  have l5 := rngT_len hg hh
  refine (split_of (ps := [preT a b, preT c d, proW p, rngT e f, rngT g h]) (by rw [B_size]; simp only [fltT, List.length_append, List.length_cons]; omega) ?_).trans rfl
  rw [B_data]
  unfold fltT
  rw [sp_mid 32 _ _ (preT_no a b), sp_mid 32 _ _ (preT_no c d), sp_mid 32 _ _ (proW_no p), sp_mid 32 _ _ (rngT_no e f), sp_none 32 _ (rngT_no g h)]
theorem toList_B (l : List UInt8) : (B l).toList = l := by rw [ByteArray.toList_eq]; rfl
theorem flt_read (k : Nat) {a b c d e f g h : Nat} {p : Int} (ha : a < 4294967296) (hb : b ≤ 32) (hc : c < 4294967296) (hd : d ≤ 32) (p0 : -1 ≤ p) (p1 : p ≤ 255) (he : e ≤ 65535) (hf : f ≤ 65535) (hg : g ≤ 65535) (hh : h ≤ 65535)
    (r1 : rightB a b = true) (r2 : rightB c d = true) (l1 : e ≤ f) (l2 : g ≤ h) :
    filter_Parse.f (k + 5) (B (fltT a b c d p e f g h)) = some ((a : Int), (b : Int), (c : Int), (d : Int), p, (e : Int), (f : Int), (g : Int), (h : Int), 0) := by
  have hE : ∀ q : Int, fiveEnd (B (rngT e f)) (B (rngT g h)) ((a : Int), (b : Int), 0) ((c : Int), (d : Int), 0) (q, 0) = some ((a : Int), (b : Int), (c : Int), (d : Int), q, (e : Int), (f : Int), (g : Int), (h : Int), 0) := by
    intro q
    unfold fiveEnd
    rw [rng_read he hf l1, Option.bind_some, rng_read hg hh l2]
    rfl
  rw [fparse_five (k + 4) (flt_split hb hd p1 he hf hg hh), pre_read k ha hb r1, Option.bind_some, pre_read k hc hd r2, Option.bind_some, toList_B]
  by_cases q : p = -1
  · rw [if_pos (show proW p = [97, 110, 121] from if_pos q), hE, q]
  · obtain ⟨m, rfl⟩ := Int.eq_ofNat_of_zero_le (show 0 ≤ p by omega)
    rw [show proW (m : Int) = D m by rw [proW, if_neg q, Int.toNat_natCast], if_neg (D_any m), num_read m (by omega) 255 (by omega), Option.bind_some, hE]

/-! ### Any text, read by both -/
def refEnd (k : Nat) (w3 w4 : ByteArray) (x0 x1 : Int × Int × Int) (p : Int) : Option (Int × Int × Int × Int × Int × Int × Int × Int × Int × Int) :=
  (crossbuckref03_ParseRange.f k w3).bind fun y => if y.2.2 = 0 then (crossbuckref03_ParseRange.f k w4).bind fun z => if z.2.2 = 0 then some (x0.1, x0.2.1, x1.1, x1.2.1, p, y.1, y.2.1, z.1, z.2.1, 0) else some (0, 0, 0, 0, 0, 0, 0, 0, 0, z.2.2) else some (0, 0, 0, 0, 0, 0, 0, 0, 0, y.2.2)
theorem rparse_five (k : Nat) {s w0 w1 w2 w3 w4 : ByteArray} (h : crossbuckref02_Split.f (k + 1) s 32 = some [w0, w1, w2, w3, w4]) : crossbuckref04_Parse.f (k + 1) s =
    (crossbuckref03_Parse.f (k + 1) w0).bind fun x0 => if x0.2.2 = 0 then (crossbuckref03_Parse.f (k + 1) w1).bind fun x1 => if x1.2.2 = 0 then
      (if w2.toList = ([97, 110, 121] : List UInt8) then refEnd k w3 w4 x0 x1 (-1) else (crossbuckref02_Number.f (k + 1) w2 255).bind fun n => if n.2 = 0 then refEnd k w3 w4 x0 x1 n.1 else some (0, 0, 0, 0, 0, 0, 0, 0, 0, n.2)) else some (0, 0, 0, 0, 0, 0, 0, 0, 0, x1.2.2) else some (0, 0, 0, 0, 0, 0, 0, 0, 0, x0.2.2) := by
  unfold crossbuckref04_Parse.f
  rw [h]
  rfl
theorem fparse_both {s : ByteArray} (hs : s.size ≤ 300) (K : Nat) : ∃ r, filter_Parse.f (K + 706) s = some r ∧ crossbuckref04_Parse.f (K + 706) s = some r ∧ (r.2.2.2.2.2.2.2.2.2 = 0 → filter_Print.f (K + 706) r.1 r.2.1 r.2.2.1 r.2.2.2.1 r.2.2.2.2.1 r.2.2.2.2.2.1 r.2.2.2.2.2.2.1 r.2.2.2.2.2.2.2.1 r.2.2.2.2.2.2.2.2.1 = some s) := by
  obtain ⟨l, h1, h2, h3⟩ := split_both s hs 32 (K + 405)
  have e32 : ((32 : UInt8).toNat : Int) = 32 := rfl
  rw [e32, show K + 405 + 301 = K + 706 by omega] at h2
  have hm := split_sp hs h1
  by_cases c : l.length = 5
  · match l, c, h1, h2, h3, hm with
    | [w0, w1, w2, w3, w4], _, h1, h2, h3, hm =>
      have hj := join_sp 32 s.data.toList
      rw [← hm] at hj
      have z0 : w0.size ≤ 300 := h3 w0 (by simp)
      have z1 : w1.size ≤ 300 := h3 w1 (by simp)
      have z2 : w2.size ≤ 300 := h3 w2 (by simp)
      have z3 : w3.size ≤ 300 := h3 w3 (by simp)
      have z4 : w4.size ≤ 300 := h3 w4 (by simp)
      clear h3 hm
      rw [fparse_five (K + 705) h1, rparse_five (K + 705) h2]
      clear h1 h2
      obtain ⟨⟨a, b, e0⟩, a1, a2⟩ := parse_both w0 z0 (K + 1)
      obtain ⟨⟨c, d, e1⟩, b1, b2⟩ := parse_both w1 z1 (K + 1)
      obtain ⟨⟨e, f, e3⟩, c1, c2⟩ := range_both w3 z3 K
      obtain ⟨⟨g, h, e4⟩, d1, d2⟩ := range_both w4 z4 K
      rw [show K + 1 + 705 = K + 705 + 1 by omega] at a1 a2 b1 b2
      rw [a1, a2, b1, b2]
      simp only [Option.bind_some]
      have hE : ∀ p e2, fiveEnd w3 w4 (a, b, e0) (c, d, e1) (p, e2) = if e0 = 0 then (if e1 = 0 then (if e2 = 0 then (if e3 = 0 then (if e4 = 0 then some (a, b, c, d, p, e, f, g, h, 0) else some (0, 0, 0, 0, 0, 0, 0, 0, 0, e4)) else some (0, 0, 0, 0, 0, 0, 0, 0, 0, e3)) else some (0, 0, 0, 0, 0, 0, 0, 0, 0, e2)) else some (0, 0, 0, 0, 0, 0, 0, 0, 0, e1)) else some (0, 0, 0, 0, 0, 0, 0, 0, 0, e0) := by
        intro p e2
        unfold fiveEnd
        rw [c1, Option.bind_some, d1]
        rfl
      have hR : ∀ p, refEnd (K + 705) w3 w4 (a, b, e0) (c, d, e1) p = if e3 = 0 then (if e4 = 0 then some (a, b, c, d, p, e, f, g, h, 0) else some (0, 0, 0, 0, 0, 0, 0, 0, 0, e4)) else some (0, 0, 0, 0, 0, 0, 0, 0, 0, e3) := by
        intro p
        unfold refEnd
        rw [c2, Option.bind_some]
        by_cases q : e3 = 0
        · rw [if_pos q, if_pos q, d2]; rfl
        · rw [if_neg q, if_neg q]
      simp only [hE, hR]
      clear hE hR
      have hn := number_eq w2 z2 255 (K + 6)
      rw [show K + 6 + 700 = K + 705 + 1 by omega] at hn
      rw [hn]
      clear hn
      by_cases q0 : e0 = 0
      case neg =>
        rcases hv : hdr_Number.f w2 255 with _ | n
        · unfold hdr_Number.f at hv; cases hv
        simp only [if_neg q0, Option.bind_some, ite_self]
        exact ⟨_, rfl, rfl, fun h => absurd h q0⟩
      subst q0
      by_cases q1 : e1 = 0
      case neg =>
        rcases hv : hdr_Number.f w2 255 with _ | n
        · unfold hdr_Number.f at hv; cases hv
        simp only [if_neg q1, Option.bind_some, ite_self, if_true]
        exact ⟨_, rfl, rfl, fun h => absurd h q1⟩
      subst q1
      simp only [if_true]
      -- what the word of the protocol tells
      have hP : ∃ p e2, (∀ F : Int × Int → Option (Int × Int × Int × Int × Int × Int × Int × Int × Int × Int), (if w2.toList = ([97, 110, 121] : List UInt8) then F (-1, 0) else (hdr_Number.f w2 255).bind F) = F (p, e2)) ∧ (e2 = 0 → -1 ≤ p ∧ p ≤ 255 ∧ w2 = B (proW p)) := by
        by_cases q : w2.toList = ([97, 110, 121] : List UInt8)
        · refine ⟨-1, 0, fun F => by rw [if_pos q], fun _ => ⟨by decide, by decide, ?_⟩⟩
          rw [ByteArray.toList_eq] at q
          exact B_of q
        · rcases hv : hdr_Number.f w2 255 with _ | ⟨n, e2⟩
          · unfold hdr_Number.f at hv; cases hv
          refine ⟨n, e2, fun F => by rw [if_neg q]; rfl, fun h => ?_⟩
          subst h
          obtain ⟨m, rfl, lm, rfl⟩ := num_text (by decide) (by decide) hv
          refine ⟨by omega, by omega, ?_⟩
          rw [proW, if_neg (by omega), Int.toNat_natCast]
      obtain ⟨p, e2, hp1, hp2⟩ := hP
      have g1 := hp1 (fun n => if n.2 = 0 then (if e3 = 0 then (if e4 = 0 then some (a, b, c, d, n.1, e, f, g, h, 0) else some (0, 0, 0, 0, 0, 0, 0, 0, 0, e4)) else some (0, 0, 0, 0, 0, 0, 0, 0, 0, e3)) else some (0, 0, 0, 0, 0, 0, 0, 0, 0, n.2))
      simp only [if_true] at g1
      rw [g1]
      clear g1 hp1
      by_cases q2 : e2 = 0
      case neg =>
        simp only [if_neg q2]
        exact ⟨_, rfl, rfl, fun h => absurd h q2⟩
      obtain ⟨p0, p1, pw⟩ := hp2 q2
      rw [if_pos q2]
      by_cases q3 : e3 = 0
      case neg =>
        simp only [if_neg q3]
        exact ⟨_, rfl, rfl, fun h => absurd h q3⟩
      subst q3
      by_cases q4 : e4 = 0
      case neg =>
        simp only [if_neg q4, if_true]
        exact ⟨_, rfl, rfl, fun h => absurd h q4⟩
      subst q4
      simp only [if_true]
      refine ⟨_, rfl, rfl, fun _ => ?_⟩
      obtain ⟨x0, y0, rfl, rfl, k1, k2, k3, rfl⟩ := cidr_text z0 (K := K + 701) a1
      obtain ⟨x1, y1, rfl, rfl, m1, m2, m3, rfl⟩ := cidr_text z1 (K := K + 701) b1
      obtain ⟨x3, y3, rfl, rfl, n1, n2, rfl⟩ := range_text c1
      obtain ⟨x4, y4, rfl, rfl, o1, o2, rfl⟩ := range_text d1
      subst pw
      have es : s = B (fltT x0 y0 x1 y1 p x3 y3 x4 y4) := by
        apply B_of
        rw [← hj]
        exact join_five _ _ _ _ _
      rw [es]
      exact flt_print (K + 700) k1 k2 m1 m2 p0 p1 (by omega) n2 (by omega) o2
  · refine ⟨(0, 0, 0, 0, 0, 0, 0, 0, 0, 6), ?_, ?_, fun h => absurd h (by decide)⟩
    · unfold filter_Parse.f
      rw [h1, Option.bind_some, if_neg (by omega)]
    · unfold crossbuckref04_Parse.f
      rw [h2, Option.bind_some, if_neg (by omega)]
end Go.Proofs.YtloclimoffhbhaaDoor.Pure
