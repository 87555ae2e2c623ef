/- Filters as texts: printed by the program, by the document, and read. No condition of its own. -/
import Derived.Test.YtloclimoffhbhaaDoorChg
import Derived.Test.YtloclimoffhbhaaDoorPStox4
import Derived.Test.YtloclimoffhbhaaDoorPStox5
import Derived.Test.YtloclimoffhbhaaDoorPStox7
import Derived.Test.YtloclimoffhbhaaDoorPStox8
import Derived.Test.YtloclimoffhbhaaDoorPStox9
namespace Go.Proofs.YtloclimoffhbhaaDoor.Scr
open Go Go.RowKit Go.Proofs.YtloclimoffhbhaaDoor.PSto Go.Proofs.YtloclimoffhbhaaDoorW.PrintWords Go.Proofs.YtloclimoffhbhaaDoorW.PrintLast Go.Proofs.YtloclimoffhbhaaDoorW.PrintMore Go.Proofs.YtloclimoffhbhaaDoor.Bits Go.Proofs.YtloclimoffhbhaaDoor.Facts
set_option linter.unusedVariables false
set_option linter.unusedSimpArgs false
/-- What is read of the two ranges, and which of the five is wrong first. -/
def fiveEnd (w3 w4 : ByteArray) (x0 x1 : Int × Int × Int) (n : Int × Int) : Option (Int × Int × Int × Int × Int × Int × Int × Int × Int × Int) :=
  (cidr_ParseRange.f w3).bind fun y => (cidr_ParseRange.f w4).bind fun z =>
    if x0.2.2 = 0 then (if x1.2.2 = 0 then (if n.2 = 0 then (if y.2.2 = 0 then (if z.2.2 = 0 then some (x0.1, x0.2.1, x1.1, x1.2.1, n.1, y.1, y.2.1, z.1, z.2.1, 0) else some (0, 0, 0, 0, 0, 0, 0, 0, 0, z.2.2)) else some (0, 0, 0, 0, 0, 0, 0, 0, 0, y.2.2)) else some (0, 0, 0, 0, 0, 0, 0, 0, 0, n.2)) else some (0, 0, 0, 0, 0, 0, 0, 0, 0, x1.2.2)) else some (0, 0, 0, 0, 0, 0, 0, 0, 0, x0.2.2)
theorem fparse_five (k : Nat) {s w0 w1 w2 w3 w4 : ByteArray} (h : strings_Split.f s ⟨#[32]⟩ = some [w0, w1, w2, w3, w4]) : filter_Parse.f (k + 1) s =
    (cidr_Parse.f (k + 1) w0).bind fun x0 => (cidr_Parse.f (k + 1) w1).bind fun x1 => if w2.toList = ([97, 110, 121] : List UInt8) then fiveEnd w3 w4 x0 x1 (-1, 0) else (hdr_Number.f w2 255).bind fun n => fiveEnd w3 w4 x0 x1 n := by
  unfold filter_Parse.f
  rw [h]
  rfl
theorem join_five (a b c d e : List UInt8) : Lib.join [a, b, c, d, e] [32] = a ++ 32 :: (b ++ 32 :: (c ++ 32 :: (d ++ 32 :: e))) := by
  rw [Lib.join_cons]
  simp [Lib.joinTail]
theorem ranges_eq (k a b : Nat) (ha : a ≤ 65535) (hb : b ≤ 65535) : cidr_PrintRange.f a b = some (B (D a ++ [45] ++ D b)) ∧ crossbuckref03_PrintRange.f (k + 5) a b = some (B (D a ++ [45] ++ D b)) := by
  have la := D_len ha
  have lb := D_len hb
  unfold cidr_PrintRange.f crossbuckref03_PrintRange.f
  have wa : wrap64 (a : Int) = a := wrap64_id _ (by omega) (by omega)
  have wb : wrap64 (b : Int) = b := wrap64_id _ (by omega) (by omega)
  have s1 : (B (D a)).size + 1 ≤ 9223372036854775807 := by rw [B_size]; clear wa wb; omega
  have s2 : (B (D a ++ [45])).size + (B (D b)).size ≤ 9223372036854775807 := by rw [B_size, B_size, List.length_append, List.length_singleton]; clear wa wb; omega
  rw [wa, wb, itoa_eq a ha, itoa_eq b hb, digits_eq k a ha, digits_eq k b hb]
  simp only [Option.bind_some]
  rw [if_pos s1, B_45, B_add, if_pos s2, B_add]
  exact ⟨rfl, rfl⟩
theorem range_read (a b : Nat) (ha : a ≤ 65535) (hb : b ≤ 65535) (h : a ≤ b) : cidr_ParseRange.f (B (D a ++ [45] ++ D b)) = some ((a : Int), (b : Int), 0) := by
  have la := D_len ha
  have lb := D_len hb
  unfold cidr_ParseRange.f
  rw [show D a ++ [45] ++ D b = D a ++ 45 :: D b by simp, cut_mid 45 _ _ (D_not a (by decide)) (by rw [List.length_append, List.length_cons]; omega), Option.bind_some, if_pos rfl,
    num_read a ha 65535 (by omega), Option.bind_some, if_pos rfl, num_read b hb 65535 (by omega), Option.bind_some, if_pos rfl, if_neg (by simp only []; omega), wrap_u16, wrap_u16, Int.emod_eq_of_lt (by omega) (by omega), Int.emod_eq_of_lt (by omega) (by omega)]
def rngT (x y : Nat) : List UInt8 := D x ++ 45 :: D y
/-- The word of a protocol. -/
def proW (p : Int) : List UInt8 := if p = -1 then [97, 110, 121] else D p.toNat
def fltT (a b c d : Nat) (p : Int) (e f g h : Nat) : List UInt8 := preT a b ++ 32 :: (preT c d ++ 32 :: (proW p ++ 32 :: (rngT e f ++ 32 :: rngT g h)))
theorem rngT_len {x y : Nat} (h : x ≤ 65535) (g : y ≤ 65535) : (rngT x y).length ≤ 11 := by
  have := D_len h
  have := D_len g
  simp [rngT]
  omega
theorem proW_len {p : Int} (h : p ≤ 255) : (proW p).length ≤ 5 := by
  unfold proW
  by_cases c : p = -1
  · rw [if_pos c]; decide
  · rw [if_neg c]; exact D_len (by omega)
theorem rngT_no (x y : Nat) : (32 : UInt8) ∉ rngT x y := by
  unfold rngT
  intro h
  have d : ∀ n, (32 : UInt8) ∉ D n := fun n => D_not n (by decide)
  simp [d] at h
theorem proW_no (p : Int) : (32 : UInt8) ∉ proW p := by
  unfold proW
  by_cases c : p = -1
  · rw [if_pos c]; decide
  · rw [if_neg c]; exact D_not _ (by decide)
theorem D_any (n : Nat) : D n ≠ [97, 110, 121] := by
  intro h
  have := D_mem n n (Nat.le_refl _) 97 (by rw [h]; simp)
  have e : (97 : UInt8).toNat = 97 := rfl
  rw [e] at this
  omega
theorem rng_print (k : Nat) {x y : Nat} (h : x ≤ 65535) (g : y ≤ 65535) : cidr_PrintRange.f x y = some (B (rngT x y)) ∧ crossbuckref03_PrintRange.f (k + 5) x y = some (B (rngT x y)) := by
  have := ranges_eq k x y h g
  rw [List.append_assoc] at this
  exact this
theorem rng_read {x y : Nat} (h : x ≤ 65535) (g : y ≤ 65535) (l : x ≤ y) : cidr_ParseRange.f (B (rngT x y)) = some ((x : Int), (y : Int), 0) := by
  have := range_read x y h g l
  rw [List.append_assoc] at this
  exact this
theorem flt_print (k : Nat) {a b c d e f g h : Nat} {p : Int} (ha : a < 4294967296) (hb : b ≤ 32) (hc : c < 4294967296) (hd : d ≤ 32) (p0 : -1 ≤ p) (p1 : p ≤ 255) (he : e ≤ 65535) (hf : f ≤ 65535) (hg : g ≤ 65535) (hh : h ≤ 65535) :
    filter_Print.f (k + 6) a b c d p e f g h = some (B (fltT a b c d p e f g h)) := by
  have l1 := preT_len a (y := b) (by omega)
  have l2 := preT_len c (y := d) (by omega)
  have l3 := proW_len p1
  have l4 := rngT_len he hf
  have l5 := rngT_len hg hh
  have hj : filter_Print.j0 (k + 6) (B (proW p)) a b c d p e f g h = some (B (fltT a b c d p e f g h)) := by
    rw [filter_Print.j0, (pre_print k ha hb).1, Option.bind_some, (pre_print k hc hd).1, Option.bind_some, (rng_print k he hf).1, Option.bind_some, (rng_print k hg hh).1, Option.bind_some]
    unfold strings_Join.f
    have e1 : Lib.join (List.map (fun z : ByteArray => z.data.toList) [B (preT a b), B (preT c d), B (proW p), B (rngT e f), B (rngT g h)]) (⟨#[32]⟩ : ByteArray).data.toList = fltT a b c d p e f g h := join_five _ _ _ _ _
    rw [e1, if_pos ⟨by simp only [fltT, List.length_append, List.length_cons]; omega, by simp⟩]
    rfl
  unfold filter_Print.f
  by_cases q : p = -1
  · rw [if_pos q]
    rw [show proW p = [97, 110, 121] from if_pos q] at hj
    exact hj
  · obtain ⟨m, rfl⟩ := Int.eq_ofNat_of_zero_le (show 0 ≤ p by omega)
    rw [show proW (m : Int) = D m by rw [proW, if_neg q, Int.toNat_natCast]] at hj
    rw [if_neg q, itoa_eq m (by omega), Option.bind_some]
    exact hj
theorem flt_ref (k : Nat) {a b c d e f g h : Nat} {p : Int} (ha : a < 4294967296) (hb : b ≤ 32) (hc : c < 4294967296) (hd : d ≤ 32) (p0 : -1 ≤ p) (p1 : p ≤ 255) (he : e ≤ 65535) (hf : f ≤ 65535) (hg : g ≤ 65535) (hh : h ≤ 65535) :
    crossbuckref04_Print.f (k + 6) a b c d p e f g h = some (B (fltT a b c d p e f g h)) := by
  have l1 := preT_len a (y := b) (by omega)
  have l2 := preT_len c (y := d) (by omega)
  have l3 := proW_len p1
  have l4 := rngT_len he hf
  have l5 := rngT_len hg hh
  have z : ([32] : List UInt8).length = 1 := rfl
  have B_32 : (⟨#[32]⟩ : ByteArray) = B [32] := rfl
  have hj : crossbuckref04_Print.j0 (k + 6) (B (proW p)) a b c d p e f g h = some (B (fltT a b c d p e f g h)) := by
    rw [crossbuckref04_Print.j0, (pre_print k ha hb).2, (pre_print k hc hd).2, (rng_print k he hf).2, (rng_print k hg hh).2]
    simp only [Option.bind_some, B_32, B_add]
    rw [if_pos (by simp only [B_size]; omega), if_pos (by simp only [B_size, List.length_append]; omega), if_pos (by simp only [B_size, List.length_append]; omega), if_pos (by simp only [B_size, List.length_append]; omega), if_pos (by simp only [B_size, List.length_append]; omega), if_pos (by simp only [B_size, List.length_append]; omega), if_pos (by simp only [B_size, List.length_append]; omega), if_pos (by simp only [B_size, List.length_append]; omega)]
    simp [fltT]
  unfold crossbuckref04_Print.f
  by_cases q : p = -1
  · rw [if_neg (by omega)]
    rw [show proW p = [97, 110, 121] from if_pos q] at hj
    exact hj
  · obtain ⟨m, rfl⟩ := Int.eq_ofNat_of_zero_le (show 0 ≤ p by omega)
    rw [show proW (m : Int) = D m by rw [proW, if_neg q, Int.toNat_natCast]] at hj
    rw [if_pos (by omega), digits_eq (k + 1) m (by omega), Option.bind_some]
    exact hj
theorem flt_split {a b c d e f g h : Nat} {p : Int} (hb : b ≤ 32) (hd : d ≤ 32) (p1 : p ≤ 255) (he : e ≤ 65535) (hf : f ≤ 65535) (hg : g ≤ 65535) (hh : h ≤ 65535) :
    strings_Split.f (B (fltT a b c d p e f g h)) ⟨#[32]⟩ = some [B (preT a b), B (preT c d), B (proW p), B (rngT e f), B (rngT g h)] := by
  have l1 := preT_len a (y := b) (by omega)
  have l2 := preT_len c (y := d) (by omega)
  have l3 := proW_len p1
  have l4 := rngT_len he hf
  have l5 := rngT_len hg hh
  refine (split_of (ps := [preT a b, preT c d, proW p, rngT e f, rngT g h]) (by rw [B_size]; simp only [fltT, List.length_append, List.length_cons]; omega) ?_).trans rfl
  rw [B_data]
  unfold fltT
  rw [sp_mid 32 _ _ (preT_no a b), sp_mid 32 _ _ (preT_no c d), sp_mid 32 _ _ (proW_no p), sp_mid 32 _ _ (rngT_no e f), sp_none 32 _ (rngT_no g h)]
theorem flt_read (k : Nat) {a b c d e f g h : Nat} {p : Int} (ha : a < 4294967296) (hb : b ≤ 32) (hc : c < 4294967296) (hd : d ≤ 32) (p0 : -1 ≤ p) (p1 : p ≤ 255) (he : e ≤ 65535) (hf : f ≤ 65535) (hg : g ≤ 65535) (hh : h ≤ 65535)
    (r1 : rightB a b = true) (r2 : rightB c d = true) (l1 : e ≤ f) (l2 : g ≤ h) :
    filter_Parse.f (k + 5) (B (fltT a b c d p e f g h)) = some ((a : Int), (b : Int), (c : Int), (d : Int), p, (e : Int), (f : Int), (g : Int), (h : Int), 0) := by
  have hE : ∀ q : Int, fiveEnd (B (rngT e f)) (B (rngT g h)) ((a : Int), (b : Int), 0) ((c : Int), (d : Int), 0) (q, 0) = some ((a : Int), (b : Int), (c : Int), (d : Int), q, (e : Int), (f : Int), (g : Int), (h : Int), 0) := by
    intro q
    unfold fiveEnd
    rw [rng_read he hf l1, Option.bind_some, rng_read hg hh l2]
    rfl
  rw [fparse_five (k + 4) (flt_split hb hd p1 he hf hg hh), pre_read k ha hb r1, Option.bind_some, pre_read k hc hd r2, Option.bind_some, toList_B]
  by_cases q : p = -1
  · rw [if_pos (show proW p = [97, 110, 121] from if_pos q), hE, q]
  · obtain ⟨m, rfl⟩ := Int.eq_ofNat_of_zero_le (show 0 ≤ p by omega)
    rw [show proW (m : Int) = D m by rw [proW, if_neg q, Int.toNat_natCast], if_neg (D_any m), num_read m (by omega) 255 (by omega), Option.bind_some, hE]
end Go.Proofs.YtloclimoffhbhaaDoor.Scr
