/- What the library's tables hold, as this seat's walks want it of a world, and how it stays; and the library's functions that cut, split, join and print, as the walks take them. No condition of its own. -/
import Derived.Test.YtloclimoffhbhaaDoorShelf
import Derived.Test.YtloclimoffhbhaaDoorV0
import Derived.Lib.SmallJoins
import Derived.Lib.AppendIntMem
import Derived.Lib.SplitLaws
import Derived.Lib.CountLaws
import Derived.Laws.RangeAny
import Derived.Lib.Hide
import Derived.Lib.OthersKept
namespace Go.Proofs.YtloclimoffhbhaaDoor.Hand
open Go Go.RowKit Go.Proofs.YtloclimoffhbhaaDoorW.PrintWords Go.Proofs.YtloclimoffhbhaaDoorW.PrintLast Go.Proofs.YtloclimoffhbhaaDoorW.PrintMore
/-- m: the cell of the longest search holds some number; i: the table of the powers of ten is the library's. -/
def Good (m i : Bool) (w : World) : Prop := (m = true → ∃ n, w.cell? ⟨1, 0, none⟩ = some (.int .i64 n)) ∧ (i = true → Lib.TabIs Tryd.prog w "internal/strconv.uint64pow10" .u64 Lib.pow10Tab)
theorem Good.below {m i : Bool} (m' i' : Bool) {w w' : World} (h : Good m i w) (hb : Below w.heap.size w w') (h1 : (!m' || m) = true) (h2 : (!i' || i) = true) : Good m' i' w' := by
  refine ⟨fun e => ?_, fun e => ?_⟩
  · subst e
    obtain ⟨n, hn⟩ := h.1 (by simpa using h1)
    exact ⟨n, pw_cell_below hb hn⟩
  · subst e
    exact Joins.tab_stays (by kernel_rfl : Tryd.prog.globalNamed "internal/strconv.uint64pow10" = some 2) (h.2 (by simpa using h2)) hb (Nat.le_refl _)

theorem ext_fact {a : ByteArray} {X s : Nat} {e : Int} (h : X + (a.extract s e.toNat).size ≤ 9223372036854775807) (he : e ≤ (a.size : Int)) : ¬ 9223372036854775807 < X + (e.toNat - s) := by
  rw [ByteArray.size_extract, Nat.min_eq_left (Int.toNat_le.2 he)] at h
  omega
theorem lit_size (l : List UInt8) : (ByteArray.mk l.toArray).size = l.length := by simp [ByteArray.size]

theorem cut_calls (a0 a1 : ByteArray) (w : World) (hG : Good true false w) (hs : a0.size < 4294967281) :
    Calls Tryd.prog 80 #[.string a0, .string a1] w fun e w' => e = .returned (.tuple #[.string ⟨(Lib.cut a0.data.toList a1.data.toList).1.toArray⟩, .string ⟨(Lib.cut a0.data.toList a1.data.toList).2.1.toArray⟩, .bool (Lib.cut a0.data.toList a1.data.toList).2.2]) ∧ Below w.heap.size w w' := by
  obtain ⟨m, hm⟩ := hG.1 rfl
  refine (Tryd.strings_Cut a0 a1 m w hs hm).mono ?_
  rintro e w' ⟨rfl, n, rfl⟩
  exact ⟨rfl, pw_below_drewN (Below.refl _ _) n⟩

theorem split_calls (a0 a1 : ByteArray) (w : World) (hG : Good true false w) (hs : a0.size < 4294967281) (h1 : 1 ≤ a1.size) :
    Calls Tryd.prog 84 #[.string a0, .string a1] w fun e w' => ∃ v0_ : Value, e = .returned (v0_) ∧ Kd.R Kd.string 9 w' w.heap.size (fun _ => True) v0_ (Lib.splitB a1 0 (Lib.countB a0 a1) a0) ∧ Below w.heap.size w w' := by
  obtain ⟨m, hm⟩ := hG.1 rfl
  refine (Tryd.strings_Split a0 a1 m w hs hm h1).mono ?_
  rintro e w' ⟨rfl, rfl⟩
  refine ⟨_, rfl, ?_, (Below.refl _ _).alloc (Nat.le_refl _) _⟩
  have hl : (Lib.splitB a1 0 (Lib.countB a0 a1) a0).length = Lib.countB a0 a1 + 1 := Lib.splitB_all a1 h1 0 _ a0 rfl
  have hc := Lib.countB_le a1 h1 a0.size a0 (Nat.le_refl _)
  refine Kd.R_of_own (enc := Value.string) (h1 := fun _ => rfl) ?_ (fun _ _ => trivial)
  refine ⟨by rw [encs_length, Nat.mul_one], .inr ⟨w.heap.size, Lib.countB a0 a1 + 1, ((Lib.splitB a1 0 (Lib.countB a0 a1) a0).map Value.string).toArray, by rw [hl], Nat.le_refl _, heap_alloc_new w _, by rw [hl]; exact Nat.le_refl _, by unfold maxLen; omega, by simp [hl], ?_⟩⟩
  rw [Nat.mul_one]
  simp only [encs]
  exact List.take_of_length_le (by simp)

theorem join_calls (A0 : Option Addr) (c0 : Nat) (l0 : List ByteArray) (a1 : ByteArray) (w : World) (hr0 : Kd.C Kd.string w A0 l0.length l0) (hc0 : l0.length ≤ c0)
    (hlen : (Lib.join (l0.map (·.data.toList)) a1.data.toList).length ≤ 140737488355328) (hN : l0.length ≤ 140737488355328) :
    Calls Tryd.prog 77 #[.slice A0 l0.length c0, .string a1] w fun e w' => e = .returned (.string ⟨(Lib.join (l0.map (·.data.toList)) a1.data.toList).toArray⟩) ∧ Below w.heap.size w w' := by
  rcases Nat.eq_zero_or_pos l0.length with h0 | h0
  · have hl : l0 = [] := List.eq_nil_of_length_eq_zero h0
    subst hl
    refine (Tryd.strings_Join_none A0 c0 a1 w).mono ?_
    rintro e w' ⟨rfl, rfl⟩
    exact ⟨rfl, Below.refl _ _⟩
  · obtain ⟨ad, rfl, hcell⟩ := hr0.2.2 h0
    have hat : ∀ (j : Nat) x, l0[j]? = some x → w.cell? (ad.add j) = some (.string x) := by
      intro j x hj
      obtain ⟨c, _, hK, hu⟩ := hcell j x hj
      have hK' : c = [.string x] := hK
      subst hK'
      have := hu 0 (.string x) rfl
      rwa [show j * Kd.string.sz + 0 = j from Nat.mul_one j] at this
    have hspot : ad.spot = none := by
      have := hat 0 _ (List.getElem?_eq_getElem h0)
      cases hs : ad.spot with
      | none => rfl
      | some z =>
        rw [show ad.add 0 = ad from by simp [Addr.add]] at this
        unfold World.cell? at this
        rw [hs] at this
        split at this <;> simp at this
    obtain ⟨b, o, sp⟩ := ad
    simp only at hspot
    subst hspot
    have hb : b < w.heap.size := World.block_lt_of_cell? w _ (hat 0 _ (List.getElem?_eq_getElem h0))
    exact Tryd.strings_Join b o c0 l0 a1 w (fun j x hj => by rw [← add_at]; exact hat j x hj) hb hN hc0 hlen

theorem itoa_calls (n : Int) (w : World) (hG : Good false true w) (h0 : -9223372036854775808 ≤ n) (h1 : n ≤ 9223372036854775807) :
    Calls Tryd.prog 76 #[.int .i64 n] w fun e w' => e = .returned (.string ⟨(Lib.itoa n).toArray⟩) ∧ Below w.heap.size w w' := by
  refine (Tryd.strconv_Itoa n h0 h1 w (hG.2 rfl)).mono ?_
  rintro e w' ⟨rfl, k, os, rfl⟩
  exact ⟨rfl, Lib.below_grow _ w (Nat.le_refl _) k os⟩
end Go.Proofs.YtloclimoffhbhaaDoor.Hand
