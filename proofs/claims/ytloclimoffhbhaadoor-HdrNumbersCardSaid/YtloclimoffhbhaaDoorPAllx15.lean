-- Written by wip/myprint.py (this session's own driver); Lean checks it.
import Derived.Test.YtloclimoffhbhaaDoorPAllx0
namespace Go.Proofs.YtloclimoffhbhaaDoor.PAll
open Go.RowKit Go.Proofs.YtloclimoffhbhaaDoorW.PrintWords Go.Proofs.YtloclimoffhbhaaDoorW.PrintLast Go.Proofs.YtloclimoffhbhaaDoorW.PrintMore
attribute [local go_sem] max2_int min2_int max_two min_two max_three min_three max_four min_four   -- for this text's walks alone
set_option linter.unusedVariables false
set_option linter.unusedSimpArgs false

/-! ### hdr_Number: function 30 (by hand) -/
/-- The digits of a word, one by one: what is read so far, or what is wrong first. -/
def numberGo (most : Int) : List UInt8 → Int → Int × Int
  | [], n => (n, 0)
  | c :: l, n => if c.toNat < 48 ∨ 57 < c.toNat then (0, 6) else if wrap64 (wrap64 (n * 10) + ((c.toNat : Int) - 48)) > most then (0, 5) else numberGo most l (wrap64 (wrap64 (n * 10) + ((c.toNat : Int) - 48)))
/-- A word is none: nothing, or a nought ahead. -/
def numberBad (l : List UInt8) : Bool := l.isEmpty || (decide (1 < l.length) && l.headD 0 == 48)
def hdr_Number.f (a0 : ByteArray) (a1 : Int) : Option (Int × Int) := some (if numberBad a0.data.toList = true then (0, 6) else numberGo a1 a0.data.toList 0)
theorem numberGo_drop (most : Int) (s : ByteArray) (pos : Nat) (n : Int) (h : pos < s.size) : numberGo most (s.data.toList.drop pos) n = numberGo most (s[pos] :: s.data.toList.drop (pos + 1)) n := by
  have : s.data.toList.drop pos = s[pos] :: s.data.toList.drop (pos + 1) := by
    rw [List.drop_eq_getElem_cons (by simpa using h)]; rfl
  rw [this]
theorem numberGo_bad {most n : Int} {c : UInt8} {l : List UInt8} (h : c.toNat < 48 ∨ 57 < c.toNat) : numberGo most (c :: l) n = (0, 6) := by rw [numberGo, if_pos h]
theorem numberGo_over {most n : Int} {c : UInt8} {l : List UInt8} (h : ¬ (c.toNat < 48 ∨ 57 < c.toNat)) (g : most < wrap64 (wrap64 (n * 10) + ((c.toNat : Int) - 48))) : numberGo most (c :: l) n = (0, 5) := by rw [numberGo, if_neg h, if_pos g]
theorem numberGo_on {most n : Int} {c : UInt8} {l : List UInt8} (h : ¬ (c.toNat < 48 ∨ 57 < c.toNat)) (g : wrap64 (wrap64 (n * 10) + ((c.toNat : Int) - 48)) ≤ most) : numberGo most (c :: l) n = numberGo most l (wrap64 (wrap64 (n * 10) + ((c.toNat : Int) - 48))) := by rw [numberGo, if_neg h, if_neg (by omega)]
theorem numberGo_end {most n : Int} {s : ByteArray} {pos : Nat} (h : ¬ pos < s.size) : numberGo most (s.data.toList.drop pos) n = (n, 0) := by
  rw [List.drop_eq_nil_of_le (by simp; omega), numberGo]
theorem below_iter (w : World) (s : ByteArray) (p : Nat) : Below w.heap.size w (w.iter s p) := (Below.refl _ _).alloc (Nat.le_refl _) _
theorem number_ne {s : ByteArray} (h : 0 < s.size) : s.toList.isEmpty = false ∧ ¬ s.toList = [] := by
  have : ¬ s.toList = [] := by
    rw [ByteArray.toList_eq]
    intro e
    have := congrArg List.length e
    rw [Array.length_toList, List.length_nil] at this
    have h2 : s.size = s.data.size := rfl
    omega
  exact ⟨by simpa using this, this⟩
set_option maxHeartbeats 4000000 in
set_option maxRecDepth 1000000 in
theorem hdr_Number.calls (a0 : ByteArray) (a1 : Int) (r1 : Int) (r2 : Int) (w : World) (h : hdr_Number.f a0 a1 = some (r1, r2)) :
    Calls Tryd.prog 30 #[.string a0, .int .i64 a1] w fun e w' => e = .returned (.tuple #[.int .i64 r1, .int .i64 r2]) ∧ Below w.heap.size w w' := by
  have hf : (if numberBad a0.data.toList = true then ((0, 6) : Int × Int) else numberGo a1 a0.data.toList 0) = (r1, r2) := Option.some.inj h
  clear h
  rcases Nat.lt_or_ge 0 a0.size with h0 | h0
  · obtain ⟨e1, e2⟩ := number_ne h0
    have hl : a0.data.toList = a0[0] :: a0.data.toList.drop 1 := by
      have : a0.data.toList.drop 0 = a0[0] :: a0.data.toList.drop 1 := by
        rw [List.drop_eq_getElem_cons (by simpa using h0)]; rfl
      exact this
    have hemp : a0.data.toList.isEmpty = false := by rw [hl]; rfl
    have hhd : a0.data.toList.headD 0 = a0[0] := by rw [hl]; rfl
    have hlen : a0.data.toList.length = a0.size := by simp
    rcases Nat.lt_or_ge 1 a0.size with h1 | h1
    · have h1' : (1 : Int) < a0.size := by omega
      by_cases h2 : a0[0].toNat = 48
      · have h3 : ((a0[0].toNat : Int) == 48) = true := by rw [h2]; rfl
        have h4 : numberBad a0.data.toList = true := by
          unfold numberBad
          rw [hemp, hhd, hlen, Bool.false_or, Bool.and_eq_true, decide_eq_true_iff, beq_iff_eq]
          exact ⟨h1, UInt8.toNat_inj.1 h2⟩
        rw [if_pos h4] at hf
        have HE := Lib.hid hf
        clear hf h4 hl hemp hhd hlen h2
        go_enter Tryd.func30, Tryd.ntmps30
        go_wp2
        go_ret2
        obtain ⟨rfl, rfl⟩ := Prod.mk.inj HE.out
        exact ⟨rfl, Below.refl _ _⟩
      · have h3 : ((a0[0].toNat : Int) == 48) = false := by rw [beq_eq_false_iff_ne]; omega
        have h4 : ¬ numberBad a0.data.toList = true := by
          unfold numberBad
          rw [hemp, hhd, Bool.false_or, Bool.and_eq_true, beq_iff_eq]
          exact fun h => h2 (by rw [h.2]; rfl)
        rw [if_neg h4] at hf
        have HF := Lib.hid hf
        clear hf h4 hl hemp hhd hlen h2
        go_enter Tryd.func30, Tryd.ntmps30
        go_wp2
        go_loopw [4, 5, 6, 8] (fun v4 v5 n v8 wr => ∃ (pos : Nat) (acc : Int) (u : Value), v4 = .int .i64 0 ∧ v5 = .int .i64 0 ∧ v8 = u ∧ wr = w.iter a0 pos ∧ n = .int .i64 acc ∧ numberGo a1 (a0.data.toList.drop pos) acc = (r1, r2) ∧ pos ≤ a0.size) (fun _ _ _ _ wr => a0.size - wr.iterPos w.heap.size)
        case atStart => exact ⟨0, 0, _, rfl, rfl, rfl, rfl, rfl, HF.out, Nat.zero_le _⟩
        case round =>
          obtain ⟨pos, acc, u, rfl, rfl, rfl, rfl, rfl, hc, hb⟩ := hrel
          have HC := Lib.hid hc
          clear hc
          by_cases hp : pos < a0.size
          · have HD := Lib.hid (HC.out.symm.trans (numberGo_drop a1 a0 pos acc hp)).symm
            clear HC
            by_cases ha : (a0[pos]'hp).toNat < 128
            · have hnx : ∀ ty, (Instr.next (.pointer (some ⟨w.heap.size, 0, none⟩)) true ty).run Tryd.prog (w.iter a0 pos) = _ := fun ty => run_next_ascii w a0 pos ty hp ha
              by_cases hd : (a0[pos]'hp).toNat < 48 ∨ 57 < (a0[pos]'hp).toNat
              · have HE := Lib.hid ((numberGo_bad hd).symm.trans HD.out)
                clear HD
                rcases hd with hd | hd
                all_goals
                  go_wp2
                  go_ret2
                  obtain ⟨rfl, rfl⟩ := Prod.mk.inj HE.out
                  exact ⟨rfl, below_iter _ _ _⟩
              · have hd1 : 48 ≤ (a0[pos]'hp).toNat := by omega
                have hd2 : (a0[pos]'hp).toNat ≤ 57 := by omega
                by_cases hov : a1 < wrap64 (wrap64 (acc * 10) + (((a0[pos]'hp).toNat : Int) - 48))
                · have HE := Lib.hid ((numberGo_over hd hov).symm.trans HD.out)
                  clear HD hd
                  go_wp2
                  go_ret2
                  obtain ⟨rfl, rfl⟩ := Prod.mk.inj HE.out
                  exact ⟨rfl, below_iter _ _ _⟩
                · have hov' : wrap64 (wrap64 (acc * 10) + (((a0[pos]'hp).toNat : Int) - 48)) ≤ a1 := by omega
                  have HE := Lib.hid ((numberGo_on hd hov').symm.trans HD.out)
                  clear HD hd hov
                  go_wp2
                  go_roundw
                  case rel => exact ⟨pos + 1, _, _, rfl, rfl, rfl, rfl, rfl, HE.out, by omega⟩
                  case measure => simp; omega
            · obtain ⟨k1, k2⟩ := decode_high a0 pos hp (by omega)
              have hnx : ∀ ty, (Instr.next (.pointer (some ⟨w.heap.size, 0, none⟩)) true ty).run Tryd.prog (w.iter a0 pos) = _ := fun ty => run_next_any w a0 pos ty hp
              have HE := Lib.hid ((numberGo_bad (.inr (by omega))).symm.trans HD.out)
              clear HD
              have k3 : (57 : Int) < ((Utf8.decode a0 pos).1 : Int) := by omega
              go_wp2
              go_ret2
              obtain ⟨rfl, rfl⟩ := Prod.mk.inj HE.out
              exact ⟨rfl, below_iter _ _ _⟩
          · have hnx : ∀ ty, (Instr.next (.pointer (some ⟨w.heap.size, 0, none⟩)) true ty).run Tryd.prog (w.iter a0 pos) = _ := fun ty => run_next_end w a0 pos ty hp
            have HE := Lib.hid ((numberGo_end hp).symm.trans HC.out)
            clear HC
            go_wp2
            go_ret2
            obtain ⟨rfl, rfl⟩ := Prod.mk.inj HE.out
            exact ⟨rfl, below_iter _ _ _⟩
    · have h1' : (a0.size : Int) ≤ 1 := by omega
      have h4 : ¬ numberBad a0.data.toList = true := by
        unfold numberBad
        rw [hemp, Bool.false_or, Bool.and_eq_true, decide_eq_true_iff, hlen]
        exact fun h => by omega
      rw [if_neg h4] at hf
      have HF := Lib.hid hf
      clear hf h4 hl hemp hhd hlen
      go_enter Tryd.func30, Tryd.ntmps30
      go_wp2
      go_loopw [4, 5, 6, 8] (fun v4 v5 n v8 wr => ∃ (pos : Nat) (acc : Int) (u : Value), v4 = .int .i64 0 ∧ v5 = .int .i64 0 ∧ v8 = u ∧ wr = w.iter a0 pos ∧ n = .int .i64 acc ∧ numberGo a1 (a0.data.toList.drop pos) acc = (r1, r2) ∧ pos ≤ a0.size) (fun _ _ _ _ wr => a0.size - wr.iterPos w.heap.size)
      case atStart => exact ⟨0, 0, _, rfl, rfl, rfl, rfl, rfl, HF.out, Nat.zero_le _⟩
      case round =>
        obtain ⟨pos, acc, u, rfl, rfl, rfl, rfl, rfl, hc, hb⟩ := hrel
        have HC := Lib.hid hc
        clear hc
        by_cases hp : pos < a0.size
        · have HD := Lib.hid (HC.out.symm.trans (numberGo_drop a1 a0 pos acc hp)).symm
          clear HC
          by_cases ha : (a0[pos]'hp).toNat < 128
          · have hnx : ∀ ty, (Instr.next (.pointer (some ⟨w.heap.size, 0, none⟩)) true ty).run Tryd.prog (w.iter a0 pos) = _ := fun ty => run_next_ascii w a0 pos ty hp ha
            by_cases hd : (a0[pos]'hp).toNat < 48 ∨ 57 < (a0[pos]'hp).toNat
            · have HE := Lib.hid ((numberGo_bad hd).symm.trans HD.out)
              clear HD
              rcases hd with hd | hd
              all_goals
                go_wp2
                go_ret2
                obtain ⟨rfl, rfl⟩ := Prod.mk.inj HE.out
                exact ⟨rfl, below_iter _ _ _⟩
            · have hd1 : 48 ≤ (a0[pos]'hp).toNat := by omega
              have hd2 : (a0[pos]'hp).toNat ≤ 57 := by omega
              by_cases hov : a1 < wrap64 (wrap64 (acc * 10) + (((a0[pos]'hp).toNat : Int) - 48))
              · have HE := Lib.hid ((numberGo_over hd hov).symm.trans HD.out)
                clear HD hd
                go_wp2
                go_ret2
                obtain ⟨rfl, rfl⟩ := Prod.mk.inj HE.out
                exact ⟨rfl, below_iter _ _ _⟩
              · have hov' : wrap64 (wrap64 (acc * 10) + (((a0[pos]'hp).toNat : Int) - 48)) ≤ a1 := by omega
                have HE := Lib.hid ((numberGo_on hd hov').symm.trans HD.out)
                clear HD hd hov
                go_wp2
                go_roundw
                case rel => exact ⟨pos + 1, _, _, rfl, rfl, rfl, rfl, rfl, HE.out, by omega⟩
                case measure => simp; omega
          · obtain ⟨k1, k2⟩ := decode_high a0 pos hp (by omega)
            have hnx : ∀ ty, (Instr.next (.pointer (some ⟨w.heap.size, 0, none⟩)) true ty).run Tryd.prog (w.iter a0 pos) = _ := fun ty => run_next_any w a0 pos ty hp
            have HE := Lib.hid ((numberGo_bad (.inr (by omega))).symm.trans HD.out)
            clear HD
            have k3 : (57 : Int) < ((Utf8.decode a0 pos).1 : Int) := by omega
            go_wp2
            go_ret2
            obtain ⟨rfl, rfl⟩ := Prod.mk.inj HE.out
            exact ⟨rfl, below_iter _ _ _⟩
        · have hnx : ∀ ty, (Instr.next (.pointer (some ⟨w.heap.size, 0, none⟩)) true ty).run Tryd.prog (w.iter a0 pos) = _ := fun ty => run_next_end w a0 pos ty hp
          have HE := Lib.hid ((numberGo_end hp).symm.trans HC.out)
          clear HC
          go_wp2
          go_ret2
          obtain ⟨rfl, rfl⟩ := Prod.mk.inj HE.out
          exact ⟨rfl, below_iter _ _ _⟩
  · have hl : a0.data.toList = [] := List.eq_nil_of_length_eq_zero (Nat.le_zero.1 h0)
    have h4 : numberBad a0.data.toList = true := by rw [hl]; rfl
    have e1 : a0.toList = [] := (ByteArray.toList_eq a0).trans hl
    rw [if_pos h4] at hf
    have HE := Lib.hid hf
    clear hf h4 hl
    go_enter Tryd.func30, Tryd.ntmps30
    go_wp2
    go_ret2
    obtain ⟨rfl, rfl⟩ := Prod.mk.inj HE.out
    exact ⟨rfl, Below.refl _ _⟩

end Go.Proofs.YtloclimoffhbhaaDoor.PAll
