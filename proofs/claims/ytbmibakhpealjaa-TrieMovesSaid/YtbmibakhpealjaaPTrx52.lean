-- The walks of the trie's functions, by hand.
import Derived.Test.YtbmibakhpealjaaPTrx51
namespace Go.Proofs.Ytbmibakhpealjaa.PTr
open Go.RowKit Go.Proofs.YtbmibakhpealjaaW.PrintWords Go.Proofs.YtbmibakhpealjaaW.PrintLast Go.Proofs.YtbmibakhpealjaaW.PrintMore
attribute [local go_sem] max2_int min2_int max_two min_two max_three min_three max_four min_four   -- for this text's walks alone
set_option linter.unusedVariables false
set_option linter.unusedSimpArgs false

open Go.Proofs.Ytbmibakhpealjaa.TrieP Go.Proofs.Ytbmibakhpealjaa.Facts Go.Proofs.Ytbmibakhpealjaa.Bits
theorem size42 : (Try.prog.info? 42).map (·.size) = some 3 := by kernel_rfl
theorem size35 : (Try.prog.info? 35).map (·.size) = some 4 := by kernel_rfl
def lastTo (a b k : Nat) : Nat := a + 2 ^ (32 - b) - 2 ^ (32 - k)
theorem lastTo_start {e : En} (h : rt e) : lastTo e.a e.b e.b = e.a := by unfold lastTo; omega
theorem rt_parts {e : En} (h : rt e) : ∃ q, e.a = q * 2 ^ (32 - e.b) ∧ q * 2 ^ (32 - e.b) + 2 ^ (32 - e.b) ≤ 2 ^ 32 := by
  obtain ⟨hb, ha, hz⟩ := h
  have h1 := Nat.div_add_mod e.a (2 ^ (32 - e.b))
  rw [hz, Nat.add_zero, Nat.mul_comm] at h1
  refine ⟨e.a / 2 ^ (32 - e.b), h1.symm, ?_⟩
  have hp := Nat.two_pow_pos (32 - e.b)
  have e2 : 2 ^ e.b * 2 ^ (32 - e.b) = 2 ^ 32 := by rw [← Nat.pow_add]; congr 1; omega
  have h2 : e.a / 2 ^ (32 - e.b) < 2 ^ e.b := by
    rw [Nat.div_lt_iff_lt_mul hp, e2]
    exact ha
  have h3 : (e.a / 2 ^ (32 - e.b) + 1) * 2 ^ (32 - e.b) ≤ 2 ^ e.b * 2 ^ (32 - e.b) := Nat.mul_le_mul_right _ h2
  rw [e2, Nat.add_mul, Nat.one_mul] at h3
  exact h3
theorem last_or {e : En} (h : rt e) {k : Nat} (h1 : e.b ≤ k) (h2 : k < 32) : Go.bits .or .u32 ((lastTo e.a e.b k : Nat) : Int) ((2 ^ (32 - (k + 1)) : Nat) : Int) = ((lastTo e.a e.b (k + 1) : Nat) : Int) := by
  obtain ⟨q, hq, hle⟩ := rt_parts h
  have hp := Nat.two_pow_pos (32 - (k + 1))
  have hpk : 2 ^ (32 - k) = 2 ^ (32 - (k + 1)) * 2 := pow_step h2
  have hpb : 2 ^ (32 - e.b) = 2 ^ (32 - k) * 2 ^ (k - e.b) := by rw [← Nat.pow_add]; congr 1; omega
  have hpc := Nat.two_pow_pos (k - e.b)
  have hge : 2 ^ (32 - k) ≤ 2 ^ (32 - e.b) := Nat.pow_le_pow_right (by decide) (by omega)
  have hmul : lastTo e.a e.b k = 2 ^ (32 - k) * (q * 2 ^ (k - e.b) + 2 ^ (k - e.b) - 1) := by
    unfold lastTo
    rw [hq, Nat.mul_sub, Nat.mul_one, Nat.mul_add, hpb]
    congr 2
    rw [Nat.mul_left_comm]
  have h5 : (2 : Nat) ^ 32 = 4294967296 := rfl
  have h6 : (2 : Int) ^ 32 = 4294967296 := rfl
  have ez : ((2 : Int) ^ (32 - (k + 1) + 1)) = ((2 ^ (32 - k) : Nat) : Int) := by rw [hpk, Int.pow_succ]; simp
  have e7 : ((lastTo e.a e.b k : Nat) : Int) % (2 : Int) ^ (32 - (k + 1) + 1) = 0 := by
    rw [ez, hmul]
    have h8 := Nat.mul_mod_right (2 ^ (32 - k)) (q * 2 ^ (k - e.b) + 2 ^ (k - e.b) - 1)
    exact_mod_cast h8
  have hlt : lastTo e.a e.b k < 2 ^ 32 := by unfold lastTo; omega
  have := bits_join .u32 32 (by decide) wraps_u32 (32 - (k + 1) + 1) ((lastTo e.a e.b k : Nat) : Int) ((2 ^ (32 - (k + 1)) : Nat) : Int) (by omega) e7 (by omega) (by omega) (by rw [ez]; omega) (by rw [h6]; omega)
  rw [this]
  unfold lastTo
  omega
theorem two_addr {e : En} {w : World} {gs : Nat} {xa lk : Int} (hr : Aside0 (rt e)) (hb : w.heap[gs]? = some (.cells #[.int .u32 xa, .int .u32 lk] 31 (0, 0))) (hxa : xa = (e.a : Int)) (hlk : lk = ((lastTo e.a e.b 32 : Nat) : Int)) {i : Nat} (hi : i < 2) :
    ∃ at_ : Int, w.cell? ⟨gs, i, none⟩ = some (.int .u32 at_) ∧ (0 ≤ at_ ∧ at_ < 4294967296 ∧ nk at_.toNat e.b = nk e.a e.b) := by
  obtain ⟨q, hq, hle⟩ := rt_parts hr.out
  have ha := hr.out.2.1
  have h5 : (2 : Nat) ^ 32 = 4294967296 := rfl
  have hp := Nat.two_pow_pos (32 - e.b)
  rcases (show i = 0 ∨ i = 1 by omega) with rfl | rfl
  · exact ⟨xa, (blk_cell hb 0).trans rfl, by omega, by omega, by rw [hxa, Int.toNat_natCast]⟩
  · have e1 : lastTo e.a e.b 32 = e.a + (2 ^ (32 - e.b) - 1) := by unfold lastTo; rw [show 32 - 32 = 0 from rfl, Nat.pow_zero]; omega
    refine ⟨lk, (blk_cell hb 1).trans rfl, by omega, by omega, ?_⟩
    rw [hlk, Int.toNat_natCast, e1]
    unfold nk
    rw [hq, Nat.mul_comm q, Nat.mul_add_div hp, Nat.mul_div_cancel_left _ hp, Nat.div_eq_of_lt (by omega), Nat.add_zero]
theorem mem_ofE {l : List En} {e : En} {a : Nat} (he : e ∈ l) (hb : e.b < 33) (hn : nk e.a e.b = nk a e.b) : e ∈ ofE l a 33 := by
  have h : ∀ i, e.b < i → e ∈ ofE l a i := by
    intro i
    induction i with
    | zero => intro h; omega
    | succ i ih =>
      intro h
      rw [ofE, List.mem_append]
      by_cases e1 : e.b = i
      · exact .inr (List.mem_filter.2 ⟨he, atN_iff.2 ⟨e1, by rw [← e1]; exact hn⟩⟩)
      · exact .inl (ih (by omega))
  exact h 33 hb
def eqS (x y : S42) : Bool := (y.f0.f0 == x.f0.f0 && y.f0.f1 == x.f0.f1) && y.f1 == x.f1
theorem any_eqS {x : S42} {rows : List S42} (h : x ∈ rows) : rows.any (eqS x) = true := List.any_eq_true.2 ⟨x, h, by simp [eqS]⟩
theorem take_any (rows : List S42) (f : S42 → Bool) {m : Nat} (hm : m < rows.length) : (rows.take (m + 1)).any f = ((rows.take m).any f || f rows[m]) := by
  rw [List.take_succ_eq_append_getElem hm, List.any_append]
  simp
theorem ofE_len (l : List En) (a : Nat) : ∀ i, (ofE l a i).length ≤ i * l.length
  | 0 => Nat.zero_le _
  | i + 1 => by
    rw [ofE, List.length_append, Nat.add_mul, Nat.one_mul]
    exact Nat.add_le_add (ofE_len l a i) (List.length_filter_le _ _)
theorem take_puts {os : List S35} {i : Nat} (hi : i < os.length) : putO (puts (os.take i)) (rd_T35 os (i : Int)) = puts (os.take (i + 1)) := by
  rw [List.take_succ_eq_append_getElem hi, puts_snoc]
  congr 1
  simp [rd_T35, List.getD, hi]
theorem rd_mem {os : List S35} {i : Nat} (hi : i < os.length) : rd_T35 os (i : Int) ∈ os := by
  have : rd_T35 os (i : Int) = os[i] := by simp [rd_T35, List.getD, hi]
  rw [this]
  exact List.getElem_mem hi
theorem turn_puts (l : List S35) (k : Nat) : puts ((List.range l.length).map (fun j => rd_T35 l (((j + k) % l.length : Nat) : Int))) = puts l := puts_same (fun o => by
  rw [List.mem_map]
  constructor
  · rintro ⟨j, hj, rfl⟩
    have := List.mem_range.1 hj
    exact rd_mem (Nat.mod_lt _ (by omega))
  · intro ho
    obtain ⟨j, hj, e⟩ := List.getElem_of_mem ho
    have hn : 0 < l.length := by omega
    refine ⟨(j + (l.length - k % l.length)) % l.length, List.mem_range.2 (Nat.mod_lt _ hn), ?_⟩
    have e2 : ((j + (l.length - k % l.length)) % l.length + k) % l.length = j := by
      have h1 := Nat.mod_lt k hn
      rw [Nat.mod_add_mod, show j + (l.length - k % l.length) + k = j + (l.length - k % l.length + k) by omega]
      have h2 : l.length - k % l.length + k = l.length * (k / l.length + 1) := by
        have h3 := Nat.div_add_mod k l.length
        rw [Nat.mul_add, Nat.mul_one]
        omega
      rw [h2, Nat.add_mul_mod_self_left, Nat.mod_eq_of_lt hj]
    rw [e2, ← e]
    simp [rd_T35, List.getD, hj])
set_option maxHeartbeats 4000000 in
set_option maxRecDepth 100000 in
theorem moves_walk (A0 : Option Addr) (c0 : Nat) (l0 : List S35) (a1 : Int) (w : World) (hr0 : Kd.C k35 w A0 l0.length l0) (hc0 : l0.length ≤ c0) (hl : l0.length ≤ 40) (hok : ∀ o ∈ l0, okO o) (h0 : 0 ≤ a1) (h1 : a1 < 256) :
    Calls Try.prog 3 #[.slice A0 l0.length c0, .int .u8 a1] w fun e w' => e = .returned (.bool true) ∧ Below w.heap.size w w' := by
  have B0 := Aside0.mk (Below.refl w.heap.size w)
  have HR0 := Aside0.mk hr0
  have HC0 := Aside0.mk hc0
  have HL0 := Aside0.mk hl
  have HOK := Aside0.mk hok
  have HA := Aside0.mk (And.intro h0 h1)
  have q1 : decide (40 < l0.length) = false := decide_eq_false (by omega)
  have q3 : decide ((40 : Int) < (l0.length : Int)) = false := decide_eq_false (by omega)
  clear hr0 hc0 hl hok h0 h1
  go_enter Try.func3, Try.ntmps3
  go_wp2_with (first
    | ((with_reducible refine gate_dst (N := 5) rfl ?_); refine box_event ?hg (N := 5) ?hd (cs := #[.slice none 0 0, .pointer none, .pointer none, .int .i64 0]) (t := 30) ?hr ?_; (case hd => rfl); (case hg => rfl); (case hr => first | (go_simp; done) | (go_simp; rfl)); intro ga hga w1 hbox hb; have B1 := Aside0.mk hb; have TA := Aside0.mk (TrL.new (w0 := w) hbox hb (Nat.le_of_eq hga.symm)); have GA := Aside0.mk (blk_lt hbox); clear hga hbox hb)
    | ((with_reducible refine gate_dst (N := 6) rfl ?_); refine box_event ?hg (N := 6) ?hd (cs := #[.slice none 0 0, .pointer none, .pointer none, .int .i64 0]) (t := 30) ?hr ?_; (case hd => rfl); (case hg => rfl); (case hr => first | (go_simp; done) | (go_simp; rfl)); intro gb hgb w2 hbox hb; have TW := Aside0.mk (show Two w w2 ga gb [] [] from ⟨_, _, TA.out.below hb, TrL.new (w0 := w) hbox (below_step B1.out hb) (by have := B1.out.size; omega), fun k h1 h2 => by have := GA.out; have e1 : k = ga := h1; have e2 : k = gb := h2; omega⟩); clear hgb hbox hb TA GA B1))
  clear q1 q3
  go_loopg [28] l0.length (fun kq v28 wl => ∃ (i : Nat), i + kq = l0.length ∧ v28 = .int .i64 i ∧ Aside0 (Two w wl ga gb (puts (l0.take i)) []))
  case atStart => exact ⟨0, by omega, rfl, ⟨by simpa [puts] using TW.out⟩⟩
  case round =>
    clear TW
    obtain ⟨i, hi, rfl, TL⟩ := hrel
    have HI := Aside0.mk hi
    by_cases hlt : i < l0.length
    · have hcn : decide (i < l0.length) = true := decide_eq_true hlt
      have p : 0 ≤ (i : Int) := by omega
      have q : (i : Int) < (l0.length : Int) := by omega
      obtain ⟨ad, e1, hx0, hx1, hx2, hx3⟩ := at_T35 (Kd.C_below HR0.out TL.out.bl) (i : Int) p q
      cases e1
      have e2 : (i : Int).toNat = i := by omega
      rw [e2] at hx0 hx1 hx2 hx3
      have OKQ := Aside0.mk (HOK.out _ (rd_mem hlt))
      have TK := Aside0.mk (take_puts hlt)
      have LN := Aside0.mk (show (puts (l0.take i)).length ≤ 1000 by have h1 := puts_len (l0.take i); have := HL0.out; rw [List.length_take] at h1; omega)
      generalize rd_T35 l0 (i : Int) = q at hx0 hx1 hx2 hx3 OKQ TK
      replace p := eq_true p
      have HLT := Aside0.mk hlt
      clear hi e2
      go_wp2_with (first
        | ((with_reducible refine gate_dst (N := 8) rfl ?_); refine box_event ?hg (N := 8) ?hd (cs := #[.bool false, .int .u32 0, .int .i64 0, .int .i64 0]) (t := 35) ?hr ?_; (case hd => rfl); (case hg => rfl); (case hr => first | (go_simp; done) | (go_simp; rfl)); intro g1 hg1 w5 hbox hb; have BO := Aside0.mk hbox; have HB5 := Aside0.mk hb; have HG1 := Aside0.mk hg1; clear hg1 hbox hb)
        | ((with_reducible refine gate_ (.store 35 (.tmp 8) (.tmp 31)) rfl ?_); refine Hand.wpList_store_blk rfl rfl 35 (.tmp 8) (.tmp 31) rfl [.bool q.f0, .int .u32 q.f1.f0, .int .i64 q.f1.f1, .int .i64 q.f2] #[.bool q.f0, .int .u32 q.f1.f0, .int .i64 q.f1.f1, .int .i64 q.f2] rfl rfl BO.out rfl size35 (Nat.le_refl 4) (fun u hu => by simp at hu; rcases hu with rfl | rfl | rfl | rfl <;> rfl) rfl (fun w6 hp => ?_); have BP := Aside0.mk hp.box; have HB6 := Aside0.mk (hp.bl _ HB5.out (Nat.le_of_eq HG1.out.symm)); have z1 : w6.cell? ⟨g1, 1, none⟩ = some (.int .u32 q.f1.f0) := (blk_cell BP.out 1).trans rfl; have z2 : w6.cell? ⟨g1, 2, none⟩ = some (.int .i64 q.f1.f1) := (blk_cell BP.out 2).trans rfl; have z3 : w6.cell? ⟨g1, 3, none⟩ = some (.int .i64 q.f2) := (blk_cell BP.out 3).trans rfl; clear hp)
        | (go_at_call 8; (with_reducible refine (Two.add TL.out HB6.out LN.out OKQ.out.1 OKQ.out.2 _ _).mono ?_); rintro e w7 ⟨rfl, h7⟩; have T7 := Aside0.mk h7; clear h7 z1 z2 z3))
      go_roundg (l0.length - (i + 1))
      case measure => have := HI.out; have := HLT.out; omega
      case rel => exact ⟨i + 1, by have := HLT.out; omega, by rw [wS (by have := HLT.out; have := HL0.out; omega)], ⟨by rw [← TK.out]; exact T7.out⟩⟩
    · have hcn : decide (i < l0.length) = false := decide_eq_false hlt
      obtain rfl : i = l0.length := by omega
      rw [List.take_length] at TL
      clear hi hlt
      go_wp2
      go_loopg [9, 40] l0.length (fun kq v9 v40 wl => ∃ (i : Nat), i + kq = l0.length ∧ v40 = .int .i64 i ∧ Aside0 (Two w wl ga gb (puts l0) (puts ((List.range i).map (fun j => rd_T35 l0 (((j + a1.toNat) % l0.length : Nat) : Int))))))
      case atStart => exact ⟨0, by omega, rfl, ⟨by simpa [puts] using TL.out⟩⟩
      case round =>
        clear TL
        obtain ⟨i, hi, rfl, TL⟩ := hrel
        have HI := Aside0.mk hi
        by_cases hlt : i < l0.length
        · have hcn : decide (i < l0.length) = true := decide_eq_true hlt
          have HLT := Aside0.mk hlt
          have HM := Aside0.mk (Nat.mod_lt (i + a1.toNat) (show 0 < l0.length by omega))
          obtain ⟨ji, hj⟩ : ∃ j : Int, j = (((i + a1.toNat) % l0.length : Nat) : Int) := ⟨_, rfl⟩
          have hji : (wrap64 ((i : Int) + wrap64 a1)).tmod (l0.length : Int) = ji := by
            have h1 := HA.out
            have h2 := HL0.out
            rw [wrap64_id a1 (by omega) (by omega), wrap64_id _ (by omega) (by omega), hj, show (i : Int) + a1 = ((i + a1.toNat : Nat) : Int) by omega]
            exact (Int.ofNat_tmod _ _).symm
          have p : 0 ≤ ji := by omega
          have q : ji < (l0.length : Int) := by have := HM.out; omega
          obtain ⟨ad, e1, hx0, hx1, hx2, hx3⟩ := at_T35 (Kd.C_below HR0.out TL.out.bl) ji p q
          cases e1
          have OKQ := Aside0.mk (show okO (rd_T35 l0 ji) by rw [hj]; exact HOK.out _ (rd_mem HM.out))
          have TK := Aside0.mk (show putO (puts ((List.range i).map (fun j => rd_T35 l0 (((j + a1.toNat) % l0.length : Nat) : Int)))) (rd_T35 l0 ji) = puts ((List.range (i + 1)).map (fun j => rd_T35 l0 (((j + a1.toNat) % l0.length : Nat) : Int))) by rw [hj, List.range_succ, List.map_append, ← puts_snoc]; rfl)
          have LN := Aside0.mk (show (puts ((List.range i).map (fun j => rd_T35 l0 (((j + a1.toNat) % l0.length : Nat) : Int)))).length ≤ 1000 by have h1 := puts_len ((List.range i).map (fun j => rd_T35 l0 (((j + a1.toNat) % l0.length : Nat) : Int))); have := HL0.out; rw [List.length_map, List.length_range] at h1; omega)
          clear hj
          generalize rd_T35 l0 ji = q at hx0 hx1 hx2 hx3 OKQ TK
          replace p := eq_true p
          clear hi
          go_wp2_with (first
            | ((with_reducible refine gate_dst (N := 10) rfl ?_); refine box_event ?hg (N := 10) ?hd (cs := #[.bool false, .int .u32 0, .int .i64 0, .int .i64 0]) (t := 35) ?hr ?_; (case hd => rfl); (case hg => rfl); (case hr => first | (go_simp; done) | (go_simp; rfl)); intro g1 hg1 w5 hbox hb; have BO := Aside0.mk hbox; have HB5 := Aside0.mk hb; have HG1 := Aside0.mk hg1; clear hg1 hbox hb)
            | ((with_reducible refine gate_ (.store 35 (.tmp 10) (.tmp 52)) rfl ?_); refine Hand.wpList_store_blk rfl rfl 35 (.tmp 10) (.tmp 52) rfl [.bool q.f0, .int .u32 q.f1.f0, .int .i64 q.f1.f1, .int .i64 q.f2] #[.bool q.f0, .int .u32 q.f1.f0, .int .i64 q.f1.f1, .int .i64 q.f2] rfl rfl BO.out rfl size35 (Nat.le_refl 4) (fun u hu => by simp at hu; rcases hu with rfl | rfl | rfl | rfl <;> rfl) rfl (fun w6 hp => ?_); have BP := Aside0.mk hp.box; have HB6 := Aside0.mk (hp.bl _ HB5.out (Nat.le_of_eq HG1.out.symm)); have z1 : w6.cell? ⟨g1, 1, none⟩ = some (.int .u32 q.f1.f0) := (blk_cell BP.out 1).trans rfl; have z2 : w6.cell? ⟨g1, 2, none⟩ = some (.int .i64 q.f1.f1) := (blk_cell BP.out 2).trans rfl; have z3 : w6.cell? ⟨g1, 3, none⟩ = some (.int .i64 q.f2) := (blk_cell BP.out 3).trans rfl; clear hp)
            | (go_at_call 8; (with_reducible refine (Two.add TL.out.swap HB6.out LN.out OKQ.out.1 OKQ.out.2 _ _).mono ?_); rintro e w7 ⟨rfl, h7⟩; have T7 := Aside0.mk h7; clear h7 z1 z2 z3))
          go_roundg (l0.length - (i + 1))
          case measure => have := HI.out; have := HLT.out; omega
          case rel => exact ⟨i + 1, by have := HLT.out; omega, by rw [wS (by have := HLT.out; have := HL0.out; omega)], ⟨by rw [← TK.out]; exact T7.out.swap⟩⟩
        · have hcn : decide (i < l0.length) = false := decide_eq_false hlt
          obtain rfl : i = l0.length := by omega
          clear hi hlt
          have TL := Aside0.mk (show Two w wr ga gb (puts l0) (puts l0) by have := TL.out; rw [turn_puts l0 a1.toNat] at this; exact this)
          have LN := Aside0.mk (show (puts l0).length ≤ 40 by have := puts_len l0; have := HL0.out; omega)
          have LN2 := Aside0.mk (show (puts l0).length ≤ 1000 by have := LN.out; omega)
          have RT := Aside0.mk (puts_rts HOK.out)
          generalize puts l0 = l at TL LN LN2 RT
          go_wp2_with (first
            | (go_at_call 9; (with_reducible refine (TL.out.all (Below.refl _ _) LN2.out).mono ?_); rintro e w7 ⟨v7, rfl, h7, hb7⟩; obtain ⟨X7, x7, rfl, hx7, hC7⟩ := Kd.R_reads h7; rw [List.length_map]; rw [List.length_map] at h7 hx7; have R7 := Aside0.mk h7; have T7 := Aside0.mk (TL.out.below hb7); have K7 := Aside0.mk hx7; clear h7 hb7 hC7 hx7 TL)
            | (go_at_call 9; (with_reducible refine (T7.out.swap.all (Below.refl _ _) LN2.out).mono ?_); rintro e w8 ⟨v8, rfl, h8, hb8⟩; obtain ⟨X8, x8, rfl, hx8, hC8⟩ := Kd.R_reads h8; rw [List.length_map]; rw [List.length_map] at h8 hx8; have R8 := Aside0.mk h8; have R7' := Aside0.mk (Kd.R_below R7.out hb8); have T8 := Aside0.mk (T7.out.below hb8); have K8 := Aside0.mk hx8; clear h8 hb8 hC8 hx8 T7 R7)
            | (go_at_call 10; (with_reducible refine (T8.out.size (Below.refl _ _)).mono ?_); rintro e w9 ⟨rfl, hb9⟩; have T9 := Aside0.mk (T8.out.below hb9); have R7a := Aside0.mk (Kd.R_below R7'.out hb9); have R8a := Aside0.mk (Kd.R_below R8.out hb9); clear hb9 T8 R7' R8)
            | (go_at_call 10; (with_reducible refine (T9.out.swap.size (Below.refl _ _)).mono ?_); rintro e w10 ⟨rfl, hb9⟩; have T10 := Aside0.mk (T9.out.below hb9); have C7 := Aside0.mk (Kd.R_reads' (Kd.R_below R7a.out hb9)).2.2; have C8 := Aside0.mk (Kd.R_reads' (Kd.R_below R8a.out hb9)).2.2; clear hb9 T9 R7a R8a))
          go_loopg [73] l.length (fun kq v73 wl => ∃ (j : Nat), j + kq = l.length ∧ v73 = .int .i64 j ∧ Aside0 (Below w10.heap.size w10 wl))
          case atStart => exact ⟨0, by omega, rfl, ⟨Below.refl _ _⟩⟩
          case round =>
            obtain ⟨j, hj, rfl, BL⟩ := hrel
            have HJ := Aside0.mk hj
            by_cases hlj : j < l.length
            · have hcj : decide (j < l.length) = true := decide_eq_true hlj
              have HLJ := Aside0.mk hlj
              have p : 0 ≤ (j : Int) := by omega
              have q : (j : Int) < ((l.map toS).length : Int) := by rw [List.length_map]; omega
              obtain ⟨ad7, e7, hx0, hx1, hx2⟩ := at_T42 (Kd.C_below C7.out BL.out) (j : Int) p q
              obtain ⟨ad8, e8, hy0, hy1, hy2⟩ := at_T42 (Kd.C_below C8.out BL.out) (j : Int) p q
              subst e7
              subst e8
              have e2 : (j : Int).toNat = j := by omega
              rw [e2] at hx0 hx1 hx2 hy0 hy1 hy2
              have hrd : rd_T42 (l.map toS) (j : Int) = toS l[j] := by simp [rd_T42, List.getD, hlj]
              have MEM := Aside0.mk (List.getElem_mem hlj)
              rw [hrd] at hx0 hx1 hx2 hy0 hy1 hy2
              generalize l[j] = en at MEM hx0 hx1 hx2 hy0 hy1 hy2
              have HRT := Aside0.mk (RT.out _ MEM.out)
              obtain ⟨x, hx⟩ : ∃ x : S42, x = toS en := ⟨_, rfl⟩
              rw [← hx] at hx0 hx1 hx2 hy0 hy1 hy2
              have HX := Aside0.mk hx
              have Y0 := Aside0.mk hy0
              have Y1 := Aside0.mk hy1
              have Y2 := Aside0.mk hy2
              replace p := eq_true p
              have q2 : (j : Int) < (l.length : Int) := by omega
              clear hj hlj e2 hrd hx hy0 hy1 hy2 q
              go_wp2_with (first
                | ((with_reducible refine gate_dst (N := 14) rfl ?_); refine box_event ?hg (N := 14) ?hd (cs := #[.int .u32 0, .int .i64 0, .int .i64 0]) (t := 42) ?hr ?_; (case hd => rfl); (case hg => rfl); (case hr => first | (go_simp; done) | (go_simp; rfl)); intro gx hgx w5 hbox hb; have BO := Aside0.mk hbox; have HB5 := Aside0.mk hb; have HGX := Aside0.mk hgx; clear hgx hbox hb)
                | ((with_reducible refine gate_ (.store 42 (.tmp 14) (.tmp 77)) rfl ?_); refine Hand.wpList_store_blk rfl rfl 42 (.tmp 14) (.tmp 77) rfl [.int .u32 x.f0.f0, .int .i64 x.f0.f1, .int .i64 x.f1] #[.int .u32 x.f0.f0, .int .i64 x.f0.f1, .int .i64 x.f1] rfl rfl BO.out rfl size42 (Nat.le_refl 3) (fun u hu => by simp at hu; rcases hu with rfl | rfl | rfl <;> rfl) rfl (fun w6 hp => ?_); have PX := Aside0.mk hp.box; have HB6 := Aside0.mk (hp.bl _ HB5.out (Nat.le_of_eq HGX.out.symm)); clear hp))
              clear hx0 hx1 hx2 BO HB5
              have BD := Aside0.mk (below_drew1 (below_step BL.out HB6.out))
              have PD := Aside0.mk (blk_drew PX.out)
              have hb6 := below_drew1 HB6.out
              have hq0 := pw_cell_below hb6 Y0.out
              have hq1 := pw_cell_below hb6 Y1.out
              have hq2 := pw_cell_below hb6 Y2.out
              have hq3 : w6.drew.cell? ⟨gx, 0, none⟩ = _ := (blk_cell PD.out 0).trans rfl
              have hq4 : w6.drew.cell? ⟨gx, 1, none⟩ = _ := (blk_cell PD.out 1).trans rfl
              have hq5 : w6.drew.cell? ⟨gx, 2, none⟩ = _ := (blk_cell PD.out 2).trans rfl
              refine start_ (n := 6) (S := fun w' => w'.cell? (ad8.add (j * 3)) = some (.int .u32 x.f0.f0) ∧ w'.cell? ⟨(ad8.add (j * 3)).block, (ad8.add (j * 3)).off + 1, none⟩ = some (.int .i64 x.f0.f1) ∧ w'.cell? ⟨(ad8.add (j * 3)).block, (ad8.add (j * 3)).off + 2, none⟩ = some (.int .i64 x.f1) ∧ w'.cell? ⟨gx, 0, none⟩ = some (.int .u32 x.f0.f0) ∧ w'.cell? ⟨gx, 1, none⟩ = some (.int .i64 x.f0.f1) ∧ w'.cell? ⟨gx, 2, none⟩ = some (.int .i64 x.f1)) (ds := []) #[false, false, false, false, false, false] (by kernel_rfl) rfl rfl ⟨hq0, hq1, hq2, hq3, hq4, hq5⟩ (fun hHeld => ?_)
              clear hq0 hq1 hq2 hq3 hq4 hq5 hb6
              generalize w6.drew = wd at BD PD hHeld ⊢
              refine pure_ (i := 0) (N := some 78) (v := ?_) (a' := ?_) #[true, false, false, false, false, false] rfl rfl (by kernel_rfl) (fun _ _ _ h => h) (Or.inl ⟨by rfl, ?_⟩) ?_ ?_
              rotate_left
              · intro w'
                go_simp
                with_reducible rfl
              rotate_left
              · simp only [Act.put, List.setIfInBounds_toArray, List.set_cons_zero, List.set_cons_succ, i64_w, i32_w]
                rfl
              refine pure_ (i := 1) (N := some 79) (v := ?_) (a' := ?_) #[true, true, false, false, false, false] rfl rfl (by kernel_rfl) (fun _ _ _ h => h) (Or.inl ⟨by rfl, ?_⟩) ?_ ?_
              rotate_left
              · intro w'
                go_simp
                with_reducible rfl
              rotate_left
              · simp only [Act.put, List.setIfInBounds_toArray, List.set_cons_zero, List.set_cons_succ, i64_w, i32_w]
                rfl
              refine pure_ (i := 2) (N := some 80) (v := ?_) (a' := ?_) #[true, true, true, false, false, false] rfl rfl (by kernel_rfl) (fun _ _ _ h => h) (Or.inl ⟨by rfl, ?_⟩) ?_ ?_
              rotate_left
              · intro w'
                go_simp
                with_reducible rfl
              rotate_left
              · simp only [Act.put, List.setIfInBounds_toArray, List.set_cons_zero, List.set_cons_succ, i64_w, i32_w]
                rfl
              refine take_ (i := 3) (N := some 81) (v := ?_) (a' := ?_) #[true, true, true, true, false, false] rfl rfl (by kernel_rfl) (fun _ _ _ h => h) (Or.inl ⟨by rfl, ?_⟩) hHeld ?_ ?_
              rotate_left
              · rintro w' ⟨s0, s1, s2, s3, s4, s5⟩
                go_simp
                with_reducible rfl
              rotate_left
              · simp only [Act.put, List.setIfInBounds_toArray, List.set_cons_zero, List.set_cons_succ, i64_w, i32_w]
                rfl
              refine take_ (i := 4) (N := some 82) (v := ?_) (a' := ?_) #[true, true, true, true, true, false] rfl rfl (by kernel_rfl) (fun _ _ _ h => h) (Or.inl ⟨by rfl, ?_⟩) hHeld ?_ ?_
              rotate_left
              · rintro w' ⟨s0, s1, s2, s3, s4, s5⟩
                go_simp
                with_reducible rfl
              rotate_left
              · simp only [Act.put, List.setIfInBounds_toArray, List.set_cons_zero, List.set_cons_succ, i64_w, i32_w]
                rfl
              refine pure_ (i := 5) (N := some 83) (v := ?_) (a' := ?_) #[true, true, true, true, true, true] rfl rfl (by kernel_rfl) (fun _ _ _ h => h) (Or.inl ⟨by rfl, ?_⟩) ?_ ?_
              rotate_left
              · intro w'
                go_simp
                with_reducible rfl
              rotate_left
              · simp only [Act.put, List.setIfInBounds_toArray, List.set_cons_zero, List.set_cons_succ, i64_w, i32_w]
                rfl
              refine done_ (by kernel_rfl) ?_
              clear hHeld
              have PX := PD
              clear PD
              have z0 : wd.cell? ⟨gx, 0, none⟩ = some (.int .u32 x.f0.f0) := (blk_cell PX.out 0).trans rfl
              have z1 : wd.cell? ⟨gx, 1, none⟩ = some (.int .i64 x.f0.f1) := (blk_cell PX.out 1).trans rfl
              go_wp2
              go_loopg [15, 16] (32 - en.b) (fun kq v15 v16 wl => ∃ (k : Nat) (kk lk : Int), k + kq = 32 ∧ en.b ≤ k ∧ v16 = .int .i64 kk ∧ v15 = .int .u32 lk ∧ Aside0 (kk = (k : Int)) ∧ Aside0 (lk = ((lastTo en.a en.b k : Nat) : Int)) ∧ wl = wd)
              case atStart => exact ⟨en.b, x.f0.f1, x.f0.f0, by have := HRT.out.1; omega, Nat.le_refl _, rfl, rfl, ⟨by rw [HX.out]; rfl⟩, ⟨by rw [HX.out, lastTo_start HRT.out]; rfl⟩, rfl⟩
              case round =>
                obtain ⟨k, kk, lk, hk, hbk, rfl, rfl, HKK, HLK, rfl⟩ := hrel
                have HK := Aside0.mk hk
                have HBK := Aside0.mk hbk
                by_cases hlk : k < 32
                · have hck : decide (kk < 32) = true := decide_eq_true (by have := HKK.out; omega)
                  have HLT2 := Aside0.mk hlk
                  obtain ⟨s1, s2, hs1, hs2, hs3, hs4, hs5, hs6⟩ := half_s (b := k) (d := 31 - k) (by omega)
                  rw [← HKK.out] at hs1
                  have S2 := Aside0.mk hs6
                  clear hs6 hk hbk hlk
                  go_wp2
                  go_roundg (32 - (k + 1))
                  case measure => have := HK.out; have := HLT2.out; omega
                  case rel => exact ⟨k + 1, kk + 1, Go.bits .or .u32 lk s2, by have := HLT2.out; omega, by have := HBK.out; omega, by rw [wrap64_id _ (by have := HKK.out; omega) (by have := HKK.out; have := HLT2.out; omega)], rfl, ⟨by have := HKK.out; omega⟩, ⟨by rw [HLK.out, S2.out]; exact last_or HRT.out HBK.out HLT2.out⟩, rfl⟩
                · have hck : decide (kk < 32) = false := decide_eq_false (by have := HKK.out; omega)
                  obtain rfl : k = 32 := by omega
                  clear hk hbk hlk
                  go_wp2
                  have hbx := heap_alloc_new wr (.cells #[.int .u32 x.f0.f0, .int .u32 lk] 31)
                  have BE := Aside0.mk (below_step BD.out (below_alloc (Below.refl _ _) (.cells #[.int .u32 x.f0.f0, .int .u32 lk] 31)))
                  have PE := Aside0.mk (blk_below PX.out (below_alloc (Below.refl _ _) (.cells #[.int .u32 x.f0.f0, .int .u32 lk] 31)))
                  generalize wr.alloc (.cells #[.int .u32 x.f0.f0, .int .u32 lk] 31) = we at hbx BE PE ⊢
                  generalize wr.heap.size = gs at hbx ⊢
                  have PG := Aside0.mk hbx
                  go_loopg [105] 2 (fun kq v105 wl => ∃ (i : Nat), i + kq = 2 ∧ v105 = .int .i64 i ∧ Aside0 (Below we.heap.size we wl))
                  case atStart => exact ⟨0, by omega, rfl, ⟨Below.refl _ _⟩⟩
                  case round =>
                    obtain ⟨i, hi, rfl, BF⟩ := hrel
                    have HI := Aside0.mk hi
                    by_cases hli : i < 2
                    · have hci : decide (i < 2) = true := decide_eq_true hli
                      have hci2 : decide ((i : Int) < 2) = true := decide_eq_true (by omega)
                      have p3 : 0 ≤ (i : Int) := by omega
                      have q3 : (i : Int) < 2 := by omega
                      have HLI := Aside0.mk hli
                      obtain ⟨at_, hat, hprop⟩ := two_addr (Aside0.mk HRT.out) (blk_below PG.out BF.out) (show x.f0.f0 = (en.a : Int) by rw [HX.out]; rfl) HLK.out hli
                      have hat2 := hat
                      rw [show (⟨gs, i, none⟩ : Addr) = (⟨gs, 0, none⟩ : Addr).add i by rw [Addr.add_lit, Nat.zero_add]] at hat2
                      have AT := Aside0.mk hprop
                      have T11 := Aside0.mk (T10.out.below (below_step BE.out BF.out))
                      clear hprop hi hli
                      go_wp2_with (first
                        | (go_at_call 11; (with_reducible refine (T11.out.of (Below.refl _ _) LN2.out AT.out.1 AT.out.2.1).mono ?_); rintro e w12 ⟨v12, rfl, h12, hb12⟩; have MR := Aside0.mk (show x ∈ (ofE l at_.toNat 33).map toS by rw [HX.out]; exact List.mem_map.2 ⟨en, mem_ofE MEM.out (by have := HRT.out.1; omega) AT.out.2.2.symm, rfl⟩); have ML := Aside0.mk (show ((ofE l at_.toNat 33).map toS).length ≤ 100000 by have h1 := ofE_len l at_.toNat 33; have := LN2.out; rw [List.length_map]; omega); generalize (ofE l at_.toNat 33).map toS = rows at h12 MR ML; obtain ⟨X12, x12, rfl, hx12, hC12⟩ := Kd.R_reads h12; have C12 := Aside0.mk hC12; have B12 := Aside0.mk hb12; have LR := Aside0.mk hx12; have PX12 := Aside0.mk (blk_below (blk_below PE.out BF.out) hb12); clear h12 hb12 hx12 hC12))
                      go_loopg [19, 112] rows.length (fun kq v19 v112 wl => ∃ (m : Nat) (f : Bool), m + kq = rows.length ∧ v112 = .int .i64 m ∧ v19 = .bool f ∧ Aside0 (f = (rows.take m).any (eqS x)) ∧ Aside0 (Below w12.heap.size w12 wl))
                      case atStart => exact ⟨0, false, by omega, rfl, rfl, ⟨rfl⟩, ⟨Below.refl _ _⟩⟩
                      case round =>
                        obtain ⟨m, f, hm, rfl, rfl, HF, BM⟩ := hrel
                        have HM := Aside0.mk hm
                        by_cases hlm : m < rows.length
                        · have hcm : decide (m < rows.length) = true := decide_eq_true hlm
                          have HLM := Aside0.mk hlm
                          have p4 : 0 ≤ (m : Int) := by omega
                          have q4 : (m : Int) < (rows.length : Int) := by omega
                          obtain ⟨ad9, e9, hw0, hw1, hw2⟩ := at_T42 (Kd.C_below C12.out BM.out) (m : Int) p4 q4
                          subst e9
                          have e2 : (m : Int).toNat = m := by omega
                          rw [e2] at hw0 hw1 hw2
                          have hrd : rd_T42 rows (m : Int) = rows[m] := by simp [rd_T42, List.getD, hlm]
                          have TKM := Aside0.mk (take_any rows (eqS x) hlm)
                          rw [hrd] at hw0 hw1 hw2
                          generalize rows[m] = y at hw0 hw1 hw2 TKM
                          have PXM := Aside0.mk (blk_below PX12.out BM.out)
                          clear hm hlm e2 hrd
                          cases f with
                          | true =>
                            go_wp2_with (first
                              | ((with_reducible refine gate_dst (N := 21) rfl ?_); refine box_event ?hg (N := 21) ?hd (cs := #[.int .u32 0, .int .i64 0, .int .i64 0]) (t := 42) ?hr ?_; (case hd => rfl); (case hg => rfl); (case hr => first | (go_simp; done) | (go_simp; rfl)); intro gy hgy w13 hbox hb; have BO := Aside0.mk hbox; have HB5 := Aside0.mk hb; have HGY := Aside0.mk hgy; have PX13 := Aside0.mk (blk_below PXM.out hb); clear hgy hbox hb)
                              | ((with_reducible refine gate_ (.store 42 (.tmp 21) (.tmp 115)) rfl ?_); refine Hand.wpList_store_blk rfl rfl 42 (.tmp 21) (.tmp 115) rfl [.int .u32 y.f0.f0, .int .i64 y.f0.f1, .int .i64 y.f1] #[.int .u32 y.f0.f0, .int .i64 y.f0.f1, .int .i64 y.f1] rfl rfl BO.out rfl size42 (Nat.le_refl 3) (fun u hu => by simp at hu; rcases hu with rfl | rfl | rfl <;> rfl) rfl (fun w14 hp => ?_); have PY := Aside0.mk hp.box; have HM6 := Aside0.mk (below_step BM.out (hp.bl _ HB5.out (Nat.le_of_eq HGY.out.symm))); have PX14 := Aside0.mk (hp.keep PX13.out (by have h1 := blk_lt PXM.out; have h2 := HGY.out; omega)); have y0 : w14.cell? ⟨gy, 0, none⟩ = some (.int .u32 y.f0.f0) := (blk_cell PY.out 0).trans rfl; have y1 : w14.cell? ⟨gy, 1, none⟩ = some (.int .i64 y.f0.f1) := (blk_cell PY.out 1).trans rfl; have y2 : w14.cell? ⟨gy, 2, none⟩ = some (.int .i64 y.f1) := (blk_cell PY.out 2).trans rfl; have x0 : w14.cell? ⟨gx, 0, none⟩ = some (.int .u32 x.f0.f0) := (blk_cell PX14.out 0).trans rfl; have x1 : w14.cell? ⟨gx, 1, none⟩ = some (.int .i64 x.f0.f1) := (blk_cell PX14.out 1).trans rfl; have x2 : w14.cell? ⟨gx, 2, none⟩ = some (.int .i64 x.f1) := (blk_cell PX14.out 2).trans rfl; clear hp hw0 hw1 hw2))
                            go_roundg (rows.length - (m + 1))
                            case measure => have := HM.out; have := HLM.out; omega
                            case rel => exact ⟨m + 1, true, by have := HLM.out; omega, by rw [wS (by have := HLM.out; have := ML.out; omega)], rfl, ⟨by rw [TKM.out, ← HF.out]; rfl⟩, HM6⟩
                          | false =>
                            go_wp2_with (first
                              | ((with_reducible refine gate_dst (N := 21) rfl ?_); refine box_event ?hg (N := 21) ?hd (cs := #[.int .u32 0, .int .i64 0, .int .i64 0]) (t := 42) ?hr ?_; (case hd => rfl); (case hg => rfl); (case hr => first | (go_simp; done) | (go_simp; rfl)); intro gy hgy w13 hbox hb; have BO := Aside0.mk hbox; have HB5 := Aside0.mk hb; have HGY := Aside0.mk hgy; have PX13 := Aside0.mk (blk_below PXM.out hb); clear hgy hbox hb)
                              | ((with_reducible refine gate_ (.store 42 (.tmp 21) (.tmp 115)) rfl ?_); refine Hand.wpList_store_blk rfl rfl 42 (.tmp 21) (.tmp 115) rfl [.int .u32 y.f0.f0, .int .i64 y.f0.f1, .int .i64 y.f1] #[.int .u32 y.f0.f0, .int .i64 y.f0.f1, .int .i64 y.f1] rfl rfl BO.out rfl size42 (Nat.le_refl 3) (fun u hu => by simp at hu; rcases hu with rfl | rfl | rfl <;> rfl) rfl (fun w14 hp => ?_); have PY := Aside0.mk hp.box; have HM6 := Aside0.mk (below_step BM.out (hp.bl _ HB5.out (Nat.le_of_eq HGY.out.symm))); have PX14 := Aside0.mk (hp.keep PX13.out (by have h1 := blk_lt PXM.out; have h2 := HGY.out; omega)); have y0 : w14.cell? ⟨gy, 0, none⟩ = some (.int .u32 y.f0.f0) := (blk_cell PY.out 0).trans rfl; have y1 : w14.cell? ⟨gy, 1, none⟩ = some (.int .i64 y.f0.f1) := (blk_cell PY.out 1).trans rfl; have y2 : w14.cell? ⟨gy, 2, none⟩ = some (.int .i64 y.f1) := (blk_cell PY.out 2).trans rfl; have x0 : w14.cell? ⟨gx, 0, none⟩ = some (.int .u32 x.f0.f0) := (blk_cell PX14.out 0).trans rfl; have x1 : w14.cell? ⟨gx, 1, none⟩ = some (.int .i64 x.f0.f1) := (blk_cell PX14.out 1).trans rfl; have x2 : w14.cell? ⟨gx, 2, none⟩ = some (.int .i64 x.f1) := (blk_cell PX14.out 2).trans rfl; clear hp hw0 hw1 hw2))
                            all_goals go_roundg (rows.length - (m + 1))
                            all_goals first
                              | (have := HM.out; have := HLM.out; omega)
                              | exact ⟨m + 1, eqS x y, by have := HLM.out; omega, by first | rw [wS (by have := HLM.out; have := ML.out; omega)] | simp, by (simp only [Value.bool.injEq, eqS]; simp; first | exact ⟨⟨by assumption, by assumption⟩, by assumption⟩ | exact ⟨by assumption, by assumption, by assumption⟩ | (intros; first | assumption | contradiction)), ⟨by rw [TKM.out, ← HF.out]; rfl⟩, HM6⟩
                        · have hcm : decide (m < rows.length) = false := decide_eq_false hlm
                          obtain rfl : m = rows.length := by omega
                          have hft : f = true := by rw [HF.out, List.take_length]; exact any_eqS MR.out
                          subst hft
                          clear hm hlm
                          go_wp2
                          go_roundg (2 - (i + 1))
                          case measure => have := HI.out; have := HLI.out; omega
                          case rel => exact ⟨i + 1, by have := HLI.out; omega, by first | rw [wS (by have := HLI.out; omega)] | simp, ⟨below_step BF.out (below_step B12.out BM.out)⟩⟩
                    · have hci : decide (i < 2) = false := decide_eq_false hli
                      have hci2 : decide ((i : Int) < 2) = false := decide_eq_false (by omega)
                      obtain rfl : i = 2 := by omega
                      clear hi hli
                      go_wp2
                      go_roundg (l.length - (j + 1))
                      case measure => have := HJ.out; have := HLJ.out; omega
                      case rel => exact ⟨j + 1, by have := HLJ.out; omega, by rw [wS (by have := HLJ.out; have := LN.out; omega)], ⟨below_step BE.out BF.out⟩⟩
            · have hcj : decide (j < l.length) = false := decide_eq_false hlj
              obtain rfl : j = l.length := by omega
              clear hj hlj
              go_wp2_with (first
                | (go_at_call 7; refine (awake_.calls _).mono ?_; rintro e w20 ⟨rfl, hb⟩; have B20 := Aside0.mk hb; clear hb))
              go_ret
              exact ⟨rfl, below_step (T10.out.below BL.out).bl B20.out⟩


theorem k35_mk (w : World) (x : S35) : k35.K w x [.bool x.f0, .int .u32 x.f1.f0, .int .i64 x.f1.f1, .int .i64 x.f2] := ⟨[.bool x.f0], [.int .u32 x.f1.f0, .int .i64 x.f1.f1, .int .i64 x.f2], rfl, rfl, ⟨[.int .u32 x.f1.f0, .int .i64 x.f1.f1], [.int .i64 x.f2], rfl, k33_mk w x.f1, rfl⟩⟩
/-! ### crossbucklaw10_TrieMoves: function 3 (by hand) -/
def crossbucklaw10_TrieMoves.f (l0 : List S35) (a1 : Int) : Option Bool := if (∀ o ∈ l0, okO o) ∧ 0 ≤ a1 ∧ a1 < 256 then some true else none
set_option maxHeartbeats 8000000 in
set_option maxRecDepth 100000 in
theorem moves_long (A0 : Option Addr) (c0 : Nat) (l0 : List S35) (a1 : Int) (w : World) (h : 40 < l0.length) :
    Calls Try.prog 3 #[.slice A0 l0.length c0, .int .u8 a1] w fun e w' => e = .returned (.bool true) ∧ Below w.heap.size w w' := by
  have B0 := Aside0.mk (Below.refl w.heap.size w)
  have q1 : decide (40 < l0.length) = true := decide_eq_true h
  have q3 : decide ((40 : Int) < (l0.length : Int)) = true := decide_eq_true (by omega)
  clear h
  go_enter Try.func3, Try.ntmps3
  go_wp2_with (first
    | (go_at_call 7; refine (awake_.calls _).mono ?_; rintro e w5 ⟨rfl, hb⟩; have B5 := Aside0.mk (below_step B0.out hb); clear hb))
  go_ret
  exact ⟨rfl, B5.out⟩
theorem crossbucklaw10_TrieMoves.calls (A0 : Option Addr) (c0 : Nat) (l0 : List S35) (a1 : Int) (r : Bool) (w : World) (hr0 : Kd.C k35 w A0 l0.length l0) (hc0 : l0.length ≤ c0) (h : crossbucklaw10_TrieMoves.f l0 a1 = some r) :
    Calls Try.prog 3 #[.slice A0 l0.length c0, .int .u8 a1] w fun e w' => e = .returned (.bool r) ∧ Below w.heap.size w w' := by
  unfold crossbucklaw10_TrieMoves.f at h
  by_cases hk : (∀ o ∈ l0, okO o) ∧ 0 ≤ a1 ∧ a1 < 256
  · rw [if_pos hk] at h
    obtain rfl := Option.some.inj h
    by_cases h1 : 40 < l0.length
    · exact moves_long A0 c0 l0 a1 w h1
    · exact moves_walk A0 c0 l0 a1 w hr0 hc0 (by omega) hk.1 hk.2.1 hk.2.2
  · rw [if_neg hk] at h
    cases h

end Go.Proofs.Ytbmibakhpealjaa.PTr
