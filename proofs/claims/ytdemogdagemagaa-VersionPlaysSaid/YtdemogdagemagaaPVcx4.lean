-- The walks of the chain's functions (version), by hand; the library's few by the print.
import Derived.Test.YtdemogdagemagaaPVcx5
namespace Go.Proofs.Ytdemogdagemagaa.PVc
open Go.RowKit Go.Proofs.YtdemogdagemagaaW.PrintWords Go.Proofs.YtdemogdagemagaaW.PrintLast Go.Proofs.YtdemogdagemagaaW.PrintMore
attribute [local go_sem] max2_int min2_int max_two min_two max_three min_three max_four min_four   -- for this text's walks alone
set_option linter.unusedVariables false
set_option linter.unusedSimpArgs false

def plays.T21 : Bool × List (List Nat × List Nat) := (true, [([], []), ([], []), ([0, 1], [0, 1]), ([2], [2]), ([3], [3]), ([4, 3, 3], [3, 4]), ([3], [3]), ([6, 5, 3], [3, 6]), ([5, 7, 3], [3, 5, 7]), ([3, 8], [3, 8]), ([9, 7], [9]), ([10], [10]), ([11, 10, 10], [10, 11]), ([10], [10]), ([13, 10], [10, 13]), ([14, 10], [10, 14]), ([12, 15, 10], [10, 12, 15]), ([10, 16], [10, 16]), ([17, 12], [17]), ([18], [18]), ([19, 18, 18], [18, 19]), ([18], [18]), ([21, 18], [18, 21]), ([18], [18]), ([23, 18], [18, 23]), ([24, 18], [18, 24]), ([25, 18], [18, 25]), ([22, 26, 18], [18, 22, 26]), ([27, 18], [18, 27]), ([20, 28, 18], [18, 20, 28]), ([18, 29], [18, 29])])
def plays.B21 : List Nat := [0, 0, 3, 7, 15, 31, 15, 127, 255, 511, 1023, 2047, 4095, 2047, 10239, 26623, 65535, 131071, 262143, 524287, 1048575, 524287, 2621439, 524287, 8912895, 25690111, 59244543, 132644863, 266862591, 536870911, 1073741823]
theorem plays.tab21 : rtab .any (opsOf Try.f7 21) = plays.T21 := by kernel_rfl
theorem plays.bits21 : waitsOk plays.T21.2 plays.B21 = true := by kernel_rfl
def plays.T27 : Bool × List (List Nat × List Nat) := (true, [([], []), ([], []), ([0, 1], [0, 1]), ([], []), ([], []), ([3, 4, 2], [3, 4]), ([2, 5], [2, 5]), ([6, 5], [6]), ([7], [7]), ([7], [7]), ([7], [7]), ([9, 10, 7, 7], [7, 9, 10]), ([8, 11, 7], [7, 8, 11]), ([7, 12], [7, 12]), ([13, 11], [13]), ([14], [14]), ([15, 14, 14], [14, 15]), ([16], [16]), ([16], [16]), ([18, 16], [16, 18]), ([16], [16]), ([16], [16]), ([20, 21, 16, 16], [16, 20, 21]), ([19, 22, 16], [16, 19, 22]), ([23, 16], [16, 23]), ([17, 24, 16], [16, 17, 24]), ([16, 25, 14], [14, 16, 25]), ([14, 26], [14, 26]), ([27, 22], [27]), ([28], [28]), ([29, 28], [28, 29]), ([30, 28, 28], [28, 30]), ([31], [31]), ([32, 31], [31, 32]), ([31, 33, 28], [28, 31, 33]), ([28, 34], [28, 34])])
def plays.B27 : List Nat := [0, 0, 3, 0, 0, 31, 63, 127, 255, 255, 255, 1791, 4095, 8191, 16383, 32767, 65535, 131071, 131071, 393215, 131071, 131071, 3276799, 8257535, 16646143, 33554431, 67108863, 134217727, 268435455, 536870911, 1073741823, 2147483647, 4294967295, 8589934591, 17179869183, 34359738367]
theorem plays.tab27 : rtab .any (opsOf Try.f7 27) = plays.T27 := by kernel_rfl
theorem plays.bits27 : waitsOk plays.T27.2 plays.B27 = true := by kernel_rfl
theorem lens {its : List S96} {ps E V : List Int} {n : Nat} (h : Rel its ps E V) (hl : E.length ≤ n + 2 ∧ ps.length ≤ n + 1) (hn : n < 60) : 0 < its.length ∧ its.length ≤ 61 ∧ ps.length ≤ 60 ∧ E.length ≤ 61 ∧ V.length ≤ 61 ∧ 0 < V.length ∧ 0 < E.length := by
  have h1 := h.len
  have h2 := h.pos
  have h3 := h.posI
  have h4 := (retGo_sub (keepB (Z E V) ps) (Z E V) 0).length_le
  rw [show retGo (keepB (Z E V) ps) (Z E V) 0 = its from h.items.symm, Z_len h1] at h4
  omega
theorem pubR_len (E V : List Int) (e v : Int) : (pubR E V e v).1.length ≤ E.length + 1 := by
  unfold pubR
  split <;> simp
theorem pinR_len (E P : List Int) (a : Int) : (pinR E P a).2.length ≤ P.length + 1 := by
  unfold pinR
  split <;> simp
theorem unpR_len (P : List Int) (a : Int) : (unpR P a).2.length ≤ P.length + 1 := by
  unfold unpR
  split
  · have := List.length_erase_le (a := a) (l := P)
    show (P.erase a).length ≤ P.length + 1
    omega
  · show P.length ≤ P.length + 1
    omega
set_option maxHeartbeats 16000000 in
set_option maxRecDepth 100000 in
theorem plays_ (A0 : Option Addr) (c0 : Nat) (l0 : List S63) (a1 : Int) (A2 : Option Addr) (c2 : Nat) (l2 : List Int) (w : World) (hr0 : Kd.C k63 w A0 l0.length l0) (hc0 : l0.length ≤ c0) (hr2 : Kd.C (Kd.int .i64) w A2 l2.length l2) (hc2 : l2.length ≤ c2) (hl0 : l0.length ≤ 60) (hl2 : l2.length ≤ 20) :
    Calls Try.prog 7 #[.slice A0 l0.length c0, .int .i64 a1, .slice A2 l2.length c2] w fun e w' => e = .returned (.bool true) ∧ Below w.heap.size w w' := by
  have B0 := Aside0.mk (Below.refl w.heap.size w)
  have HR0 := Aside0.mk hr0
  have HR2 := Aside0.mk hr2
  have HL0 := Aside0.mk hl0
  have HL2 := Aside0.mk hl2
  have q1 : decide (60 < l0.length) = false := decide_eq_false (by omega)
  have q2 : decide (20 < l2.length) = false := decide_eq_false (by omega)
  have q3 : decide ((60 : Int) < (l0.length : Int)) = false := decide_eq_false (by omega)
  have q4 : decide ((20 : Int) < (l2.length : Int)) = false := decide_eq_false (by omega)
  clear hr0 hr2 hc0 hc2 hl0 hl2
  go_enter Try.func7, Try.ntmps7
  go_wp2_with (first
    | (go_at_call 25; refine (new_.calls a1 _).mono ?_; rintro e w1 ⟨g, rfl, hc, hb⟩; have C1 := Aside0.mk hc; have B1 := Aside0.mk (below_step B0.out hb); clear hc hb)
    | (go_at_call 26; refine (crossbuckref18_New.calls a1 [0] [a1] [] _ (new_ev a1)).mono ?_; rintro e w2 ⟨v0, v1, v2, rfl, h0, h1, h2, hb⟩; obtain ⟨X0, x0, rfl⟩ := Kd.R_slice h0; obtain ⟨X1, x1, rfl⟩ := Kd.R_slice h1; obtain ⟨X2, x2, rfl⟩ := Kd.R_slice h2; have N0 := Aside0.mk h0; have N1 := Aside0.mk h1; have N2 := Aside0.mk h2; have BN := Aside0.mk hb; clear h0 h1 h2 hb)
    | ((with_reducible refine gate_dst (N := 8) rfl ?_); refine box_event ?hg (N := 8) ?hd (cs := #[.slice none 0 0, .slice none 0 0, .slice none 0 0]) (t := 60) ?hr ?_; (case hd => rfl); (case hg => rfl); (case hr => first | (go_simp; done) | (go_simp; rfl)); intro gm hgm w3 hbox hb; have BX := Aside0.mk hbox; have BB := Aside0.mk hb; have GM := Aside0.mk hgm; have hcz0 : w3.cell? ⟨gm, 0, none⟩ = some (.slice none 0 0) := (blk_cell hbox 0).trans rfl; have hcz1 : w3.cell? ⟨gm, 1, none⟩ = some (.slice none 0 0) := (blk_cell hbox 1).trans rfl; have hcz2 : w3.cell? ⟨gm, 2, none⟩ = some (.slice none 0 0) := (blk_cell hbox 2).trans rfl; have hf0 := blk_frozen hbox 0; have hf1 := blk_frozen hbox 1; have hf2 := blk_frozen hbox 2; clear hgm hbox hb))
  clear hcz0 hcz1 hcz2 hf0 hf1 hf2
  obtain ⟨w4, e4, b4, k4, t4, l4⟩ := box3 BX.out (.slice X0 1 x0) (.slice X1 1 x1) (.slice X2 0 x2)
  have B2 := Aside0.mk (below_then B1.out B1.out.size BN.out)
  have HP0 := Aside0.mk (Pl.start C1.out B1.out N0.out N1.out N2.out BN.out BB.out GM.out k4 b4 t4 (l4 w (below_then B2.out B2.out.size BB.out) (by rw [GM.out]; exact B2.out.size)))
  have HRl := Aside0.mk (Rel.new_ a1)
  rw [← e4]
  clear e4 b4 k4 t4 l4 BX BB N0 N1 N2 C1 B1 BN B2
  go_loopg [34] l0.length (fun kq v34 wr => ∃ (i : Nat) (S : Nat → Prop) (its : List S96) (ps E V : List Int) (v0 v1 v2 : Value), i + kq = l0.length ∧ v34 = .int .i64 i ∧ Aside0 (Pl w wr S g gm its ps E V ps v0 v1 v2) ∧ Aside0 (Rel its ps E V) ∧ Aside0 (E.length ≤ i + 1 ∧ ps.length ≤ i))
  case atStart => exact ⟨0, _, _, _, _, _, _, _, _, by omega, rfl, HP0, HRl, ⟨by simp, by simp⟩⟩
  case round =>
    clear HP0 HRl
    obtain ⟨i, S, its, ps, E, V, v0, v1, v2, hi, rfl, HP, HRl, HLn⟩ := hrel
    have HI := Aside0.mk hi
    by_cases hlt : i < l0.length
    · have hcn : decide (i < l0.length) = true := decide_eq_true hlt
      have p : 0 ≤ (i : Int) := by omega
      have q : (i : Int) < (l0.length : Int) := by omega
      obtain ⟨ad, e1, hx0, hx1, hx2⟩ := at_T63 (Kd.C_below HR0.out HP.out.bl) (i : Int) p q
      cases e1
      have e2 : (i : Int).toNat = i := by omega
      rw [e2] at hx0 hx1 hx2
      generalize rd_T63 l0 (i : Int) = x at hx0 hx1 hx2
      replace p := eq_true p
      replace q := eq_true q
      have HP := Aside0.mk HP.out.bound
      have HLT := Aside0.mk hlt
      have L0 := Aside0.mk (lens HRl.out ⟨by have := HLn.out.1; omega, by have := HLn.out.2; omega⟩ (show i < 60 by have := HL0.out; omega))
      clear hi hlt e2
      go_upto_block 2 with (first
        | ((with_reducible refine gate_dst (N := 10) rfl ?_); refine box_event ?hg (N := 10) ?hd (cs := #[.int .i64 0, .int .i64 0, .int .i64 0]) (t := 63) ?hr ?_; (case hd => rfl); (case hg => rfl); (case hr => first | (go_simp; done) | (go_simp; rfl)); intro g1 hg1 w5 hbox hb; have hz0 : w5.cell? ⟨g1, 0, none⟩ = some (.int .i64 0) := (blk_cell hbox 0).trans rfl; have hz1 : w5.cell? ⟨g1, 1, none⟩ = some (.int .i64 0) := (blk_cell hbox 1).trans rfl; have hz2 : w5.cell? ⟨g1, 2, none⟩ = some (.int .i64 0) := (blk_cell hbox 2).trans rfl; have hf0 := blk_frozen hbox 0; have hf1 := blk_frozen hbox 1; have hf2 := blk_frozen hbox 2; have HG1 := Aside0.mk hg1; have BO := Aside0.mk (blk_put (blk_put (blk_put hbox 0 (.int .i64 x.f0) (cs' := #[.int .i64 x.f0, .int .i64 0, .int .i64 0]) rfl) 1 (.int .i64 x.f1) (cs' := #[.int .i64 x.f0, .int .i64 x.f1, .int .i64 0]) rfl) 2 (.int .i64 x.f2) (cs' := #[.int .i64 x.f0, .int .i64 x.f1, .int .i64 x.f2]) rfl); have HPO := Aside0.mk (HP.out.below (below_set (j := 2) (v := .int .i64 x.f2) (below_set (j := 1) (v := .int .i64 x.f1) (below_set (j := 0) (v := .int .i64 x.f0) hb (Nat.le_of_eq hg1.symm)) (Nat.le_of_eq hg1.symm)) (Nat.le_of_eq hg1.symm))); clear hbox hb hg1))
      have OB := Aside0.mk (show Ob _ (fun k => S k ∧ k < wr.heap.size) g1 x.f0 x.f1 x.f2 from ⟨BO.out, fun hc => by have := HG1.out; omega⟩)
      clear BO HG1 hz0 hz1 hz2 hf0 hf1 hf2
      go_cut [11, 12] (fun s11 s12 wx => ∃ (e : Int) (S : Nat → Prop) (its : List S96) (ps E V : List Int) (v0 v1 v2 : Value), s11 = .int .i64 e ∧ s12 = .int .i64 e ∧ Aside0 (Pl w wx S g gm its ps E V ps v0 v1 v2) ∧ Aside0 (Rel its ps E V) ∧ Aside0 (E.length ≤ i + 2 ∧ ps.length ≤ i + 1))
      case first =>
        have ho0 := OB.out.c0
        have ho1 := OB.out.c1
        have ho2 := OB.out.c2
        have M1 := Aside0.mk (show 0 < its.length from L0.out.1)
        have M2 := Aside0.mk (show its.length < 1000000 by have := L0.out.2.1; omega)
        have M2' := Aside0.mk (Nat.le_of_lt M2.out)
        have M3 := Aside0.mk (show ps.length < 1000000 by have := L0.out.2.2.1; omega)
        have M3' := Aside0.mk (Nat.le_of_lt M3.out)
        have M4 := Aside0.mk (show 0 < E.length ∧ E.length ≤ 1000 ∧ V.length ≤ 1000 ∧ ps.length ≤ 1000 by have := L0.out; omega)
        by_cases k0 : x.f0 = 0
        · have q5 : (x.f0 == 0) = true := beq_iff_eq.mpr k0
          clear k0
          obtain ⟨its2, hpub, hrel2⟩ := HRl.out.pub_ x.f1 x.f2
          have hrp := pub_f x.f1 x.f2 E V ps M4.out.1 M4.out.2.1 M4.out.2.2.1
          have hle := pubR_len E V x.f1 x.f2
          generalize pubR E V x.f1 x.f2 = T at hpub hrel2 hrp hle
          obtain ⟨E2, V2, r2⟩ := T
          have PU := Aside0.mk (show pubE its ps x.f1 x.f2 = (r2, its2) from hpub)
          have RP := Aside0.mk (show crossbuckref18_Publish.f E V ps x.f1 x.f2 = some (E2, V2, ps, r2) from hrp)
          have RE := Aside0.mk (show Rel its2 ps E2 V2 from hrel2)
          have LE := Aside0.mk (show E2.length ≤ E.length + 1 from hle)
          clear hpub hrel2 hrp hle
          go_wp2_with (first
            | (go_at_call 27; (with_reducible refine (pl_pub HPO.out M1.out M2.out M3'.out PU.out).mono ?_); rintro e w6 ⟨rfl, hq, hk⟩; have HP6 := Aside0.mk hq; have OB6 := Aside0.mk (OB.out.kept hk); clear hq hk ho0 ho1 ho2; have ho0 := OB6.out.c0; have ho1 := OB6.out.c1; have ho2 := OB6.out.c2; have hm0 := HP6.out.c0; have hm1 := HP6.out.c1; have hm2 := HP6.out.c2)
            | (go_at_call 28; (with_reducible refine (pl_rpub HP6.out RP.out).mono ?_); rintro e w7 ⟨u0, u1, u2, rfl, hq⟩; obtain ⟨Y0, y0, rfl⟩ := Kd.R_slice hq.h0; obtain ⟨Y1, y1, rfl⟩ := Kd.R_slice hq.h1; obtain ⟨Y2, y2, rfl⟩ := Kd.R_slice hq.h2; have RO := Aside0.mk hq; clear hq hm0 hm1 hm2; have hy0 : w7.cell? ⟨gm, 0, none⟩ = some v0 := (blk_cell (RO.out.box HP6.out) 0).trans rfl; have hy1 : w7.cell? ⟨gm, 1, none⟩ = some v1 := (blk_cell (RO.out.box HP6.out) 1).trans rfl; have hy2 : w7.cell? ⟨gm, 2, none⟩ = some v2 := (blk_cell (RO.out.box HP6.out) 2).trans rfl; have hg0 := blk_frozen (RO.out.box HP6.out) 0; have hg1 := blk_frozen (RO.out.box HP6.out) 1; have hg2 := blk_frozen (RO.out.box HP6.out) 2))
          go_meet
          exact ⟨r2, _, its2, ps, E2, V2, _, _, _, rfl, rfl, ⟨RO.out.stored HP6.out⟩, RE, ⟨by have := LE.out; have := HLn.out.1; omega, by have := HLn.out.2; omega⟩⟩
        · have q5 : (x.f0 == 0) = false := beq_eq_false_iff_ne.mpr k0
          clear k0
          by_cases k1 : x.f0 = 1
          · have q6 : (x.f0 == 1) = true := beq_iff_eq.mpr k1
            clear k1
            obtain ⟨hpin, hrel2⟩ := HRl.out.pin_ x.f1
            obtain ⟨K, hK⟩ := pin_ev x.f1 E V ps M4.out.1 M4.out.2.1 M4.out.2.2.2
            have hrp := hK K (Nat.le_refl _)
            have hle := pinR_len E ps x.f1
            generalize pinR E ps x.f1 = T at hpin hrel2 hrp hle
            obtain ⟨r2, ps2⟩ := T
            have PU := Aside0.mk (show pinE its ps x.f1 = (r2, ps2) from hpin)
            have RP := Aside0.mk (show crossbuckref18_Pin.f K E V ps x.f1 = some (E, V, ps2, r2) from hrp)
            have RE := Aside0.mk (show Rel its ps2 E V from hrel2)
            have LE := Aside0.mk (show ps2.length ≤ ps.length + 1 from hle)
            clear hpin hrel2 hrp hle hK
            go_wp2_with (first
              | (go_at_call 29; (with_reducible refine (pl_pin HPO.out M1.out M2'.out M3.out PU.out).mono ?_); rintro e w6 ⟨rfl, hq, hk⟩; have HP6 := Aside0.mk hq; have OB6 := Aside0.mk (OB.out.kept hk); clear hq hk ho0 ho1 ho2; have ho0 := OB6.out.c0; have ho1 := OB6.out.c1; have ho2 := OB6.out.c2; have hm0 := HP6.out.c0; have hm1 := HP6.out.c1; have hm2 := HP6.out.c2)
              | (go_at_call 30; (with_reducible refine (pl_rpin K HP6.out RP.out).mono ?_); rintro e w7 ⟨u0, u1, u2, rfl, hq⟩; obtain ⟨Y0, y0, rfl⟩ := Kd.R_slice hq.h0; obtain ⟨Y1, y1, rfl⟩ := Kd.R_slice hq.h1; obtain ⟨Y2, y2, rfl⟩ := Kd.R_slice hq.h2; have RO := Aside0.mk hq; clear hq hm0 hm1 hm2; have hy0 : w7.cell? ⟨gm, 0, none⟩ = some v0 := (blk_cell (RO.out.box HP6.out) 0).trans rfl; have hy1 : w7.cell? ⟨gm, 1, none⟩ = some v1 := (blk_cell (RO.out.box HP6.out) 1).trans rfl; have hy2 : w7.cell? ⟨gm, 2, none⟩ = some v2 := (blk_cell (RO.out.box HP6.out) 2).trans rfl; have hg0 := blk_frozen (RO.out.box HP6.out) 0; have hg1 := blk_frozen (RO.out.box HP6.out) 1; have hg2 := blk_frozen (RO.out.box HP6.out) 2))
            go_meet
            exact ⟨r2, _, its, ps2, E, V, _, _, _, rfl, rfl, ⟨RO.out.stored HP6.out⟩, RE, ⟨by have := HLn.out.1; omega, by have := LE.out; have := HLn.out.2; omega⟩⟩
          · have q6 : (x.f0 == 1) = false := beq_eq_false_iff_ne.mpr k1
            clear k1
            by_cases k2 : x.f0 = 2
            · have q7 : (x.f0 == 2) = true := beq_iff_eq.mpr k2
              clear k2
              obtain ⟨its2, hunp, hrel2⟩ := HRl.out.unp_ x.f1
              obtain ⟨K, hK⟩ := unp_ev x.f1 E V ps M4.out.2.2.2
              have hrp := hK K (Nat.le_refl _)
              have hle := unpR_len ps x.f1
              generalize unpR ps x.f1 = T at hunp hrel2 hrp hle
              obtain ⟨r2, ps2⟩ := T
              have PU := Aside0.mk (show unpE its ps x.f1 = (r2, its2, ps2) from hunp)
              have RP := Aside0.mk (show crossbuckref18_Unpin.f K E V ps x.f1 = some (E, V, ps2, r2) from hrp)
              have RE := Aside0.mk (show Rel its2 ps2 E V from hrel2)
              have LE := Aside0.mk (show ps2.length ≤ ps.length + 1 from hle)
              clear hunp hrel2 hrp hle hK
              go_wp2_with (first
                | (go_at_call 31; (with_reducible refine (pl_unp HPO.out M1.out M2'.out M3'.out PU.out).mono ?_); rintro e w6 ⟨rfl, hq, hk⟩; have HP6 := Aside0.mk hq; have OB6 := Aside0.mk (OB.out.kept hk); clear hq hk ho0 ho1 ho2; have ho0 := OB6.out.c0; have ho1 := OB6.out.c1; have ho2 := OB6.out.c2; have hm0 := HP6.out.c0; have hm1 := HP6.out.c1; have hm2 := HP6.out.c2)
                | (go_at_call 32; (with_reducible refine (pl_runp K HP6.out RP.out).mono ?_); rintro e w7 ⟨u0, u1, u2, rfl, hq⟩; obtain ⟨Y0, y0, rfl⟩ := Kd.R_slice hq.h0; obtain ⟨Y1, y1, rfl⟩ := Kd.R_slice hq.h1; obtain ⟨Y2, y2, rfl⟩ := Kd.R_slice hq.h2; have RO := Aside0.mk hq; clear hq hm0 hm1 hm2; have hy0 : w7.cell? ⟨gm, 0, none⟩ = some v0 := (blk_cell (RO.out.box HP6.out) 0).trans rfl; have hy1 : w7.cell? ⟨gm, 1, none⟩ = some v1 := (blk_cell (RO.out.box HP6.out) 1).trans rfl; have hy2 : w7.cell? ⟨gm, 2, none⟩ = some v2 := (blk_cell (RO.out.box HP6.out) 2).trans rfl; have hg0 := blk_frozen (RO.out.box HP6.out) 0; have hg1 := blk_frozen (RO.out.box HP6.out) 1; have hg2 := blk_frozen (RO.out.box HP6.out) 2))
              go_meet
              exact ⟨r2, _, its2, ps2, E, V, _, _, _, rfl, rfl, ⟨RO.out.stored HP6.out⟩, RE, ⟨by have := HLn.out.1; omega, by have := LE.out; have := HLn.out.2; omega⟩⟩
            · have q7 : (x.f0 == 2) = false := beq_eq_false_iff_ne.mpr k2
              clear k2
              go_wp2_with (fail)
              go_meet
              exact ⟨0, _, its, ps, E, V, v0, v1, v2, rfl, rfl, HPO, HRl, ⟨by have := HLn.out.1; omega, by have := HLn.out.2; omega⟩⟩
      case rest =>
        clear OB HPO HP HRl HLn L0
        obtain ⟨e, S, its, ps, E, V, v0, v1, v2, rfl, rfl, HP, HRl, HLn⟩ := hcut
        have L0 := Aside0.mk (lens HRl.out HLn.out (show i < 60 by have := HL0.out; have := HLT.out; omega))
        obtain ⟨adv, cv, rfl⟩ := HP.out.vsome L0.out.2.2.2.2.2.1
        obtain ⟨X2, c2', e2, _, _⟩ := HP.out.slices.2.2
        subst e2
        obtain ⟨K1, hK1⟩ := live_ev E V ps (by have := L0.out; omega) (by have := L0.out; omega)
        have LK := Aside0.mk (show crossbuckref18_Live.f K1 E V ps = some (its.length : Int) from (hK1 K1 (Nat.le_refl _)).trans (by rw [HRl.out.live_]))
        clear hK1
        obtain ⟨ji, hj⟩ : ∃ j : Int, j = (V.length : Int) - 1 := ⟨_, rfl⟩
        have hji : IntKind.i64.wrap ((V.length : Int) - 1) = ji := by rw [hj]; exact w64_len (by have := L0.out; omega) (by have := L0.out; omega)
        have HPJ := Aside0.mk (show 0 ≤ ji by have := L0.out; clear hji; omega)
        have HQJ := Aside0.mk (show ji < (V.length : Int) by clear hji; omega)
        have NW := Aside0.mk (show nowV its = rd V ji by rw [HRl.out.now_, hj, show (V.length : Int) - 1 = ((V.length - 1 : Nat) : Int) by have := L0.out; omega, rd_lt (by have := L0.out; omega), lst_eq (by have := L0.out; omega)])
        have I1 := Aside0.mk L0.out.1
        have I2 := Aside0.mk (show its.length ≤ 1000000 by have := L0.out; omega)
        have I3 := Aside0.mk (show ps.length ≤ 1000000 by have := L0.out; omega)
        have pj := eq_true HPJ.out
        have qj := eq_true HQJ.out
        clear hj
        have HPD := Aside0.mk HP.out.drew
        clear HP
        go_wp2
        refine start_ (n := 31) (S := fun w' => w'.cell? ⟨gm, 0, none⟩ = some v0 ∧ w'.cell? ⟨gm, 1, none⟩ = some (.slice (some adv) V.length cv) ∧ w'.cell? ⟨gm, 2, none⟩ = some (.slice X2 ps.length c2') ∧ w'.cell? (adv.add ji.toNat) = some (.int .i64 (rd V ji))) (ds := []) #[false, false, false, false, false, false, false, false, false, false, false, false, false, false, false, false, false, false, false, false, false, false, false, false, false, false, false, false, false, false, false] (by kernel_rfl) rfl rfl ⟨HPD.out.c0, HPD.out.c1, HPD.out.c2, (HPD.out.vcell ji HPJ.out HQJ.out)⟩ (fun hHeld => ?_)
        refine with_tabW plays.tab21 plays.bits21 (fun HT_ HW_ => ?_)
        generalize wc.drew = wd at HPD hHeld ⊢
        refine pure_ (i := 0) (N := some 83) (v := ?_) (a' := ?_) #[true, false, false, false, false, false, false, false, false, false, false, false, false, false, false, false, false, false, false, false, false, false, false, false, false, false, false, false, false, false, false] rfl rfl (any_of HT_.out (by kernel_rfl)) (fun _ _ _ h => h) (Or.inl ⟨by rfl, ?_⟩) ?_ ?_
        rotate_left
        · intro w'
          go_simp
          with_reducible rfl
        rotate_left
        · simp only [Act.put, List.setIfInBounds_toArray, List.set_cons_zero, List.set_cons_succ, i64_w, i32_w]
          rfl
        refine pure_ (i := 1) (N := some 84) (v := ?_) (a' := ?_) #[true, true, false, false, false, false, false, false, false, false, false, false, false, false, false, false, false, false, false, false, false, false, false, false, false, false, false, false, false, false, false] rfl rfl (any_of HT_.out (by kernel_rfl)) (fun _ _ _ h => h) (Or.inl ⟨by rfl, ?_⟩) ?_ ?_
        rotate_left
        · intro w'
          go_simp
          with_reducible rfl
        rotate_left
        · simp only [Act.put, List.setIfInBounds_toArray, List.set_cons_zero, List.set_cons_succ, i64_w, i32_w]
          rfl
        refine pure_ (i := 2) (N := some 85) (v := ?_) (a' := ?_) #[true, true, true, false, false, false, false, false, false, false, false, false, false, false, false, false, false, false, false, false, false, false, false, false, false, false, false, false, false, false, false] rfl rfl (any_of HT_.out (by kernel_rfl)) (fun _ _ _ h => h) (Or.inl ⟨by rfl, ?_⟩) ?_ ?_
        rotate_left
        · intro w'
          go_simp
          with_reducible rfl
        rotate_left
        · simp only [Act.put, List.setIfInBounds_toArray, List.set_cons_zero, List.set_cons_succ, i64_w, i32_w]
          rfl
        refine pure_ (i := 3) (N := some 86) (v := ?_) (a' := ?_) #[true, true, true, true, false, false, false, false, false, false, false, false, false, false, false, false, false, false, false, false, false, false, false, false, false, false, false, false, false, false, false] rfl rfl (any_of HT_.out (by kernel_rfl)) (fun _ _ _ h => h) (Or.inl ⟨by rfl, ?_⟩) ?_ ?_
        rotate_left
        · intro w'
          go_simp
          with_reducible rfl
        rotate_left
        · simp only [Act.put, List.setIfInBounds_toArray, List.set_cons_zero, List.set_cons_succ, i64_w, i32_w]
          rfl
        refine pure_ (i := 4) (N := some 87) (v := ?_) (a' := ?_) #[true, true, true, true, true, false, false, false, false, false, false, false, false, false, false, false, false, false, false, false, false, false, false, false, false, false, false, false, false, false, false] rfl rfl (any_of HT_.out (by kernel_rfl)) (fun _ _ _ h => h) (Or.inl ⟨by rfl, ?_⟩) ?_ ?_
        rotate_left
        · intro w'
          go_simp
          with_reducible rfl
        rotate_left
        · simp only [Act.put, List.setIfInBounds_toArray, List.set_cons_zero, List.set_cons_succ, i64_w, i32_w]
          rfl
        refine take_ (i := 6) (N := some 89) (v := ?_) (a' := ?_) #[true, true, true, true, true, false, true, false, false, false, false, false, false, false, false, false, false, false, false, false, false, false, false, false, false, false, false, false, false, false, false] rfl rfl (take_ofW HT_.out HW_.out (by kernel_rfl)) (fun _ _ _ h => h) (Or.inl ⟨by rfl, ?_⟩) hHeld ?_ ?_
        rotate_left
        · rintro w' ⟨s0, s1, s2, s3⟩
          go_simp
          with_reducible rfl
        rotate_left
        · simp only [Act.put, List.setIfInBounds_toArray, List.set_cons_zero, List.set_cons_succ, i64_w, i32_w]
          rfl
        refine one_ (i := 5) (N := some 88) #[true, true, true, true, true, true, true, false, false, false, false, false, false, false, false, false, false, false, false, false, false, false, false, false, false, false, false, false, false, false, false] rfl rfl (one_of HT_.out (by kernel_rfl)) (by decide) (fun K hK => ?_)
        refine goes_ Try.func33 (by kernel_rfl) rfl #[.pointer (some ⟨g, 0, none⟩)] (by rfl) rfl rfl (by (try simp only [List.map_toArray, List.map_cons, List.map_nil]); first | done | rfl) ?_
        with_reducible refine (pl_live HPD.out).mono ?_
        rintro e wz ⟨rfl, hz⟩
        refine ⟨_, rfl, ?_⟩
        have HQ1 := Aside0.mk hz
        clear hz
        refine hK.out _ _ ⟨HQ1.out.c0, HQ1.out.c1, HQ1.out.c2, (HQ1.out.vcell ji HPJ.out HQJ.out)⟩ (fun hHeld => ?_)
        clear hK K
        refine norm_ (a' := ?_) ?_ ?_
        rotate_left
        · show Act.put _ (some 88) _ = _
          simp only [Act.put, List.setIfInBounds_toArray, List.set_cons_zero, List.set_cons_succ, i64_w, i32_w]
          rfl
        refine one_ (i := 7) (N := some 90) #[true, true, true, true, true, true, true, true, false, false, false, false, false, false, false, false, false, false, false, false, false, false, false, false, false, false, false, false, false, false, false] rfl rfl (one_of HT_.out (by kernel_rfl)) (by decide) (fun K hK => ?_)
        refine goes_ Try.func34 (by kernel_rfl) rfl #[.agg #[v0, .slice (some adv) V.length cv, .slice X2 ps.length c2']] (by rfl) rfl rfl (by (try simp only [List.map_toArray, List.map_cons, List.map_nil]); first | done | rfl) ?_
        with_reducible refine (pl_rlive K1 _ HQ1.out LK.out).mono ?_
        rintro e wz ⟨rfl, hz⟩
        refine ⟨_, rfl, ?_⟩
        have HQ2 := Aside0.mk hz
        clear hz
        refine hK.out _ _ ⟨HQ2.out.c0, HQ2.out.c1, HQ2.out.c2, (HQ2.out.vcell ji HPJ.out HQJ.out)⟩ (fun hHeld => ?_)
        clear hK K
        refine norm_ (a' := ?_) ?_ ?_
        rotate_left
        · show Act.put _ (some 90) _ = _
          simp only [Act.put, List.setIfInBounds_toArray, List.set_cons_zero, List.set_cons_succ, i64_w, i32_w]
          rfl
        refine pure_ (i := 8) (N := some 91) (v := ?_) (a' := ?_) #[true, true, true, true, true, true, true, true, true, false, false, false, false, false, false, false, false, false, false, false, false, false, false, false, false, false, false, false, false, false, false] rfl rfl (any_of HT_.out (by kernel_rfl)) (fun _ _ _ h => h) (Or.inl ⟨by rfl, ?_⟩) ?_ ?_
        rotate_left
        · intro w'
          go_simp
          with_reducible rfl
        rotate_left
        · simp only [Act.put, List.setIfInBounds_toArray, List.set_cons_zero, List.set_cons_succ, i64_w, i32_w]
          rfl
        refine pure_ (i := 9) (N := some 92) (v := ?_) (a' := ?_) #[true, true, true, true, true, true, true, true, true, true, false, false, false, false, false, false, false, false, false, false, false, false, false, false, false, false, false, false, false, false, false] rfl rfl (any_of HT_.out (by kernel_rfl)) (fun _ _ _ h => h) (Or.inl ⟨by rfl, ?_⟩) ?_ ?_
        rotate_left
        · intro w'
          go_simp
          with_reducible rfl
        rotate_left
        · simp only [Act.put, List.setIfInBounds_toArray, List.set_cons_zero, List.set_cons_succ, i64_w, i32_w]
          rfl
        refine pure_ (i := 10) (N := some 93) (v := ?_) (a' := ?_) #[true, true, true, true, true, true, true, true, true, true, true, false, false, false, false, false, false, false, false, false, false, false, false, false, false, false, false, false, false, false, false] rfl rfl (any_of HT_.out (by kernel_rfl)) (fun _ _ _ h => h) (Or.inl ⟨by rfl, ?_⟩) ?_ ?_
        rotate_left
        · intro w'
          go_simp
          with_reducible rfl
        rotate_left
        · simp only [Act.put, List.setIfInBounds_toArray, List.set_cons_zero, List.set_cons_succ, i64_w, i32_w]
          rfl
        refine pure_ (i := 11) (N := some 94) (v := ?_) (a' := ?_) #[true, true, true, true, true, true, true, true, true, true, true, true, false, false, false, false, false, false, false, false, false, false, false, false, false, false, false, false, false, false, false] rfl rfl (any_of HT_.out (by kernel_rfl)) (fun _ _ _ h => h) (Or.inl ⟨by rfl, ?_⟩) ?_ ?_
        rotate_left
        · intro w'
          go_simp
          with_reducible rfl
        rotate_left
        · simp only [Act.put, List.setIfInBounds_toArray, List.set_cons_zero, List.set_cons_succ, i64_w, i32_w]
          rfl
        refine pure_ (i := 13) (N := some 96) (v := ?_) (a' := ?_) #[true, true, true, true, true, true, true, true, true, true, true, true, false, true, false, false, false, false, false, false, false, false, false, false, false, false, false, false, false, false, false] rfl rfl (any_of HT_.out (by kernel_rfl)) (fun _ _ _ h => h) (Or.inl ⟨by rfl, ?_⟩) ?_ ?_
        rotate_left
        · intro w'
          go_simp
          with_reducible rfl
        rotate_left
        · simp only [Act.put, List.setIfInBounds_toArray, List.set_cons_zero, List.set_cons_succ, i64_w, i32_w]
          rfl
        refine take_ (i := 14) (N := some 97) (v := ?_) (a' := ?_) #[true, true, true, true, true, true, true, true, true, true, true, true, false, true, true, false, false, false, false, false, false, false, false, false, false, false, false, false, false, false, false] rfl rfl (take_ofW HT_.out HW_.out (by kernel_rfl)) (fun _ _ _ h => h) (Or.inl ⟨by rfl, ?_⟩) hHeld ?_ ?_
        rotate_left
        · rintro w' ⟨s0, s1, s2, s3⟩
          go_simp
          with_reducible rfl
        rotate_left
        · simp only [Act.put, List.setIfInBounds_toArray, List.set_cons_zero, List.set_cons_succ, i64_w, i32_w]
          rfl
        refine pure_ (i := 15) (N := some 98) (v := ?_) (a' := ?_) #[true, true, true, true, true, true, true, true, true, true, true, true, false, true, true, true, false, false, false, false, false, false, false, false, false, false, false, false, false, false, false] rfl rfl (any_of HT_.out (by kernel_rfl)) (fun _ _ _ h => h) (Or.inl ⟨by rfl, ?_⟩) ?_ ?_
        rotate_left
        · intro w'
          go_simp
          with_reducible rfl
        rotate_left
        · simp only [Act.put, List.setIfInBounds_toArray, List.set_cons_zero, List.set_cons_succ, i64_w, i32_w]
          rfl
        refine one_ (i := 12) (N := some 95) #[true, true, true, true, true, true, true, true, true, true, true, true, true, true, true, true, false, false, false, false, false, false, false, false, false, false, false, false, false, false, false] rfl rfl (one_of HT_.out (by kernel_rfl)) (by decide) (fun K hK => ?_)
        refine goes_ Try.func35 (by kernel_rfl) rfl #[.pointer (some ⟨g, 0, none⟩)] (by rfl) rfl rfl (by (try simp only [List.map_toArray, List.map_cons, List.map_nil]); first | done | rfl) ?_
        with_reducible refine (pl_pins HQ2.out).mono ?_
        rintro e wz ⟨rfl, hz⟩
        refine ⟨_, rfl, ?_⟩
        have HQ3 := Aside0.mk hz
        clear hz
        refine hK.out _ _ ⟨HQ3.out.c0, HQ3.out.c1, HQ3.out.c2, (HQ3.out.vcell ji HPJ.out HQJ.out)⟩ (fun hHeld => ?_)
        clear hK K
        refine norm_ (a' := ?_) ?_ ?_
        rotate_left
        · show Act.put _ (some 95) _ = _
          simp only [Act.put, List.setIfInBounds_toArray, List.set_cons_zero, List.set_cons_succ, i64_w, i32_w]
          rfl
        refine pure_ (i := 16) (N := some 99) (v := ?_) (a' := ?_) #[true, true, true, true, true, true, true, true, true, true, true, true, true, true, true, true, true, false, false, false, false, false, false, false, false, false, false, false, false, false, false] rfl rfl (any_of HT_.out (by kernel_rfl)) (fun _ _ _ h => h) (Or.inl ⟨by rfl, ?_⟩) ?_ ?_
        rotate_left
        · intro w'
          go_simp
          with_reducible rfl
        rotate_left
        · simp only [Act.put, List.setIfInBounds_toArray, List.set_cons_zero, List.set_cons_succ, i64_w, i32_w]
          rfl
        refine pure_ (i := 17) (N := some 100) (v := ?_) (a' := ?_) #[true, true, true, true, true, true, true, true, true, true, true, true, true, true, true, true, true, true, false, false, false, false, false, false, false, false, false, false, false, false, false] rfl rfl (any_of HT_.out (by kernel_rfl)) (fun _ _ _ h => h) (Or.inl ⟨by rfl, ?_⟩) ?_ ?_
        rotate_left
        · intro w'
          go_simp
          with_reducible rfl
        rotate_left
        · simp only [Act.put, List.setIfInBounds_toArray, List.set_cons_zero, List.set_cons_succ, i64_w, i32_w]
          rfl
        refine pure_ (i := 18) (N := some 101) (v := ?_) (a' := ?_) #[true, true, true, true, true, true, true, true, true, true, true, true, true, true, true, true, true, true, true, false, false, false, false, false, false, false, false, false, false, false, false] rfl rfl (any_of HT_.out (by kernel_rfl)) (fun _ _ _ h => h) (Or.inl ⟨by rfl, ?_⟩) ?_ ?_
        rotate_left
        · intro w'
          go_simp
          with_reducible rfl
        rotate_left
        · simp only [Act.put, List.setIfInBounds_toArray, List.set_cons_zero, List.set_cons_succ, i64_w, i32_w]
          rfl
        refine pure_ (i := 19) (N := some 102) (v := ?_) (a' := ?_) #[true, true, true, true, true, true, true, true, true, true, true, true, true, true, true, true, true, true, true, true, false, false, false, false, false, false, false, false, false, false, false] rfl rfl (any_of HT_.out (by kernel_rfl)) (fun _ _ _ h => h) (Or.inl ⟨by rfl, ?_⟩) ?_ ?_
        rotate_left
        · intro w'
          go_simp
          with_reducible rfl
        rotate_left
        · simp only [Act.put, List.setIfInBounds_toArray, List.set_cons_zero, List.set_cons_succ, i64_w, i32_w]
          rfl
        refine pure_ (i := 21) (N := some 104) (v := ?_) (a' := ?_) #[true, true, true, true, true, true, true, true, true, true, true, true, true, true, true, true, true, true, true, true, false, true, false, false, false, false, false, false, false, false, false] rfl rfl (any_of HT_.out (by kernel_rfl)) (fun _ _ _ h => h) (Or.inl ⟨by rfl, ?_⟩) ?_ ?_
        rotate_left
        · intro w'
          go_simp
          with_reducible rfl
        rotate_left
        · simp only [Act.put, List.setIfInBounds_toArray, List.set_cons_zero, List.set_cons_succ, i64_w, i32_w]
          rfl
        refine pure_ (i := 23) (N := some 106) (v := ?_) (a' := ?_) #[true, true, true, true, true, true, true, true, true, true, true, true, true, true, true, true, true, true, true, true, false, true, false, true, false, false, false, false, false, false, false] rfl rfl (any_of HT_.out (by kernel_rfl)) (fun _ _ _ h => h) (Or.inl ⟨by rfl, ?_⟩) ?_ ?_
        rotate_left
        · intro w'
          go_simp
          with_reducible rfl
        rotate_left
        · simp only [Act.put, List.setIfInBounds_toArray, List.set_cons_zero, List.set_cons_succ, i64_w, i32_w]
          rfl
        refine take_ (i := 22) (N := some 105) (v := ?_) (a' := ?_) #[true, true, true, true, true, true, true, true, true, true, true, true, true, true, true, true, true, true, true, true, false, true, true, true, false, false, false, false, false, false, false] rfl rfl (take_ofW HT_.out HW_.out (by kernel_rfl)) (fun _ _ _ h => h) (Or.inl ⟨by rfl, ?_⟩) hHeld ?_ ?_
        rotate_left
        · rintro w' ⟨s0, s1, s2, s3⟩
          go_simp
          with_reducible rfl
        rotate_left
        · simp only [Act.put, List.setIfInBounds_toArray, List.set_cons_zero, List.set_cons_succ, i64_w, i32_w]
          rfl
        refine take_ (i := 24) (N := some 107) (v := ?_) (a' := ?_) #[true, true, true, true, true, true, true, true, true, true, true, true, true, true, true, true, true, true, true, true, false, true, true, true, true, false, false, false, false, false, false] rfl rfl (take_ofW HT_.out HW_.out (by kernel_rfl)) (fun _ _ _ h => h) (Or.inl ⟨by rfl, ?_⟩) hHeld ?_ ?_
        rotate_left
        · rintro w' ⟨s0, s1, s2, s3⟩
          go_simp
          with_reducible rfl
        rotate_left
        · simp only [Act.put, List.setIfInBounds_toArray, List.set_cons_zero, List.set_cons_succ, i64_w, i32_w]
          rfl
        refine pure_ (i := 25) (N := some 108) (v := ?_) (a' := ?_) #[true, true, true, true, true, true, true, true, true, true, true, true, true, true, true, true, true, true, true, true, false, true, true, true, true, true, false, false, false, false, false] rfl rfl (any_of HT_.out (by kernel_rfl)) (fun _ _ _ h => h) (Or.inl ⟨by rfl, ?_⟩) ?_ ?_
        rotate_left
        · intro w'
          go_simp
          with_reducible rfl
        rotate_left
        · simp only [Act.put, List.setIfInBounds_toArray, List.set_cons_zero, List.set_cons_succ, i64_w, i32_w]
          rfl
        refine pure_ (i := 26) (N := some 109) (v := ?_) (a' := ?_) #[true, true, true, true, true, true, true, true, true, true, true, true, true, true, true, true, true, true, true, true, false, true, true, true, true, true, true, false, false, false, false] rfl rfl (any_of HT_.out (by kernel_rfl)) (fun _ _ _ h => h) (Or.inl ⟨by rfl, ?_⟩) ?_ ?_
        rotate_left
        · intro w'
          go_simp
          with_reducible rfl
        rotate_left
        · simp only [Act.put, List.setIfInBounds_toArray, List.set_cons_zero, List.set_cons_succ, i64_w, i32_w]
          rfl
        refine pure_ (i := 27) (N := some 110) (v := ?_) (a' := ?_) #[true, true, true, true, true, true, true, true, true, true, true, true, true, true, true, true, true, true, true, true, false, true, true, true, true, true, true, true, false, false, false] rfl rfl (any_of HT_.out (by kernel_rfl)) (fun _ _ _ h => h) (Or.inl ⟨by rfl, ?_⟩) ?_ ?_
        rotate_left
        · intro w'
          go_simp
          with_reducible rfl
        rotate_left
        · simp only [Act.put, List.setIfInBounds_toArray, List.set_cons_zero, List.set_cons_succ, i64_w, i32_w]
          rfl
        refine take_ (i := 28) (N := some 111) (v := ?_) (a' := ?_) #[true, true, true, true, true, true, true, true, true, true, true, true, true, true, true, true, true, true, true, true, false, true, true, true, true, true, true, true, true, false, false] rfl rfl (take_ofW HT_.out HW_.out (by kernel_rfl)) (fun _ _ _ h => h) (Or.inl ⟨by rfl, ?_⟩) hHeld ?_ ?_
        rotate_left
        · rintro w' ⟨s0, s1, s2, s3⟩
          go_simp
          with_reducible rfl
        rotate_left
        · simp only [Act.put, List.setIfInBounds_toArray, List.set_cons_zero, List.set_cons_succ, i64_w, i32_w]
          rfl
        refine one_ (i := 20) (N := some 103) #[true, true, true, true, true, true, true, true, true, true, true, true, true, true, true, true, true, true, true, true, true, true, true, true, true, true, true, true, true, false, false] rfl rfl (one_of HT_.out (by kernel_rfl)) (by decide) (fun K hK => ?_)
        refine goes_ Try.func36 (by kernel_rfl) rfl #[.pointer (some ⟨g, 0, none⟩)] (by rfl) rfl rfl (by (try simp only [List.map_toArray, List.map_cons, List.map_nil]); first | done | rfl) ?_
        with_reducible refine (pl_now HQ3.out I1.out I2.out _ NW.out).mono ?_
        rintro e wz ⟨rfl, hz⟩
        refine ⟨_, rfl, ?_⟩
        have HQ4 := Aside0.mk hz
        clear hz
        refine hK.out _ _ ⟨HQ4.out.c0, HQ4.out.c1, HQ4.out.c2, (HQ4.out.vcell ji HPJ.out HQJ.out)⟩ (fun hHeld => ?_)
        clear hK K
        refine norm_ (a' := ?_) ?_ ?_
        rotate_left
        · show Act.put _ (some 103) _ = _
          simp only [Act.put, List.setIfInBounds_toArray, List.set_cons_zero, List.set_cons_succ, i64_w, i32_w]
          rfl
        refine pure_ (i := 29) (N := some 112) (v := ?_) (a' := ?_) #[true, true, true, true, true, true, true, true, true, true, true, true, true, true, true, true, true, true, true, true, true, true, true, true, true, true, true, true, true, true, false] rfl rfl (any_of HT_.out (by kernel_rfl)) (fun _ _ _ h => h) (Or.inl ⟨by rfl, ?_⟩) ?_ ?_
        rotate_left
        · intro w'
          go_simp
          with_reducible rfl
        rotate_left
        · simp only [Act.put, List.setIfInBounds_toArray, List.set_cons_zero, List.set_cons_succ, i64_w, i32_w]
          rfl
        refine pure_ (i := 30) (N := some 113) (v := ?_) (a' := ?_) #[true, true, true, true, true, true, true, true, true, true, true, true, true, true, true, true, true, true, true, true, true, true, true, true, true, true, true, true, true, true, true] rfl rfl (any_of HT_.out (by kernel_rfl)) (fun _ _ _ h => h) (Or.inl ⟨by rfl, ?_⟩) ?_ ?_
        rotate_left
        · intro w'
          go_simp
          with_reducible rfl
        rotate_left
        · simp only [Act.put, List.setIfInBounds_toArray, List.set_cons_zero, List.set_cons_succ, i64_w, i32_w]
          rfl
        refine done_ (done_of HT_.out (by kernel_rfl)) ?_
        go_wp2
        clear hji pj qj hHeld HPD HQ1 HQ2 HQ3 HT_ HW_ LK NW HPJ HQJ
        go_loopg [116] l2.length (fun kq v116 wr2 => ∃ (j : Nat), j + kq = l2.length ∧ v116 = .int .i64 j ∧ Aside0 (Pl w wr2 S g gm its ps E V ps v0 (.slice (some adv) V.length cv) (.slice X2 ps.length c2')))
        case atStart => exact ⟨0, by omega, rfl, HQ4⟩
        case round =>
          clear HQ4
          obtain ⟨j, hj, rfl, HT⟩ := hrel
          have HJ := Aside0.mk hj
          have hm0 := HT.out.c0
          have hm1 := HT.out.c1
          have hm2 := HT.out.c2
          by_cases hlt2 : j < l2.length
          · have hcj : decide (j < l2.length) = true := decide_eq_true hlt2
            have p2 : 0 ≤ (j : Int) := by omega
            have q2' : (j : Int) < (l2.length : Int) := by omega
            obtain ⟨ad2, e1, hz0⟩ := Kd.at_int (Kd.C_below HR2.out HT.out.bl) (j : Int) p2 q2'
            cases e1
            have e2 : (j : Int).toNat = j := by omega
            rw [e2] at hz0
            generalize rd l2 (j : Int) = y at hz0
            have HLT2 := Aside0.mk hlt2
            replace p2 := eq_true p2
            replace q2' := eq_true q2'
            clear hj hlt2 e2
            obtain ⟨K2, hK2⟩ := has_ev y E V ps L0.out.2.2.2.2.2.2 (by have := L0.out; omega) (by have := L0.out; omega)
            replace hK2 := hK2 K2 (Nat.le_refl _)
            obtain ⟨K3, hK3⟩ := at_ev y E V ps (by have := L0.out; omega)
            have RA := Aside0.mk (hK3 K3 (Nat.le_refl _))
            clear hK3
            by_cases hh : hasR E ps y = true
            · obtain ⟨ga, gb, gg⟩ := HRl.out.get_ y hh
              have HH := Aside0.mk (show hasE its ps y = true by rw [HRl.out.has_ y, hh])
              rw [hh] at hK2
              have RH := Aside0.mk hK2
              have GA := Aside0.mk ga
              have GB := Aside0.mk gb
              have GG := Aside0.mk gg
              replace ga := eq_true ga
              replace gb := eq_true gb
              clear hK2 hh gg
              go_wp2_with (first
                | (go_at_call 37; (with_reducible refine (pl_get HT.out I1.out I2.out I3.out GG.out).mono ?_); rintro e wg ⟨rfl, hz⟩; have HPG := Aside0.mk hz; clear hz hm0 hm1 hm2))
              have HPD := Aside0.mk HPG.out.drew
              clear HPG
              refine start_ (n := 36) (S := fun w' => w'.cell? ⟨gm, 0, none⟩ = some v0 ∧ w'.cell? ⟨gm, 1, none⟩ = some (.slice (some adv) V.length cv) ∧ w'.cell? ⟨gm, 2, none⟩ = some (.slice X2 ps.length c2') ∧ w'.cell? (adv.add (atR E y).toNat) = some (.int .i64 (rd V (atR E y)))) (ds := []) #[false, false, false, false, false, false, false, false, false, false, false, false, false, false, false, false, false, false, false, false, false, false, false, false, false, false, false, false, false, false, false, false, false, false, false, false] (by kernel_rfl) rfl rfl ⟨HPD.out.c0, HPD.out.c1, HPD.out.c2, (HPD.out.vcell (atR E y) GA.out GB.out)⟩ (fun hHeld => ?_)
              refine with_tabW plays.tab27 plays.bits27 (fun HT_ HW_ => ?_)
              generalize wg.drew = wd at HPD hHeld ⊢
              refine pure_ (i := 0) (N := some 126) (v := ?_) (a' := ?_) #[true, false, false, false, false, false, false, false, false, false, false, false, false, false, false, false, false, false, false, false, false, false, false, false, false, false, false, false, false, false, false, false, false, false, false, false] rfl rfl (any_of HT_.out (by kernel_rfl)) (fun _ _ _ h => h) (Or.inl ⟨by rfl, ?_⟩) ?_ ?_
              rotate_left
              · intro w'
                go_simp
                with_reducible rfl
              rotate_left
              · simp only [Act.put, List.setIfInBounds_toArray, List.set_cons_zero, List.set_cons_succ, i64_w, i32_w]
                rfl
              refine pure_ (i := 1) (N := some 127) (v := ?_) (a' := ?_) #[true, true, false, false, false, false, false, false, false, false, false, false, false, false, false, false, false, false, false, false, false, false, false, false, false, false, false, false, false, false, false, false, false, false, false, false] rfl rfl (any_of HT_.out (by kernel_rfl)) (fun _ _ _ h => h) (Or.inl ⟨by rfl, ?_⟩) ?_ ?_
              rotate_left
              · intro w'
                go_simp
                with_reducible rfl
              rotate_left
              · simp only [Act.put, List.setIfInBounds_toArray, List.set_cons_zero, List.set_cons_succ, i64_w, i32_w]
                rfl
              refine pure_ (i := 4) (N := some 130) (v := ?_) (a' := ?_) #[true, true, false, false, true, false, false, false, false, false, false, false, false, false, false, false, false, false, false, false, false, false, false, false, false, false, false, false, false, false, false, false, false, false, false, false] rfl rfl (any_of HT_.out (by kernel_rfl)) (fun _ _ _ h => h) (Or.inl ⟨by rfl, ?_⟩) ?_ ?_
              rotate_left
              · intro w'
                go_simp
                with_reducible rfl
              rotate_left
              · simp only [Act.put, List.setIfInBounds_toArray, List.set_cons_zero, List.set_cons_succ, i64_w, i32_w]
                rfl
              refine take_ (i := 3) (N := some 129) (v := ?_) (a' := ?_) #[true, true, false, true, true, false, false, false, false, false, false, false, false, false, false, false, false, false, false, false, false, false, false, false, false, false, false, false, false, false, false, false, false, false, false, false] rfl rfl (take_ofW HT_.out HW_.out (by kernel_rfl)) (fun _ _ _ h => h) (Or.inl ⟨by rfl, ?_⟩) hHeld ?_ ?_
              rotate_left
              · rintro w' ⟨s0, s1, s2, s3⟩
                go_simp
                with_reducible rfl
              rotate_left
              · simp only [Act.put, List.setIfInBounds_toArray, List.set_cons_zero, List.set_cons_succ, i64_w, i32_w]
                rfl
              refine one_ (i := 2) (N := some 128) #[true, true, true, true, true, false, false, false, false, false, false, false, false, false, false, false, false, false, false, false, false, false, false, false, false, false, false, false, false, false, false, false, false, false, false, false] rfl rfl (one_of HT_.out (by kernel_rfl)) (by decide) (fun K hK => ?_)
              refine goes_ Try.func38 (by kernel_rfl) rfl #[.pointer (some ⟨g, 0, none⟩), .int .i64 y] (by rfl) rfl rfl (by (try simp only [List.map_toArray, List.map_cons, List.map_nil]); first | done | rfl) ?_
              with_reducible refine (pl_has HPD.out I1.out I2.out I3.out HH.out).mono ?_
              rintro e wz ⟨rfl, hz⟩
              refine ⟨_, rfl, ?_⟩
              have HQ1 := Aside0.mk hz
              clear hz
              refine hK.out _ _ ⟨HQ1.out.c0, HQ1.out.c1, HQ1.out.c2, (HQ1.out.vcell (atR E y) GA.out GB.out)⟩ (fun hHeld => ?_)
              clear hK K
              refine norm_ (a' := ?_) ?_ ?_
              rotate_left
              · show Act.put _ (some 128) _ = _
                simp only [Act.put, List.setIfInBounds_toArray, List.set_cons_zero, List.set_cons_succ, i64_w, i32_w]
                rfl
              refine one_ (i := 5) (N := some 131) #[true, true, true, true, true, true, false, false, false, false, false, false, false, false, false, false, false, false, false, false, false, false, false, false, false, false, false, false, false, false, false, false, false, false, false, false] rfl rfl (one_of HT_.out (by kernel_rfl)) (by decide) (fun K hK => ?_)
              refine goes_ Try.func39 (by kernel_rfl) rfl #[.agg #[v0, .slice (some adv) V.length cv, .slice X2 ps.length c2'], .int .i64 y] (by rfl) rfl rfl (by (try simp only [List.map_toArray, List.map_cons, List.map_nil]); first | done | rfl) ?_
              with_reducible refine (pl_rhas K2 y true HQ1.out RH.out).mono ?_
              rintro e wz ⟨rfl, hz⟩
              refine ⟨_, rfl, ?_⟩
              have HQ2 := Aside0.mk hz
              clear hz
              refine hK.out _ _ ⟨HQ2.out.c0, HQ2.out.c1, HQ2.out.c2, (HQ2.out.vcell (atR E y) GA.out GB.out)⟩ (fun hHeld => ?_)
              clear hK K
              refine norm_ (a' := ?_) ?_ ?_
              rotate_left
              · show Act.put _ (some 131) _ = _
                simp only [Act.put, List.setIfInBounds_toArray, List.set_cons_zero, List.set_cons_succ, i64_w, i32_w]
                rfl
              refine pure_ (i := 6) (N := some 132) (v := ?_) (a' := ?_) #[true, true, true, true, true, true, true, false, false, false, false, false, false, false, false, false, false, false, false, false, false, false, false, false, false, false, false, false, false, false, false, false, false, false, false, false] rfl rfl (any_of HT_.out (by kernel_rfl)) (fun _ _ _ h => h) (Or.inl ⟨by rfl, ?_⟩) ?_ ?_
              rotate_left
              · intro w'
                go_simp
                with_reducible rfl
              rotate_left
              · simp only [Act.put, List.setIfInBounds_toArray, List.set_cons_zero, List.set_cons_succ, i64_w, i32_w]
                rfl
              refine pure_ (i := 7) (N := some 133) (v := ?_) (a' := ?_) #[true, true, true, true, true, true, true, true, false, false, false, false, false, false, false, false, false, false, false, false, false, false, false, false, false, false, false, false, false, false, false, false, false, false, false, false] rfl rfl (any_of HT_.out (by kernel_rfl)) (fun _ _ _ h => h) (Or.inl ⟨by rfl, ?_⟩) ?_ ?_
              rotate_left
              · intro w'
                go_simp
                with_reducible rfl
              rotate_left
              · simp only [Act.put, List.setIfInBounds_toArray, List.set_cons_zero, List.set_cons_succ, i64_w, i32_w]
                rfl
              refine pure_ (i := 8) (N := some 134) (v := ?_) (a' := ?_) #[true, true, true, true, true, true, true, true, true, false, false, false, false, false, false, false, false, false, false, false, false, false, false, false, false, false, false, false, false, false, false, false, false, false, false, false] rfl rfl (any_of HT_.out (by kernel_rfl)) (fun _ _ _ h => h) (Or.inl ⟨by rfl, ?_⟩) ?_ ?_
              rotate_left
              · intro w'
                go_simp
                with_reducible rfl
              rotate_left
              · simp only [Act.put, List.setIfInBounds_toArray, List.set_cons_zero, List.set_cons_succ, i64_w, i32_w]
                rfl
              refine pure_ (i := 10) (N := some 136) (v := ?_) (a' := ?_) #[true, true, true, true, true, true, true, true, true, false, true, false, false, false, false, false, false, false, false, false, false, false, false, false, false, false, false, false, false, false, false, false, false, false, false, false] rfl rfl (any_of HT_.out (by kernel_rfl)) (fun _ _ _ h => h) (Or.inl ⟨by rfl, ?_⟩) ?_ ?_
              rotate_left
              · intro w'
                go_simp
                with_reducible rfl
              rotate_left
              · simp only [Act.put, List.setIfInBounds_toArray, List.set_cons_zero, List.set_cons_succ, i64_w, i32_w]
                rfl
              refine take_ (i := 9) (N := some 135) (v := ?_) (a' := ?_) #[true, true, true, true, true, true, true, true, true, true, true, false, false, false, false, false, false, false, false, false, false, false, false, false, false, false, false, false, false, false, false, false, false, false, false, false] rfl rfl (take_ofW HT_.out HW_.out (by kernel_rfl)) (fun _ _ _ h => h) (Or.inl ⟨by rfl, ?_⟩) hHeld ?_ ?_
              rotate_left
              · rintro w' ⟨s0, s1, s2, s3⟩
                go_simp
                with_reducible rfl
              rotate_left
              · simp only [Act.put, List.setIfInBounds_toArray, List.set_cons_zero, List.set_cons_succ, i64_w, i32_w]
                rfl
              refine one_ (i := 11) (N := some 137) #[true, true, true, true, true, true, true, true, true, true, true, true, false, false, false, false, false, false, false, false, false, false, false, false, false, false, false, false, false, false, false, false, false, false, false, false] rfl rfl (one_of HT_.out (by kernel_rfl)) (by decide) (fun K hK => ?_)
              refine goes_ Try.func39 (by kernel_rfl) rfl #[.agg #[v0, .slice (some adv) V.length cv, .slice X2 ps.length c2'], .int .i64 y] (by rfl) rfl rfl (by (try simp only [List.map_toArray, List.map_cons, List.map_nil]); first | done | rfl) ?_
              with_reducible refine (pl_rhas K2 y true HQ2.out RH.out).mono ?_
              rintro e wz ⟨rfl, hz⟩
              refine ⟨_, rfl, ?_⟩
              have HQ3 := Aside0.mk hz
              clear hz
              refine hK.out _ _ ⟨HQ3.out.c0, HQ3.out.c1, HQ3.out.c2, (HQ3.out.vcell (atR E y) GA.out GB.out)⟩ (fun hHeld => ?_)
              clear hK K
              refine norm_ (a' := ?_) ?_ ?_
              rotate_left
              · show Act.put _ (some 137) _ = _
                simp only [Act.put, List.setIfInBounds_toArray, List.set_cons_zero, List.set_cons_succ, i64_w, i32_w]
                rfl
              refine pure_ (i := 12) (N := some 138) (v := ?_) (a' := ?_) #[true, true, true, true, true, true, true, true, true, true, true, true, true, false, false, false, false, false, false, false, false, false, false, false, false, false, false, false, false, false, false, false, false, false, false, false] rfl rfl (any_of HT_.out (by kernel_rfl)) (fun _ _ _ h => h) (Or.inl ⟨by rfl, ?_⟩) ?_ ?_
              rotate_left
              · intro w'
                go_simp
                with_reducible rfl
              rotate_left
              · simp only [Act.put, List.setIfInBounds_toArray, List.set_cons_zero, List.set_cons_succ, i64_w, i32_w]
                rfl
              refine pure_ (i := 13) (N := some 139) (v := ?_) (a' := ?_) #[true, true, true, true, true, true, true, true, true, true, true, true, true, true, false, false, false, false, false, false, false, false, false, false, false, false, false, false, false, false, false, false, false, false, false, false] rfl rfl (any_of HT_.out (by kernel_rfl)) (fun _ _ _ h => h) (Or.inl ⟨by rfl, ?_⟩) ?_ ?_
              rotate_left
              · intro w'
                go_simp
                with_reducible rfl
              rotate_left
              · simp only [Act.put, List.setIfInBounds_toArray, List.set_cons_zero, List.set_cons_succ, i64_w, i32_w]
                rfl
              refine pure_ (i := 14) (N := some 140) (v := ?_) (a' := ?_) #[true, true, true, true, true, true, true, true, true, true, true, true, true, true, true, false, false, false, false, false, false, false, false, false, false, false, false, false, false, false, false, false, false, false, false, false] rfl rfl (any_of HT_.out (by kernel_rfl)) (fun _ _ _ h => h) (Or.inl ⟨by rfl, ?_⟩) ?_ ?_
              rotate_left
              · intro w'
                go_simp
                with_reducible rfl
              rotate_left
              · simp only [Act.put, List.setIfInBounds_toArray, List.set_cons_zero, List.set_cons_succ, i64_w, i32_w]
                rfl
              refine pure_ (i := 15) (N := some 141) (v := ?_) (a' := ?_) #[true, true, true, true, true, true, true, true, true, true, true, true, true, true, true, true, false, false, false, false, false, false, false, false, false, false, false, false, false, false, false, false, false, false, false, false] rfl rfl (any_of HT_.out (by kernel_rfl)) (fun _ _ _ h => h) (Or.inl ⟨by rfl, ?_⟩) ?_ ?_
              rotate_left
              · intro w'
                go_simp
                with_reducible rfl
              rotate_left
              · simp only [Act.put, List.setIfInBounds_toArray, List.set_cons_zero, List.set_cons_succ, i64_w, i32_w]
                rfl
              refine pure_ (i := 16) (N := some 142) (v := ?_) (a' := ?_) #[true, true, true, true, true, true, true, true, true, true, true, true, true, true, true, true, true, false, false, false, false, false, false, false, false, false, false, false, false, false, false, false, false, false, false, false] rfl rfl (any_of HT_.out (by kernel_rfl)) (fun _ _ _ h => h) (Or.inl ⟨by rfl, ?_⟩) ?_ ?_
              rotate_left
              · intro w'
                go_simp
                with_reducible rfl
              rotate_left
              · simp only [Act.put, List.setIfInBounds_toArray, List.set_cons_zero, List.set_cons_succ, i64_w, i32_w]
                rfl
              refine pure_ (i := 17) (N := some 143) (v := ?_) (a' := ?_) #[true, true, true, true, true, true, true, true, true, true, true, true, true, true, true, true, true, true, false, false, false, false, false, false, false, false, false, false, false, false, false, false, false, false, false, false] rfl rfl (any_of HT_.out (by kernel_rfl)) (fun _ _ _ h => h) (Or.inl ⟨by rfl, ?_⟩) ?_ ?_
              rotate_left
              · intro w'
                go_simp
                with_reducible rfl
              rotate_left
              · simp only [Act.put, List.setIfInBounds_toArray, List.set_cons_zero, List.set_cons_succ, i64_w, i32_w]
                rfl
              refine pure_ (i := 18) (N := some 144) (v := ?_) (a' := ?_) #[true, true, true, true, true, true, true, true, true, true, true, true, true, true, true, true, true, true, true, false, false, false, false, false, false, false, false, false, false, false, false, false, false, false, false, false] rfl rfl (any_of HT_.out (by kernel_rfl)) (fun _ _ _ h => h) (Or.inl ⟨by rfl, ?_⟩) ?_ ?_
              rotate_left
              · intro w'
                go_simp
                with_reducible rfl
              rotate_left
              · simp only [Act.put, List.setIfInBounds_toArray, List.set_cons_zero, List.set_cons_succ, i64_w, i32_w]
                rfl
              refine pure_ (i := 21) (N := some 147) (v := ?_) (a' := ?_) #[true, true, true, true, true, true, true, true, true, true, true, true, true, true, true, true, true, true, true, false, false, true, false, false, false, false, false, false, false, false, false, false, false, false, false, false] rfl rfl (any_of HT_.out (by kernel_rfl)) (fun _ _ _ h => h) (Or.inl ⟨by rfl, ?_⟩) ?_ ?_
              rotate_left
              · intro w'
                go_simp
                with_reducible rfl
              rotate_left
              · simp only [Act.put, List.setIfInBounds_toArray, List.set_cons_zero, List.set_cons_succ, i64_w, i32_w]
                rfl
              refine take_ (i := 19) (N := some 145) (v := ?_) (a' := ?_) #[true, true, true, true, true, true, true, true, true, true, true, true, true, true, true, true, true, true, true, true, false, true, false, false, false, false, false, false, false, false, false, false, false, false, false, false] rfl rfl (take_ofW HT_.out HW_.out (by kernel_rfl)) (fun _ _ _ h => h) (Or.inl ⟨by rfl, ?_⟩) hHeld ?_ ?_
              rotate_left
              · rintro w' ⟨s0, s1, s2, s3⟩
                go_simp
                with_reducible rfl
              rotate_left
              · simp only [Act.put, List.setIfInBounds_toArray, List.set_cons_zero, List.set_cons_succ, i64_w, i32_w]
                rfl
              refine take_ (i := 20) (N := some 146) (v := ?_) (a' := ?_) #[true, true, true, true, true, true, true, true, true, true, true, true, true, true, true, true, true, true, true, true, true, true, false, false, false, false, false, false, false, false, false, false, false, false, false, false] rfl rfl (take_ofW HT_.out HW_.out (by kernel_rfl)) (fun _ _ _ h => h) (Or.inl ⟨by rfl, ?_⟩) hHeld ?_ ?_
              rotate_left
              · rintro w' ⟨s0, s1, s2, s3⟩
                go_simp
                with_reducible rfl
              rotate_left
              · simp only [Act.put, List.setIfInBounds_toArray, List.set_cons_zero, List.set_cons_succ, i64_w, i32_w]
                rfl
              refine one_ (i := 22) (N := some 148) #[true, true, true, true, true, true, true, true, true, true, true, true, true, true, true, true, true, true, true, true, true, true, true, false, false, false, false, false, false, false, false, false, false, false, false, false] rfl rfl (one_of HT_.out (by kernel_rfl)) (by decide) (fun K hK => ?_)
              refine goes_ Try.func40 (by kernel_rfl) rfl #[.agg #[v0, .slice (some adv) V.length cv, .slice X2 ps.length c2'], .int .i64 y] (by rfl) rfl rfl (by (try simp only [List.map_toArray, List.map_cons, List.map_nil]); first | done | rfl) ?_
              with_reducible refine (pl_rat K3 y _ HQ3.out RA.out).mono ?_
              rintro e wz ⟨rfl, hz⟩
              refine ⟨_, rfl, ?_⟩
              have HQ4 := Aside0.mk hz
              clear hz
              refine hK.out _ _ ⟨HQ4.out.c0, HQ4.out.c1, HQ4.out.c2, (HQ4.out.vcell (atR E y) GA.out GB.out)⟩ (fun hHeld => ?_)
              clear hK K
              refine norm_ (a' := ?_) ?_ ?_
              rotate_left
              · show Act.put _ (some 148) _ = _
                simp only [Act.put, List.setIfInBounds_toArray, List.set_cons_zero, List.set_cons_succ, i64_w, i32_w]
                rfl
              refine pure_ (i := 23) (N := some 149) (v := ?_) (a' := ?_) #[true, true, true, true, true, true, true, true, true, true, true, true, true, true, true, true, true, true, true, true, true, true, true, true, false, false, false, false, false, false, false, false, false, false, false, false] rfl rfl (any_of HT_.out (by kernel_rfl)) (fun _ _ _ h => h) (Or.inl ⟨by rfl, ?_⟩) ?_ ?_
              rotate_left
              · intro w'
                go_simp
                with_reducible rfl
              rotate_left
              · simp only [Act.put, List.setIfInBounds_toArray, List.set_cons_zero, List.set_cons_succ, i64_w, i32_w]
                rfl
              refine take_ (i := 24) (N := some 150) (v := ?_) (a' := ?_) #[true, true, true, true, true, true, true, true, true, true, true, true, true, true, true, true, true, true, true, true, true, true, true, true, true, false, false, false, false, false, false, false, false, false, false, false] rfl rfl (take_ofW HT_.out HW_.out (by kernel_rfl)) (fun _ _ _ h => h) (Or.inl ⟨by rfl, ?_⟩) hHeld ?_ ?_
              rotate_left
              · rintro w' ⟨s0, s1, s2, s3⟩
                go_simp
                with_reducible rfl
              rotate_left
              · simp only [Act.put, List.setIfInBounds_toArray, List.set_cons_zero, List.set_cons_succ, i64_w, i32_w]
                rfl
              refine pure_ (i := 25) (N := some 151) (v := ?_) (a' := ?_) #[true, true, true, true, true, true, true, true, true, true, true, true, true, true, true, true, true, true, true, true, true, true, true, true, true, true, false, false, false, false, false, false, false, false, false, false] rfl rfl (any_of HT_.out (by kernel_rfl)) (fun _ _ _ h => h) (Or.inl ⟨by rfl, ?_⟩) ?_ ?_
              rotate_left
              · intro w'
                go_simp
                with_reducible rfl
              rotate_left
              · simp only [Act.put, List.setIfInBounds_toArray, List.set_cons_zero, List.set_cons_succ, i64_w, i32_w]
                rfl
              refine pure_ (i := 26) (N := some 152) (v := ?_) (a' := ?_) #[true, true, true, true, true, true, true, true, true, true, true, true, true, true, true, true, true, true, true, true, true, true, true, true, true, true, true, false, false, false, false, false, false, false, false, false] rfl rfl (any_of HT_.out (by kernel_rfl)) (fun _ _ _ h => h) (Or.inl ⟨by rfl, ?_⟩) ?_ ?_
              rotate_left
              · intro w'
                go_simp
                with_reducible rfl
              rotate_left
              · simp only [Act.put, List.setIfInBounds_toArray, List.set_cons_zero, List.set_cons_succ, i64_w, i32_w]
                rfl
              refine pure_ (i := 27) (N := some 153) (v := ?_) (a' := ?_) #[true, true, true, true, true, true, true, true, true, true, true, true, true, true, true, true, true, true, true, true, true, true, true, true, true, true, true, true, false, false, false, false, false, false, false, false] rfl rfl (any_of HT_.out (by kernel_rfl)) (fun _ _ _ h => h) (Or.inl ⟨by rfl, ?_⟩) ?_ ?_
              rotate_left
              · intro w'
                go_simp
                with_reducible rfl
              rotate_left
              · simp only [Act.put, List.setIfInBounds_toArray, List.set_cons_zero, List.set_cons_succ, i64_w, i32_w]
                rfl
              refine pure_ (i := 28) (N := some 154) (v := ?_) (a' := ?_) #[true, true, true, true, true, true, true, true, true, true, true, true, true, true, true, true, true, true, true, true, true, true, true, true, true, true, true, true, true, false, false, false, false, false, false, false] rfl rfl (any_of HT_.out (by kernel_rfl)) (fun _ _ _ h => h) (Or.inl ⟨by rfl, ?_⟩) ?_ ?_
              rotate_left
              · intro w'
                go_simp
                with_reducible rfl
              rotate_left
              · simp only [Act.put, List.setIfInBounds_toArray, List.set_cons_zero, List.set_cons_succ, i64_w, i32_w]
                rfl
              refine pure_ (i := 29) (N := some 155) (v := ?_) (a' := ?_) #[true, true, true, true, true, true, true, true, true, true, true, true, true, true, true, true, true, true, true, true, true, true, true, true, true, true, true, true, true, true, false, false, false, false, false, false] rfl rfl (any_of HT_.out (by kernel_rfl)) (fun _ _ _ h => h) (Or.inl ⟨by rfl, ?_⟩) ?_ ?_
              rotate_left
              · intro w'
                go_simp
                with_reducible rfl
              rotate_left
              · simp only [Act.put, List.setIfInBounds_toArray, List.set_cons_zero, List.set_cons_succ, i64_w, i32_w]
                rfl
              refine pure_ (i := 30) (N := some 156) (v := ?_) (a' := ?_) #[true, true, true, true, true, true, true, true, true, true, true, true, true, true, true, true, true, true, true, true, true, true, true, true, true, true, true, true, true, true, true, false, false, false, false, false] rfl rfl (any_of HT_.out (by kernel_rfl)) (fun _ _ _ h => h) (Or.inl ⟨by rfl, ?_⟩) ?_ ?_
              rotate_left
              · intro w'
                go_simp
                with_reducible rfl
              rotate_left
              · simp only [Act.put, List.setIfInBounds_toArray, List.set_cons_zero, List.set_cons_succ, i64_w, i32_w]
                rfl
              refine pure_ (i := 31) (N := some 157) (v := ?_) (a' := ?_) #[true, true, true, true, true, true, true, true, true, true, true, true, true, true, true, true, true, true, true, true, true, true, true, true, true, true, true, true, true, true, true, true, false, false, false, false] rfl rfl (any_of HT_.out (by kernel_rfl)) (fun _ _ _ h => h) (Or.inl ⟨by rfl, ?_⟩) ?_ ?_
              rotate_left
              · intro w'
                go_simp
                with_reducible rfl
              rotate_left
              · simp only [Act.put, List.setIfInBounds_toArray, List.set_cons_zero, List.set_cons_succ, i64_w, i32_w]
                rfl
              refine pure_ (i := 32) (N := some 158) (v := undef) (a' := ?_) #[true, true, true, true, true, true, true, true, true, true, true, true, true, true, true, true, true, true, true, true, true, true, true, true, true, true, true, true, true, true, true, true, true, false, false, false] rfl rfl (any_of HT_.out (by kernel_rfl)) (fun _ _ _ h => h) (Or.inr ⟨by rfl, rfl⟩) ?_ ?_
              rotate_left
              · simp only [Act.put, List.setIfInBounds_toArray, List.set_cons_zero, List.set_cons_succ, i64_w, i32_w]
                rfl
              refine pure_ (i := 33) (N := some 159) (v := undef) (a' := ?_) #[true, true, true, true, true, true, true, true, true, true, true, true, true, true, true, true, true, true, true, true, true, true, true, true, true, true, true, true, true, true, true, true, true, true, false, false] rfl rfl (any_of HT_.out (by kernel_rfl)) (fun _ _ _ h => h) (Or.inr ⟨by rfl, rfl⟩) ?_ ?_
              rotate_left
              · simp only [Act.put, List.setIfInBounds_toArray, List.set_cons_zero, List.set_cons_succ, i64_w, i32_w]
                rfl
              refine pure_ (i := 34) (N := some 160) (v := ?_) (a' := ?_) #[true, true, true, true, true, true, true, true, true, true, true, true, true, true, true, true, true, true, true, true, true, true, true, true, true, true, true, true, true, true, true, true, true, true, true, false] rfl rfl (any_of HT_.out (by kernel_rfl)) (fun _ _ _ h => h) (Or.inl ⟨by rfl, ?_⟩) ?_ ?_
              rotate_left
              · intro w'
                go_simp
                with_reducible rfl
              rotate_left
              · simp only [Act.put, List.setIfInBounds_toArray, List.set_cons_zero, List.set_cons_succ, i64_w, i32_w]
                rfl
              refine pure_ (i := 35) (N := some 161) (v := ?_) (a' := ?_) #[true, true, true, true, true, true, true, true, true, true, true, true, true, true, true, true, true, true, true, true, true, true, true, true, true, true, true, true, true, true, true, true, true, true, true, true] rfl rfl (any_of HT_.out (by kernel_rfl)) (fun _ _ _ h => h) (Or.inl ⟨by rfl, ?_⟩) ?_ ?_
              rotate_left
              · intro w'
                go_simp
                with_reducible rfl
              rotate_left
              · simp only [Act.put, List.setIfInBounds_toArray, List.set_cons_zero, List.set_cons_succ, i64_w, i32_w]
                rfl
              refine done_ (done_of HT_.out (by kernel_rfl)) ?_
              go_wp2
              go_roundg (l2.length - (j + 1))
              case measure => have := HJ.out; have := HLT2.out; omega
              case rel => exact ⟨j + 1, by have := HJ.out; have := HLT2.out; omega, by rw [wS (by have := HLT2.out; have := HL2.out; omega)], HQ4⟩
            · have hh : hasR E ps y = false := by simpa using hh
              have GG := Aside0.mk (HRl.out.getN y hh)
              have HH := Aside0.mk (show hasE its ps y = false by rw [HRl.out.has_ y, hh])
              rw [hh] at hK2
              have RH := Aside0.mk hK2
              clear hK2 hh
              go_wp2_with (first
                | (go_at_call 37; (with_reducible refine (pl_get HT.out I1.out I2.out I3.out GG.out).mono ?_); rintro e wg ⟨rfl, hz⟩; have HPG := Aside0.mk hz; clear hz hm0 hm1 hm2))
              have HPD := Aside0.mk HPG.out.drew
              clear HPG
              refine start_ (n := 36) (S := fun w' => w'.cell? ⟨gm, 0, none⟩ = some v0 ∧ w'.cell? ⟨gm, 1, none⟩ = some (.slice (some adv) V.length cv) ∧ w'.cell? ⟨gm, 2, none⟩ = some (.slice X2 ps.length c2')) (ds := []) #[false, false, false, false, false, false, false, false, false, false, false, false, false, false, false, false, false, false, false, false, false, false, false, false, false, false, false, false, false, false, false, false, false, false, false, false] (by kernel_rfl) rfl rfl ⟨HPD.out.c0, HPD.out.c1, HPD.out.c2⟩ (fun hHeld => ?_)
              refine with_tabW plays.tab27 plays.bits27 (fun HT_ HW_ => ?_)
              generalize wg.drew = wd at HPD hHeld ⊢
              refine pure_ (i := 0) (N := some 126) (v := ?_) (a' := ?_) #[true, false, false, false, false, false, false, false, false, false, false, false, false, false, false, false, false, false, false, false, false, false, false, false, false, false, false, false, false, false, false, false, false, false, false, false] rfl rfl (any_of HT_.out (by kernel_rfl)) (fun _ _ _ h => h) (Or.inl ⟨by rfl, ?_⟩) ?_ ?_
              rotate_left
              · intro w'
                go_simp
                with_reducible rfl
              rotate_left
              · simp only [Act.put, List.setIfInBounds_toArray, List.set_cons_zero, List.set_cons_succ, i64_w, i32_w]
                rfl
              refine pure_ (i := 1) (N := some 127) (v := ?_) (a' := ?_) #[true, true, false, false, false, false, false, false, false, false, false, false, false, false, false, false, false, false, false, false, false, false, false, false, false, false, false, false, false, false, false, false, false, false, false, false] rfl rfl (any_of HT_.out (by kernel_rfl)) (fun _ _ _ h => h) (Or.inl ⟨by rfl, ?_⟩) ?_ ?_
              rotate_left
              · intro w'
                go_simp
                with_reducible rfl
              rotate_left
              · simp only [Act.put, List.setIfInBounds_toArray, List.set_cons_zero, List.set_cons_succ, i64_w, i32_w]
                rfl
              refine pure_ (i := 4) (N := some 130) (v := ?_) (a' := ?_) #[true, true, false, false, true, false, false, false, false, false, false, false, false, false, false, false, false, false, false, false, false, false, false, false, false, false, false, false, false, false, false, false, false, false, false, false] rfl rfl (any_of HT_.out (by kernel_rfl)) (fun _ _ _ h => h) (Or.inl ⟨by rfl, ?_⟩) ?_ ?_
              rotate_left
              · intro w'
                go_simp
                with_reducible rfl
              rotate_left
              · simp only [Act.put, List.setIfInBounds_toArray, List.set_cons_zero, List.set_cons_succ, i64_w, i32_w]
                rfl
              refine take_ (i := 3) (N := some 129) (v := ?_) (a' := ?_) #[true, true, false, true, true, false, false, false, false, false, false, false, false, false, false, false, false, false, false, false, false, false, false, false, false, false, false, false, false, false, false, false, false, false, false, false] rfl rfl (take_ofW HT_.out HW_.out (by kernel_rfl)) (fun _ _ _ h => h) (Or.inl ⟨by rfl, ?_⟩) hHeld ?_ ?_
              rotate_left
              · rintro w' ⟨s0, s1, s2⟩
                go_simp
                with_reducible rfl
              rotate_left
              · simp only [Act.put, List.setIfInBounds_toArray, List.set_cons_zero, List.set_cons_succ, i64_w, i32_w]
                rfl
              refine one_ (i := 2) (N := some 128) #[true, true, true, true, true, false, false, false, false, false, false, false, false, false, false, false, false, false, false, false, false, false, false, false, false, false, false, false, false, false, false, false, false, false, false, false] rfl rfl (one_of HT_.out (by kernel_rfl)) (by decide) (fun K hK => ?_)
              refine goes_ Try.func38 (by kernel_rfl) rfl #[.pointer (some ⟨g, 0, none⟩), .int .i64 y] (by rfl) rfl rfl (by (try simp only [List.map_toArray, List.map_cons, List.map_nil]); first | done | rfl) ?_
              with_reducible refine (pl_has HPD.out I1.out I2.out I3.out HH.out).mono ?_
              rintro e wz ⟨rfl, hz⟩
              refine ⟨_, rfl, ?_⟩
              have HQ1 := Aside0.mk hz
              clear hz
              refine hK.out _ _ ⟨HQ1.out.c0, HQ1.out.c1, HQ1.out.c2⟩ (fun hHeld => ?_)
              clear hK K
              refine norm_ (a' := ?_) ?_ ?_
              rotate_left
              · show Act.put _ (some 128) _ = _
                simp only [Act.put, List.setIfInBounds_toArray, List.set_cons_zero, List.set_cons_succ, i64_w, i32_w]
                rfl
              refine one_ (i := 5) (N := some 131) #[true, true, true, true, true, true, false, false, false, false, false, false, false, false, false, false, false, false, false, false, false, false, false, false, false, false, false, false, false, false, false, false, false, false, false, false] rfl rfl (one_of HT_.out (by kernel_rfl)) (by decide) (fun K hK => ?_)
              refine goes_ Try.func39 (by kernel_rfl) rfl #[.agg #[v0, .slice (some adv) V.length cv, .slice X2 ps.length c2'], .int .i64 y] (by rfl) rfl rfl (by (try simp only [List.map_toArray, List.map_cons, List.map_nil]); first | done | rfl) ?_
              with_reducible refine (pl_rhas K2 y false HQ1.out RH.out).mono ?_
              rintro e wz ⟨rfl, hz⟩
              refine ⟨_, rfl, ?_⟩
              have HQ2 := Aside0.mk hz
              clear hz
              refine hK.out _ _ ⟨HQ2.out.c0, HQ2.out.c1, HQ2.out.c2⟩ (fun hHeld => ?_)
              clear hK K
              refine norm_ (a' := ?_) ?_ ?_
              rotate_left
              · show Act.put _ (some 131) _ = _
                simp only [Act.put, List.setIfInBounds_toArray, List.set_cons_zero, List.set_cons_succ, i64_w, i32_w]
                rfl
              refine pure_ (i := 6) (N := some 132) (v := ?_) (a' := ?_) #[true, true, true, true, true, true, true, false, false, false, false, false, false, false, false, false, false, false, false, false, false, false, false, false, false, false, false, false, false, false, false, false, false, false, false, false] rfl rfl (any_of HT_.out (by kernel_rfl)) (fun _ _ _ h => h) (Or.inl ⟨by rfl, ?_⟩) ?_ ?_
              rotate_left
              · intro w'
                go_simp
                with_reducible rfl
              rotate_left
              · simp only [Act.put, List.setIfInBounds_toArray, List.set_cons_zero, List.set_cons_succ, i64_w, i32_w]
                rfl
              refine pure_ (i := 7) (N := some 133) (v := ?_) (a' := ?_) #[true, true, true, true, true, true, true, true, false, false, false, false, false, false, false, false, false, false, false, false, false, false, false, false, false, false, false, false, false, false, false, false, false, false, false, false] rfl rfl (any_of HT_.out (by kernel_rfl)) (fun _ _ _ h => h) (Or.inl ⟨by rfl, ?_⟩) ?_ ?_
              rotate_left
              · intro w'
                go_simp
                with_reducible rfl
              rotate_left
              · simp only [Act.put, List.setIfInBounds_toArray, List.set_cons_zero, List.set_cons_succ, i64_w, i32_w]
                rfl
              refine pure_ (i := 8) (N := some 134) (v := ?_) (a' := ?_) #[true, true, true, true, true, true, true, true, true, false, false, false, false, false, false, false, false, false, false, false, false, false, false, false, false, false, false, false, false, false, false, false, false, false, false, false] rfl rfl (any_of HT_.out (by kernel_rfl)) (fun _ _ _ h => h) (Or.inl ⟨by rfl, ?_⟩) ?_ ?_
              rotate_left
              · intro w'
                go_simp
                with_reducible rfl
              rotate_left
              · simp only [Act.put, List.setIfInBounds_toArray, List.set_cons_zero, List.set_cons_succ, i64_w, i32_w]
                rfl
              refine pure_ (i := 10) (N := some 136) (v := ?_) (a' := ?_) #[true, true, true, true, true, true, true, true, true, false, true, false, false, false, false, false, false, false, false, false, false, false, false, false, false, false, false, false, false, false, false, false, false, false, false, false] rfl rfl (any_of HT_.out (by kernel_rfl)) (fun _ _ _ h => h) (Or.inl ⟨by rfl, ?_⟩) ?_ ?_
              rotate_left
              · intro w'
                go_simp
                with_reducible rfl
              rotate_left
              · simp only [Act.put, List.setIfInBounds_toArray, List.set_cons_zero, List.set_cons_succ, i64_w, i32_w]
                rfl
              refine take_ (i := 9) (N := some 135) (v := ?_) (a' := ?_) #[true, true, true, true, true, true, true, true, true, true, true, false, false, false, false, false, false, false, false, false, false, false, false, false, false, false, false, false, false, false, false, false, false, false, false, false] rfl rfl (take_ofW HT_.out HW_.out (by kernel_rfl)) (fun _ _ _ h => h) (Or.inl ⟨by rfl, ?_⟩) hHeld ?_ ?_
              rotate_left
              · rintro w' ⟨s0, s1, s2⟩
                go_simp
                with_reducible rfl
              rotate_left
              · simp only [Act.put, List.setIfInBounds_toArray, List.set_cons_zero, List.set_cons_succ, i64_w, i32_w]
                rfl
              refine one_ (i := 11) (N := some 137) #[true, true, true, true, true, true, true, true, true, true, true, true, false, false, false, false, false, false, false, false, false, false, false, false, false, false, false, false, false, false, false, false, false, false, false, false] rfl rfl (one_of HT_.out (by kernel_rfl)) (by decide) (fun K hK => ?_)
              refine goes_ Try.func39 (by kernel_rfl) rfl #[.agg #[v0, .slice (some adv) V.length cv, .slice X2 ps.length c2'], .int .i64 y] (by rfl) rfl rfl (by (try simp only [List.map_toArray, List.map_cons, List.map_nil]); first | done | rfl) ?_
              with_reducible refine (pl_rhas K2 y false HQ2.out RH.out).mono ?_
              rintro e wz ⟨rfl, hz⟩
              refine ⟨_, rfl, ?_⟩
              have HQ3 := Aside0.mk hz
              clear hz
              refine hK.out _ _ ⟨HQ3.out.c0, HQ3.out.c1, HQ3.out.c2⟩ (fun hHeld => ?_)
              clear hK K
              refine norm_ (a' := ?_) ?_ ?_
              rotate_left
              · show Act.put _ (some 137) _ = _
                simp only [Act.put, List.setIfInBounds_toArray, List.set_cons_zero, List.set_cons_succ, i64_w, i32_w]
                rfl
              refine pure_ (i := 12) (N := some 138) (v := ?_) (a' := ?_) #[true, true, true, true, true, true, true, true, true, true, true, true, true, false, false, false, false, false, false, false, false, false, false, false, false, false, false, false, false, false, false, false, false, false, false, false] rfl rfl (any_of HT_.out (by kernel_rfl)) (fun _ _ _ h => h) (Or.inl ⟨by rfl, ?_⟩) ?_ ?_
              rotate_left
              · intro w'
                go_simp
                with_reducible rfl
              rotate_left
              · simp only [Act.put, List.setIfInBounds_toArray, List.set_cons_zero, List.set_cons_succ, i64_w, i32_w]
                rfl
              refine pure_ (i := 13) (N := some 139) (v := ?_) (a' := ?_) #[true, true, true, true, true, true, true, true, true, true, true, true, true, true, false, false, false, false, false, false, false, false, false, false, false, false, false, false, false, false, false, false, false, false, false, false] rfl rfl (any_of HT_.out (by kernel_rfl)) (fun _ _ _ h => h) (Or.inl ⟨by rfl, ?_⟩) ?_ ?_
              rotate_left
              · intro w'
                go_simp
                with_reducible rfl
              rotate_left
              · simp only [Act.put, List.setIfInBounds_toArray, List.set_cons_zero, List.set_cons_succ, i64_w, i32_w]
                rfl
              refine pure_ (i := 14) (N := some 140) (v := ?_) (a' := ?_) #[true, true, true, true, true, true, true, true, true, true, true, true, true, true, true, false, false, false, false, false, false, false, false, false, false, false, false, false, false, false, false, false, false, false, false, false] rfl rfl (any_of HT_.out (by kernel_rfl)) (fun _ _ _ h => h) (Or.inl ⟨by rfl, ?_⟩) ?_ ?_
              rotate_left
              · intro w'
                go_simp
                with_reducible rfl
              rotate_left
              · simp only [Act.put, List.setIfInBounds_toArray, List.set_cons_zero, List.set_cons_succ, i64_w, i32_w]
                rfl
              refine pure_ (i := 15) (N := some 141) (v := ?_) (a' := ?_) #[true, true, true, true, true, true, true, true, true, true, true, true, true, true, true, true, false, false, false, false, false, false, false, false, false, false, false, false, false, false, false, false, false, false, false, false] rfl rfl (any_of HT_.out (by kernel_rfl)) (fun _ _ _ h => h) (Or.inl ⟨by rfl, ?_⟩) ?_ ?_
              rotate_left
              · intro w'
                go_simp
                with_reducible rfl
              rotate_left
              · simp only [Act.put, List.setIfInBounds_toArray, List.set_cons_zero, List.set_cons_succ, i64_w, i32_w]
                rfl
              refine pure_ (i := 16) (N := some 142) (v := ?_) (a' := ?_) #[true, true, true, true, true, true, true, true, true, true, true, true, true, true, true, true, true, false, false, false, false, false, false, false, false, false, false, false, false, false, false, false, false, false, false, false] rfl rfl (any_of HT_.out (by kernel_rfl)) (fun _ _ _ h => h) (Or.inl ⟨by rfl, ?_⟩) ?_ ?_
              rotate_left
              · intro w'
                go_simp
                with_reducible rfl
              rotate_left
              · simp only [Act.put, List.setIfInBounds_toArray, List.set_cons_zero, List.set_cons_succ, i64_w, i32_w]
                rfl
              refine pure_ (i := 17) (N := some 143) (v := undef) (a' := ?_) #[true, true, true, true, true, true, true, true, true, true, true, true, true, true, true, true, true, true, false, false, false, false, false, false, false, false, false, false, false, false, false, false, false, false, false, false] rfl rfl (any_of HT_.out (by kernel_rfl)) (fun _ _ _ h => h) (Or.inr ⟨by rfl, rfl⟩) ?_ ?_
              rotate_left
              · simp only [Act.put, List.setIfInBounds_toArray, List.set_cons_zero, List.set_cons_succ, i64_w, i32_w]
                rfl
              refine pure_ (i := 18) (N := some 144) (v := undef) (a' := ?_) #[true, true, true, true, true, true, true, true, true, true, true, true, true, true, true, true, true, true, true, false, false, false, false, false, false, false, false, false, false, false, false, false, false, false, false, false] rfl rfl (any_of HT_.out (by kernel_rfl)) (fun _ _ _ h => h) (Or.inr ⟨by rfl, rfl⟩) ?_ ?_
              rotate_left
              · simp only [Act.put, List.setIfInBounds_toArray, List.set_cons_zero, List.set_cons_succ, i64_w, i32_w]
                rfl
              refine pure_ (i := 19) (N := some 145) (v := undef) (a' := ?_) #[true, true, true, true, true, true, true, true, true, true, true, true, true, true, true, true, true, true, true, true, false, false, false, false, false, false, false, false, false, false, false, false, false, false, false, false] rfl rfl (any_of HT_.out (by kernel_rfl)) (fun _ _ _ h => h) (Or.inr ⟨by rfl, rfl⟩) ?_ ?_
              rotate_left
              · simp only [Act.put, List.setIfInBounds_toArray, List.set_cons_zero, List.set_cons_succ, i64_w, i32_w]
                rfl
              refine pure_ (i := 20) (N := some 146) (v := undef) (a' := ?_) #[true, true, true, true, true, true, true, true, true, true, true, true, true, true, true, true, true, true, true, true, true, false, false, false, false, false, false, false, false, false, false, false, false, false, false, false] rfl rfl (any_of HT_.out (by kernel_rfl)) (fun _ _ _ h => h) (Or.inr ⟨by rfl, rfl⟩) ?_ ?_
              rotate_left
              · simp only [Act.put, List.setIfInBounds_toArray, List.set_cons_zero, List.set_cons_succ, i64_w, i32_w]
                rfl
              refine pure_ (i := 21) (N := some 147) (v := undef) (a' := ?_) #[true, true, true, true, true, true, true, true, true, true, true, true, true, true, true, true, true, true, true, true, true, true, false, false, false, false, false, false, false, false, false, false, false, false, false, false] rfl rfl (any_of HT_.out (by kernel_rfl)) (fun _ _ _ h => h) (Or.inr ⟨by rfl, rfl⟩) ?_ ?_
              rotate_left
              · simp only [Act.put, List.setIfInBounds_toArray, List.set_cons_zero, List.set_cons_succ, i64_w, i32_w]
                rfl
              refine pure_ (i := 22) (N := some 148) (v := undef) (a' := ?_) #[true, true, true, true, true, true, true, true, true, true, true, true, true, true, true, true, true, true, true, true, true, true, true, false, false, false, false, false, false, false, false, false, false, false, false, false] rfl rfl (any_of HT_.out (by kernel_rfl)) (fun _ _ _ h => h) (Or.inr ⟨by rfl, rfl⟩) ?_ ?_
              rotate_left
              · simp only [Act.put, List.setIfInBounds_toArray, List.set_cons_zero, List.set_cons_succ, i64_w, i32_w]
                rfl
              refine pure_ (i := 23) (N := some 149) (v := undef) (a' := ?_) #[true, true, true, true, true, true, true, true, true, true, true, true, true, true, true, true, true, true, true, true, true, true, true, true, false, false, false, false, false, false, false, false, false, false, false, false] rfl rfl (any_of HT_.out (by kernel_rfl)) (fun _ _ _ h => h) (Or.inr ⟨by rfl, rfl⟩) ?_ ?_
              rotate_left
              · simp only [Act.put, List.setIfInBounds_toArray, List.set_cons_zero, List.set_cons_succ, i64_w, i32_w]
                rfl
              refine pure_ (i := 24) (N := some 150) (v := undef) (a' := ?_) #[true, true, true, true, true, true, true, true, true, true, true, true, true, true, true, true, true, true, true, true, true, true, true, true, true, false, false, false, false, false, false, false, false, false, false, false] rfl rfl (any_of HT_.out (by kernel_rfl)) (fun _ _ _ h => h) (Or.inr ⟨by rfl, rfl⟩) ?_ ?_
              rotate_left
              · simp only [Act.put, List.setIfInBounds_toArray, List.set_cons_zero, List.set_cons_succ, i64_w, i32_w]
                rfl
              refine pure_ (i := 25) (N := some 151) (v := undef) (a' := ?_) #[true, true, true, true, true, true, true, true, true, true, true, true, true, true, true, true, true, true, true, true, true, true, true, true, true, true, false, false, false, false, false, false, false, false, false, false] rfl rfl (any_of HT_.out (by kernel_rfl)) (fun _ _ _ h => h) (Or.inr ⟨by rfl, rfl⟩) ?_ ?_
              rotate_left
              · simp only [Act.put, List.setIfInBounds_toArray, List.set_cons_zero, List.set_cons_succ, i64_w, i32_w]
                rfl
              refine pure_ (i := 26) (N := some 152) (v := ?_) (a' := ?_) #[true, true, true, true, true, true, true, true, true, true, true, true, true, true, true, true, true, true, true, true, true, true, true, true, true, true, true, false, false, false, false, false, false, false, false, false] rfl rfl (any_of HT_.out (by kernel_rfl)) (fun _ _ _ h => h) (Or.inl ⟨by rfl, ?_⟩) ?_ ?_
              rotate_left
              · intro w'
                go_simp
                with_reducible rfl
              rotate_left
              · simp only [Act.put, List.setIfInBounds_toArray, List.set_cons_zero, List.set_cons_succ, i64_w, i32_w]
                rfl
              refine pure_ (i := 27) (N := some 153) (v := ?_) (a' := ?_) #[true, true, true, true, true, true, true, true, true, true, true, true, true, true, true, true, true, true, true, true, true, true, true, true, true, true, true, true, false, false, false, false, false, false, false, false] rfl rfl (any_of HT_.out (by kernel_rfl)) (fun _ _ _ h => h) (Or.inl ⟨by rfl, ?_⟩) ?_ ?_
              rotate_left
              · intro w'
                go_simp
                with_reducible rfl
              rotate_left
              · simp only [Act.put, List.setIfInBounds_toArray, List.set_cons_zero, List.set_cons_succ, i64_w, i32_w]
                rfl
              refine pure_ (i := 28) (N := some 154) (v := ?_) (a' := ?_) #[true, true, true, true, true, true, true, true, true, true, true, true, true, true, true, true, true, true, true, true, true, true, true, true, true, true, true, true, true, false, false, false, false, false, false, false] rfl rfl (any_of HT_.out (by kernel_rfl)) (fun _ _ _ h => h) (Or.inl ⟨by rfl, ?_⟩) ?_ ?_
              rotate_left
              · intro w'
                go_simp
                with_reducible rfl
              rotate_left
              · simp only [Act.put, List.setIfInBounds_toArray, List.set_cons_zero, List.set_cons_succ, i64_w, i32_w]
                rfl
              refine pure_ (i := 29) (N := some 155) (v := ?_) (a' := ?_) #[true, true, true, true, true, true, true, true, true, true, true, true, true, true, true, true, true, true, true, true, true, true, true, true, true, true, true, true, true, true, false, false, false, false, false, false] rfl rfl (any_of HT_.out (by kernel_rfl)) (fun _ _ _ h => h) (Or.inl ⟨by rfl, ?_⟩) ?_ ?_
              rotate_left
              · intro w'
                go_simp
                with_reducible rfl
              rotate_left
              · simp only [Act.put, List.setIfInBounds_toArray, List.set_cons_zero, List.set_cons_succ, i64_w, i32_w]
                rfl
              refine pure_ (i := 30) (N := some 156) (v := ?_) (a' := ?_) #[true, true, true, true, true, true, true, true, true, true, true, true, true, true, true, true, true, true, true, true, true, true, true, true, true, true, true, true, true, true, true, false, false, false, false, false] rfl rfl (any_of HT_.out (by kernel_rfl)) (fun _ _ _ h => h) (Or.inl ⟨by rfl, ?_⟩) ?_ ?_
              rotate_left
              · intro w'
                go_simp
                with_reducible rfl
              rotate_left
              · simp only [Act.put, List.setIfInBounds_toArray, List.set_cons_zero, List.set_cons_succ, i64_w, i32_w]
                rfl
              refine pure_ (i := 31) (N := some 157) (v := ?_) (a' := ?_) #[true, true, true, true, true, true, true, true, true, true, true, true, true, true, true, true, true, true, true, true, true, true, true, true, true, true, true, true, true, true, true, true, false, false, false, false] rfl rfl (any_of HT_.out (by kernel_rfl)) (fun _ _ _ h => h) (Or.inl ⟨by rfl, ?_⟩) ?_ ?_
              rotate_left
              · intro w'
                go_simp
                with_reducible rfl
              rotate_left
              · simp only [Act.put, List.setIfInBounds_toArray, List.set_cons_zero, List.set_cons_succ, i64_w, i32_w]
                rfl
              refine pure_ (i := 32) (N := some 158) (v := ?_) (a' := ?_) #[true, true, true, true, true, true, true, true, true, true, true, true, true, true, true, true, true, true, true, true, true, true, true, true, true, true, true, true, true, true, true, true, true, false, false, false] rfl rfl (any_of HT_.out (by kernel_rfl)) (fun _ _ _ h => h) (Or.inl ⟨by rfl, ?_⟩) ?_ ?_
              rotate_left
              · intro w'
                go_simp
                with_reducible rfl
              rotate_left
              · simp only [Act.put, List.setIfInBounds_toArray, List.set_cons_zero, List.set_cons_succ, i64_w, i32_w]
                rfl
              refine pure_ (i := 33) (N := some 159) (v := ?_) (a' := ?_) #[true, true, true, true, true, true, true, true, true, true, true, true, true, true, true, true, true, true, true, true, true, true, true, true, true, true, true, true, true, true, true, true, true, true, false, false] rfl rfl (any_of HT_.out (by kernel_rfl)) (fun _ _ _ h => h) (Or.inl ⟨by rfl, ?_⟩) ?_ ?_
              rotate_left
              · intro w'
                go_simp
                with_reducible rfl
              rotate_left
              · simp only [Act.put, List.setIfInBounds_toArray, List.set_cons_zero, List.set_cons_succ, i64_w, i32_w]
                rfl
              refine pure_ (i := 34) (N := some 160) (v := ?_) (a' := ?_) #[true, true, true, true, true, true, true, true, true, true, true, true, true, true, true, true, true, true, true, true, true, true, true, true, true, true, true, true, true, true, true, true, true, true, true, false] rfl rfl (any_of HT_.out (by kernel_rfl)) (fun _ _ _ h => h) (Or.inl ⟨by rfl, ?_⟩) ?_ ?_
              rotate_left
              · intro w'
                go_simp
                with_reducible rfl
              rotate_left
              · simp only [Act.put, List.setIfInBounds_toArray, List.set_cons_zero, List.set_cons_succ, i64_w, i32_w]
                rfl
              refine pure_ (i := 35) (N := some 161) (v := ?_) (a' := ?_) #[true, true, true, true, true, true, true, true, true, true, true, true, true, true, true, true, true, true, true, true, true, true, true, true, true, true, true, true, true, true, true, true, true, true, true, true] rfl rfl (any_of HT_.out (by kernel_rfl)) (fun _ _ _ h => h) (Or.inl ⟨by rfl, ?_⟩) ?_ ?_
              rotate_left
              · intro w'
                go_simp
                with_reducible rfl
              rotate_left
              · simp only [Act.put, List.setIfInBounds_toArray, List.set_cons_zero, List.set_cons_succ, i64_w, i32_w]
                rfl
              refine done_ (done_of HT_.out (by kernel_rfl)) ?_
              go_wp2
              go_roundg (l2.length - (j + 1))
              case measure => have := HJ.out; have := HLT2.out; omega
              case rel => exact ⟨j + 1, by have := HJ.out; have := HLT2.out; omega, by rw [wS (by have := HLT2.out; have := HL2.out; omega)], HQ3⟩
          · have hcj : decide (j < l2.length) = false := decide_eq_false hlt2
            clear hj hlt2
            go_wp2
            go_roundg (l0.length - (i + 1))
            case measure => have := HI.out; have := HLT.out; omega
            case rel => exact ⟨i + 1, S, its, ps, E, V, v0, _, _, by have := HI.out; have := HLT.out; omega, by rw [wS (by have := HLT.out; have := HL0.out; omega)], HT, HRl, ⟨by have := HLn.out.1; omega, by have := HLn.out.2; omega⟩⟩
    · have hcn : decide (i < l0.length) = false := decide_eq_false hlt
      clear hi hlt
      go_wp2_with (first
        | (go_at_call 24; refine (awake_.calls _).mono ?_; rintro e w5 ⟨rfl, hb⟩; have B5 := Aside0.mk (below_then HP.out.bl HP.out.bl.size hb); clear hb))
      go_ret
      exact ⟨rfl, B5.out⟩


/-! ### crossbucklaw18_VersionPlays: function 7 (by hand) -/
def crossbucklaw18_VersionPlays.f (l0 : List S63) (a1 : Int) (l2 : List Int) : Option Bool := some true
set_option maxHeartbeats 8000000 in
set_option maxRecDepth 100000 in
theorem plays_long (A0 : Option Addr) (c0 : Nat) (l0 : List S63) (a1 : Int) (A2 : Option Addr) (c2 : Nat) (l2 : List Int) (w : World) (h : 60 < l0.length ∨ 20 < l2.length) :
    Calls Try.prog 7 #[.slice A0 l0.length c0, .int .i64 a1, .slice A2 l2.length c2] w fun e w' => e = .returned (.bool true) ∧ Below w.heap.size w w' := by
  have B0 := Aside0.mk (Below.refl w.heap.size w)
  by_cases h1 : 60 < l0.length
  · have q1 : decide (60 < l0.length) = true := decide_eq_true h1
    have q3 : decide ((60 : Int) < (l0.length : Int)) = true := decide_eq_true (by omega)
    clear h h1
    go_enter Try.func7, Try.ntmps7
    go_wp2_with (first
      | (go_at_call 24; refine (awake_.calls _).mono ?_; rintro e w5 ⟨rfl, hb⟩; have B5 := Aside0.mk (below_step B0.out hb); clear hb))
    go_ret
    exact ⟨rfl, B5.out⟩
  · have q1 : decide (60 < l0.length) = false := decide_eq_false h1
    have q3 : decide ((60 : Int) < (l0.length : Int)) = false := decide_eq_false (by omega)
    have q2 : decide (20 < l2.length) = true := decide_eq_true (by omega)
    have q4 : decide ((20 : Int) < (l2.length : Int)) = true := decide_eq_true (by omega)
    clear h h1
    go_enter Try.func7, Try.ntmps7
    go_wp2_with (first
      | (go_at_call 24; refine (awake_.calls _).mono ?_; rintro e w5 ⟨rfl, hb⟩; have B5 := Aside0.mk (below_step B0.out hb); clear hb))
    go_ret
    exact ⟨rfl, B5.out⟩
theorem crossbucklaw18_VersionPlays.calls (A0 : Option Addr) (c0 : Nat) (l0 : List S63) (a1 : Int) (A2 : Option Addr) (c2 : Nat) (l2 : List Int) (r : Bool) (w : World) (hr0 : Kd.C k63 w A0 l0.length l0) (hc0 : l0.length ≤ c0) (hr2 : Kd.C (Kd.int .i64) w A2 l2.length l2) (hc2 : l2.length ≤ c2) (h : crossbucklaw18_VersionPlays.f l0 a1 l2 = some r) :
    Calls Try.prog 7 #[.slice A0 l0.length c0, .int .i64 a1, .slice A2 l2.length c2] w fun e w' => e = .returned (.bool r) ∧ Below w.heap.size w w' := by
  obtain rfl := Option.some.inj h
  by_cases h1 : 60 < l0.length ∨ 20 < l2.length
  · exact plays_long A0 c0 l0 a1 A2 c2 l2 w h1
  · exact plays_ A0 c0 l0 a1 A2 c2 l2 w hr0 hc0 hr2 hc2 (by omega) (by omega)

end Go.Proofs.Ytdemogdagemagaa.PVc
