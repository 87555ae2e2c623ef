-- The walks of the trie's functions, by hand.
import Derived.Test.YtbmibakhpealjaaPTrx51
namespace Go.Proofs.Ytbmibakhpealjaa.PTr
open Go.RowKit Go.Proofs.YtbmibakhpealjaaW.PrintWords Go.Proofs.YtbmibakhpealjaaW.PrintLast Go.Proofs.YtbmibakhpealjaaW.PrintMore
attribute [local go_sem] max2_int min2_int max_two min_two max_three min_three max_four min_four   -- for this text's walks alone
set_option linter.unusedVariables false
set_option linter.unusedSimpArgs false

open Go.Proofs.Ytbmibakhpealjaa.TrieP Go.Proofs.Ytbmibakhpealjaa.Facts Go.Proofs.Ytbmibakhpealjaa.Bits
/-- The way, not made, asked of a later world than the tree's: what is new there is kept too. -/
theorem wayN_at2 {a Bt : Nat} (ha : a < 4294967296) (hb : Bt ≤ 32) {w wo w1 : World} {S : Nat → Prop} {tb : Nat} {F : Nat → Nat → Option (List Int)} {B : Nat → Nat → Nat} {V : Nat → Nat → Value} {c : Int} (h : Tr w wo S tb F B V c) (hb1 : Below wo.heap.size wo w1) :
    Calls Try.prog 22 #[.pointer (some ⟨tb, 0, none⟩), .agg #[.int .u32 (a : Int), .int .i64 (Bt : Int)], .bool false] w1 fun e w' => ∃ (A : Option Addr) (cp m : Nat), e = .returned (.slice A (m + 1) cp) ∧ m ≤ Bt ∧ (∀ j, j ≤ m → F j (nk a j) ≠ none) ∧ (m < Bt → F (m + 1) (nk a (m + 1)) = none) ∧ kP.C w' A (m + 1) (wayL B a m) ∧ Below wo.heap.size wo w' ∧ Below w1.heap.size w1 w' := by
  refine (wayN_.calls a Bt ha hb w w1 S tb F B V c (h.below hb1)).mono ?_
  rintro e w' ⟨v, m, rfl, h1, h2, h3, ho, hb2⟩
  obtain ⟨A, cp, rfl, hle, hC⟩ := Kd.R_reads ho
  rw [wayL_len] at hC
  exact ⟨A, cp, m, by rw [wayL_len], h1, h2, h3, hC, below_step hb1 hb2, hb2⟩
theorem way_all {w wr : World} {S : Nat → Prop} {tb : Nat} {F : Nat → Nat → Option (List Int)} {B : Nat → Nat → Nat} {V : Nat → Nat → Value} {c : Int} (h : Tr w wr S tb F B V c) {a Bt : Nat} (hb : Bt ≤ 32) (hf : F Bt (nk a Bt) ≠ none) : ∀ d, d ≤ Bt → F (Bt - d) (nk a (Bt - d)) ≠ none
  | 0, _ => hf
  | d + 1, hd => by
    have h1 := way_all h hb hf d (by omega)
    have e : Bt - d = (Bt - (d + 1)) + 1 := by omega
    rw [e] at h1
    have h2 := h.up _ _ h1
    rwa [← nk_half (by omega)] at h2
/-- The way to a node that is there: its last pointer. -/
theorem way_to {a Bt : Nat} (ha : a < 4294967296) (hb : Bt ≤ 32) {w wo w1 : World} {S : Nat → Prop} {tb : Nat} {F : Nat → Nat → Option (List Int)} {B : Nat → Nat → Nat} {V : Nat → Nat → Value} {c : Int} (h : Tr w wo S tb F B V c) (hf : F Bt (nk a Bt) ≠ none) (hb1 : Below wo.heap.size wo w1) :
    Calls Try.prog 22 #[.pointer (some ⟨tb, 0, none⟩), .agg #[.int .u32 (a : Int), .int .i64 (Bt : Int)], .bool false] w1 fun e w' => ∃ (ad : Addr) (cp : Nat), e = .returned (.slice (some ad) (Bt + 1) cp) ∧ kP.C w' (some ad) (Bt + 1) (wayL B a Bt) ∧ Below wo.heap.size wo w' ∧ Below w1.heap.size w1 w' := by
  refine (wayN_at2 ha hb h hb1).mono ?_
  rintro e w' ⟨A, cp, m, rfl, h1, h2, h3, hC, hb2, hb3⟩
  obtain rfl : m = Bt := by
    rcases Nat.lt_or_eq_of_le h1 with hlt | he
    · exact absurd (h3 hlt) (by have := way_all h hb hf (Bt - (m + 1)) (by omega); rwa [show Bt - (Bt - (m + 1)) = m + 1 by omega] at this)
    · exact he
  obtain ⟨ad, e, _⟩ := at_P hC 0 (by omega) (by omega) (g := B 0 (nk a 0)) (List.getElem?_eq_getElem (by rw [wayL_len]; exact Nat.succ_pos _) |>.trans (congrArg some (wayL_get B a (Nat.zero_le _))))
  subst e
  exact ⟨ad, cp, rfl, hC, hb2, hb3⟩
set_option maxHeartbeats 4000000 in
set_option maxRecDepth 100000 in
theorem drop_bad (a : Nat) (b x : Int) (ha : a < 4294967296) (hr : rightB a b = false) (wo : World) (tb : Nat) :
    Calls Try.prog 14 #[.pointer (some ⟨tb, 0, none⟩), .agg #[.int .u32 (a : Int), .int .i64 b], .int .i64 x] wo fun e w' => e = .returned (.int .i64 13) ∧ Below wo.heap.size wo w' := by
  have B0 := Aside0.mk (Below.refl wo.heap.size wo)
  have HRT := Aside0.mk (show cidr_Right.f (a : Int) b = some false from (tright_eq (by omega) (by omega)).trans (congrArg some hr))
  clear ha hr
  go_enter Try.func14, Try.ntmps14
  go_wp2_with (first
    | ((with_reducible refine gate_dst (N := 4) rfl ?_); refine box_event ?hg (N := 4) ?hd (cs := #[.int .u32 (a : Int), .int .i64 b]) (t := 33) ?hr ?_; (case hd => rfl); (case hg => rfl); (case hr => first | (go_simp; done) | (go_simp; rfl)); intro gp hgx wx hbox hb; have PB := Aside0.mk hbox; have B1 := Aside0.mk hb; have z0 : wx.cell? ⟨gp, 0, none⟩ = some (.int .u32 (a : Int)) := (blk_cell hbox 0).trans rfl; have z1 : wx.cell? ⟨gp, 1, none⟩ = some (.int .i64 b) := (blk_cell hbox 1).trans rfl; clear hgx hbox hb)
    | (go_at_call 21; (with_reducible refine (cidr_Right.calls _ _ _ _ HRT.out).mono ?_); rintro e w1 ⟨rfl, hz⟩; have B2 := Aside0.mk (below_step B1.out hz); have PB2 := Aside0.mk (blk_below PB.out hz); clear z0 z1 hz; have z0 : w1.cell? ⟨gp, 0, none⟩ = some (.int .u32 (a : Int)) := (blk_cell PB2.out 0).trans rfl; have z1 : w1.cell? ⟨gp, 1, none⟩ = some (.int .i64 b) := (blk_cell PB2.out 1).trans rfl))
  go_ret
  exact ⟨rfl, by repeat (first | exact B2.out | apply pw_below_drewN | apply below_drew1)⟩
set_option maxHeartbeats 4000000 in
set_option maxRecDepth 100000 in
theorem drop_none1 (a Bt : Nat) (x : Int) (ha : a < 4294967296) (hb : Bt ≤ 32) (hr : a % 2 ^ (32 - Bt) = 0) (w wo : World) (S : Nat → Prop) (tb : Nat) (F : Nat → Nat → Option (List Int)) (B : Nat → Nat → Nat) (V : Nat → Nat → Value) (c : Int) (h : Tr w wo S tb F B V c) (hn : F Bt (nk a Bt) = none) :
    Calls Try.prog 14 #[.pointer (some ⟨tb, 0, none⟩), .agg #[.int .u32 (a : Int), .int .i64 (Bt : Int)], .int .i64 x] wo fun e w' => e = .returned (.int .i64 3) ∧ Below wo.heap.size wo w' := by
  have HT0 := Aside0.mk h
  have A1 := Aside0.mk ha
  have A2 := Aside0.mk hb
  have HRT := Aside0.mk (show cidr_Right.f (a : Int) (Bt : Int) = some true from (tright_eq (by omega) (by omega)).trans (congrArg some (rt_right hb hr)))
  have HN := Aside0.mk hn
  clear h ha hb hr hn
  go_enter Try.func14, Try.ntmps14
  go_wp2_with (first
    | ((with_reducible refine gate_dst (N := 4) rfl ?_); refine box_event ?hg (N := 4) ?hd (cs := #[.int .u32 (a : Int), .int .i64 (Bt : Int)]) (t := 33) ?hr ?_; (case hd => rfl); (case hg => rfl); (case hr => first | (go_simp; done) | (go_simp; rfl)); intro gp hgx wx hbox hb; have PB := Aside0.mk hbox; have B1 := Aside0.mk hb; have z0 : wx.cell? ⟨gp, 0, none⟩ = some (.int .u32 (a : Int)) := (blk_cell hbox 0).trans rfl; have z1 : wx.cell? ⟨gp, 1, none⟩ = some (.int .i64 (Bt : Int)) := (blk_cell hbox 1).trans rfl; clear hgx hbox hb)
    | (go_at_call 21; (with_reducible refine (cidr_Right.calls _ _ _ _ HRT.out).mono ?_); rintro e w1 ⟨rfl, hz⟩; have B2 := Aside0.mk (below_step B1.out hz); have PB2 := Aside0.mk (blk_below PB.out hz); clear z0 z1 hz; have z0 : w1.cell? ⟨gp, 0, none⟩ = some (.int .u32 (a : Int)) := (blk_cell PB2.out 0).trans rfl; have z1 : w1.cell? ⟨gp, 1, none⟩ = some (.int .i64 (Bt : Int)) := (blk_cell PB2.out 1).trans rfl)
    | (go_at_call 22; (with_reducible refine (wayN_at2 A1.out A2.out HT0.out (by repeat (first | exact B2.out | apply pw_below_drewN | apply below_drew1))).mono ?_); rintro e w2 ⟨A0, c0, m, rfl, hm, hF, _, _, hb, hb1⟩; have hlt : m < Bt := (by rcases Nat.lt_or_eq_of_le hm with h | h; exact h; exact absurd HN.out (h ▸ hF m (Nat.le_refl _))); have q1 : decide (m + 1 ≤ Bt) = true := decide_eq_true hlt; have q2 : decide ((m : Int) + 1 ≤ (Bt : Int)) = true := decide_eq_true (by omega); have q3 : (m : Int) + 1 ≤ (Bt : Int) := (by omega); have B3 := Aside0.mk hb; have PB3 := Aside0.mk (blk_below PB2.out (by first | exact hb1 | exact below_step (by repeat (first | exact Below.refl _ _ | apply pw_below_drewN | apply below_drew1)) hb1)); clear z0 z1; have z1 : w2.cell? ⟨gp, 1, none⟩ = some (.int .i64 (Bt : Int)) := (blk_cell PB3.out 1).trans rfl; clear hm hF hb hb1))
  go_ret
  exact ⟨rfl, B3.out⟩
set_option maxHeartbeats 4000000 in
set_option maxRecDepth 100000 in
theorem drop_none2 (a Bt : Nat) (x : Int) (ha : a < 4294967296) (hb : Bt ≤ 32) (hr : a % 2 ^ (32 - Bt) = 0) (w wo : World) (S : Nat → Prop) (tb : Nat) (F : Nat → Nat → Option (List Int)) (B : Nat → Nat → Nat) (V : Nat → Nat → Value) (c : Int) (h : Tr w wo S tb F B V c) (vs : List Int) (hvs : F Bt (nk a Bt) = some vs) (hs : vs.Pairwise (· < ·)) (hl : vs.length ≤ 1000) (hx : x ∉ vs) :
    Calls Try.prog 14 #[.pointer (some ⟨tb, 0, none⟩), .agg #[.int .u32 (a : Int), .int .i64 (Bt : Int)], .int .i64 x] wo fun e w' => e = .returned (.int .i64 3) ∧ Below wo.heap.size wo w' := by
  have HT0 := Aside0.mk h
  have A1 := Aside0.mk ha
  have A2 := Aside0.mk hb
  have HRT := Aside0.mk (show cidr_Right.f (a : Int) (Bt : Int) = some true from (tright_eq (by omega) (by omega)).trans (congrArg some (rt_right hb hr)))
  have HVS := Aside0.mk hvs
  have HNN := Aside0.mk (show F Bt (nk a Bt) ≠ none by rw [hvs]; exact fun e => by cases e)
  obtain ⟨i, hi0, hins, hmem, k, hev⟩ := search_ev hl hs x
  have HEV := Aside0.mk (hev k (Nat.le_refl _))
  rw [show decide (x ∈ vs) = false from decide_eq_false hx] at HEV
  clear h ha hb hr hvs hs hl hx hi0 hins hmem hev
  go_enter Try.func14, Try.ntmps14
  go_wp2_with (first
    | ((with_reducible refine gate_dst (N := 4) rfl ?_); refine box_event ?hg (N := 4) ?hd (cs := #[.int .u32 (a : Int), .int .i64 (Bt : Int)]) (t := 33) ?hr ?_; (case hd => rfl); (case hg => rfl); (case hr => first | (go_simp; done) | (go_simp; rfl)); intro gp hgx wx hbox hb; have PB := Aside0.mk hbox; have B1 := Aside0.mk hb; have z0 : wx.cell? ⟨gp, 0, none⟩ = some (.int .u32 (a : Int)) := (blk_cell hbox 0).trans rfl; have z1 : wx.cell? ⟨gp, 1, none⟩ = some (.int .i64 (Bt : Int)) := (blk_cell hbox 1).trans rfl; clear hgx hbox hb)
    | (go_at_call 21; (with_reducible refine (cidr_Right.calls _ _ _ _ HRT.out).mono ?_); rintro e w1 ⟨rfl, hz⟩; have B2 := Aside0.mk (below_step B1.out hz); have PB2 := Aside0.mk (blk_below PB.out hz); clear z0 z1 hz; have z0 : w1.cell? ⟨gp, 0, none⟩ = some (.int .u32 (a : Int)) := (blk_cell PB2.out 0).trans rfl; have z1 : w1.cell? ⟨gp, 1, none⟩ = some (.int .i64 (Bt : Int)) := (blk_cell PB2.out 1).trans rfl)
    | (go_at_call 22; (with_reducible refine (way_to A1.out A2.out HT0.out HNN.out (by repeat (first | exact B2.out | apply pw_below_drewN | apply below_drew1))).mono ?_); rintro e w2 ⟨ad, c0, rfl, hC, hb, hb1⟩; have q1 : decide (Bt + 1 ≤ Bt) = false := decide_eq_false (by omega); have q2 : decide ((Bt : Int) + 1 ≤ (Bt : Int)) = false := decide_eq_false (by omega); have B3 := Aside0.mk hb; have PB3 := Aside0.mk (blk_below PB2.out (by first | exact hb1 | exact below_step (by repeat (first | exact Below.refl _ _ | apply pw_below_drewN | apply below_drew1)) hb1)); clear z0 z1; have z1 : w2.cell? ⟨gp, 1, none⟩ = some (.int .i64 (Bt : Int)) := (blk_cell PB3.out 1).trans rfl; obtain ⟨ad', e', hx⟩ := at_P hC (Bt : Int) (by omega) (by omega) (g := B Bt (nk a Bt)) (by rw [Int.toNat_natCast]; exact (List.getElem?_eq_getElem (by rw [wayL_len]; exact Nat.lt_succ_self _)).trans (congrArg some (wayL_get B a (Nat.le_refl _)))); cases e'; rw [Int.toNat_natCast] at hx; have HT2 := Aside0.mk (HT0.out.below hb); obtain ⟨A1', c1, hV2, hle, hCV, hz0⟩ := HT2.out.vals HVS.out; have HV2 := Aside0.mk hV2; have HLE := Aside0.mk hle; have HCV := Aside0.mk hCV; have HC := Aside0.mk hC; clear hC hb hb1 hV2 hle hCV)
    | (go_at_call 23; (with_reducible refine (slices_BinarySearch_int_int.calls k A1' c1 vs x (i : Int) _ _ (by exact HCV.out) HLE.out HEV.out).mono ?_); rintro e w3 ⟨rfl, ⟨nd, rfl⟩⟩))
  go_ret
  exact ⟨rfl, by repeat (first | exact B3.out | apply pw_below_drewN | apply below_drew1)⟩


open Go.Proofs.Ytbmibakhpealjaa.TrieP Go.Proofs.Ytbmibakhpealjaa.Facts Go.Proofs.Ytbmibakhpealjaa.Bits
/-- slices.Delete at a node's values, and the store of what comes. -/
theorem Tr.delete_ {w w2 W : World} {S : Nat → Prop} {tb : Nat} {F : Nat → Nat → Option (List Int)} {B : Nat → Nat → Nat} {V : Nat → Nat → Value} {c : Int} (ht : Tr w w2 S tb F B V c) {b n : Nat} {vs : List Int} (hf : F b n = some vs) {A : Option Addr} {cp : Nat} (hV : V b n = .slice A vs.length cp) {i : Nat} (hi : i < vs.length) (hl : vs.length ≤ 1000) (hW : Below w2.heap.size w2 W) :
    Calls Try.prog 30 #[.slice A vs.length cp, .int .i64 (i : Int), .int .i64 ((i : Int) + 1)] W fun e w' => e = .returned (.slice A (vs.length - 1) cp) ∧
      (∀ b' n' vs', F b' n' = some vs' → w'.heap[B b' n']? = some (.cells (ncs F B V c b' n') (nty b') (0, 0))) ∧ Kept W w' S ∧
      Tr w (w'.setCell ⟨B b n, 0, none⟩ (.slice A (vs.length - 1) cp)) (fun k => S k ∨ W.heap.size ≤ k) tb (upd2 F b n (some (vs.take i ++ vs.drop (i + 1)))) B (upd2 V b n (.slice A (vs.length - 1) cp)) c := by
  rw [show (i : Int) + 1 = ((i + 1 : Nat) : Int) by omega]
  have ht' := ht.below hW
  have hrow := ht'.row b n vs hf
  rw [hV] at hrow
  refine (delete_.calls A cp w.heap.size i _ vs W hrow hi (by omega)).mono ?_
  rintro e w' ⟨rfl, hR, hg⟩
  rw [← hV] at hg
  have hk : Kept W w' (fun k => some k = (V b n).ownBlock) := Kept.of_grown hg (Kept.refl W _) (fun k hk => .inl hk.symm)
  have hbl : Below w.heap.size w w' := pw_below_grown ht'.bl _ ht'.bl.size hg (fun k hk => Kd.R_base (ht'.row b n vs hf) k hk)
  refine ⟨rfl, fun b' n' vs' hf' => blk_kept (ht'.nod b' n' vs' hf') hk (Kd.R_ne (ht'.row b n vs hf) (ht'.nod b' n' vs' hf') (nty_ne b')), hk.mono (fun k h => ht.sv b n vs hf k h), ?_⟩
  refine ht'.setVals hf hk hbl (R_tight hR) (fun k hk2 => .inl ?_)
  rw [hV]
  cases A <;> exact hk2


open Go.Proofs.Ytbmibakhpealjaa.TrieP Go.Proofs.Ytbmibakhpealjaa.Facts Go.Proofs.Ytbmibakhpealjaa.Bits
set_option maxHeartbeats 1000000 in
set_option maxRecDepth 100000 in
theorem nil_add (a b x : Int) (wo : World) : Calls Try.prog 8 #[.pointer none, .agg #[.int .u32 a, .int .i64 b], .int .i64 x] wo fun e w' => e = .returned (.int .i64 2) ∧ Below wo.heap.size wo w' := by
  go_enter Try.func8, Try.ntmps8
  go_wp2_with (first
    | ((with_reducible refine gate_dst (N := 4) rfl ?_); refine box_event ?hg (N := 4) ?hd (cs := #[.int .u32 a, .int .i64 b]) (t := 33) ?hr ?_; (case hd => rfl); (case hg => rfl); (case hr => first | (go_simp; done) | (go_simp; rfl)); intro gp hgx wx hbox hb; have B1 := Aside0.mk hb; clear hgx hbox hb))
  go_ret
  exact ⟨rfl, by repeat (first | exact B1.out | apply pw_below_drewN | apply below_drew1)⟩
set_option maxHeartbeats 1000000 in
set_option maxRecDepth 100000 in
theorem nil_drop (a b x : Int) (wo : World) : Calls Try.prog 14 #[.pointer none, .agg #[.int .u32 a, .int .i64 b], .int .i64 x] wo fun e w' => e = .returned (.int .i64 2) ∧ Below wo.heap.size wo w' := by
  go_enter Try.func14, Try.ntmps14
  go_wp2_with (first
    | ((with_reducible refine gate_dst (N := 4) rfl ?_); refine box_event ?hg (N := 4) ?hd (cs := #[.int .u32 a, .int .i64 b]) (t := 33) ?hr ?_; (case hd => rfl); (case hg => rfl); (case hr => first | (go_simp; done) | (go_simp; rfl)); intro gp hgx wx hbox hb; have B1 := Aside0.mk hb; clear hgx hbox hb))
  go_ret
  exact ⟨rfl, by repeat (first | exact B1.out | apply pw_below_drewN | apply below_drew1)⟩
set_option maxHeartbeats 1000000 in
set_option maxRecDepth 100000 in
theorem nil_len (wo : World) : Calls Try.prog 13 #[.pointer none] wo fun e w' => e = .returned (.int .i64 0) ∧ Below wo.heap.size wo w' := by
  go_enter Try.func13, Try.ntmps13
  go_wp2
  go_ret
  exact ⟨rfl, by repeat (first | exact Below.refl _ _ | apply pw_below_drewN | apply below_drew1)⟩
set_option maxHeartbeats 1000000 in
set_option maxRecDepth 100000 in
theorem nil_size (wo : World) : Calls Try.prog 10 #[.pointer none] wo fun e w' => e = .returned (.int .i64 0) ∧ Below wo.heap.size wo w' := by
  go_enter Try.func10, Try.ntmps10
  go_wp2
  go_ret
  exact ⟨rfl, by repeat (first | exact Below.refl _ _ | apply pw_below_drewN | apply below_drew1)⟩
set_option maxHeartbeats 1000000 in
set_option maxRecDepth 100000 in
theorem nil_of (a : Int) (wo : World) : Calls Try.prog 11 #[.pointer none, .int .u32 a] wo fun e w' => e = .returned (.slice none 0 0) ∧ Below wo.heap.size wo w' := by
  go_enter Try.func11, Try.ntmps11
  go_wp2
  go_ret
  exact ⟨rfl, by repeat (first | exact Below.refl _ _ | apply pw_below_drewN | apply below_drew1)⟩
set_option maxHeartbeats 1000000 in
set_option maxRecDepth 100000 in
theorem nil_all (wo : World) : Calls Try.prog 9 #[.pointer none] wo fun e w' => e = .returned (.slice none 0 0) ∧ Below wo.heap.size wo w' := by
  go_enter Try.func9, Try.ntmps9
  go_wp2
  go_ret
  exact ⟨rfl, by repeat (first | exact Below.refl _ _ | apply pw_below_drewN | apply below_drew1)⟩
set_option maxHeartbeats 1000000 in
set_option maxRecDepth 100000 in
theorem nil_meeting (a b : Int) (wo : World) : Calls Try.prog 12 #[.pointer none, .agg #[.int .u32 a, .int .i64 b]] wo fun e w' => e = .returned (.slice none 0 0) ∧ Below wo.heap.size wo w' := by
  go_enter Try.func12, Try.ntmps12
  go_wp2_with (first
    | ((with_reducible refine gate_dst (N := 3) rfl ?_); refine box_event ?hg (N := 3) ?hd (cs := #[.int .u32 a, .int .i64 b]) (t := 33) ?hr ?_; (case hd => rfl); (case hg => rfl); (case hr => first | (go_simp; done) | (go_simp; rfl)); intro gp hgx wx hbox hb; have B1 := Aside0.mk hb; clear hgx hbox hb))
  go_ret
  exact ⟨rfl, by repeat (first | exact B1.out | apply pw_below_drewN | apply below_drew1)⟩


open Go.Proofs.Ytbmibakhpealjaa.TrieP Go.Proofs.Ytbmibakhpealjaa.Facts Go.Proofs.Ytbmibakhpealjaa.Bits
theorem way_to2 {a Bt : Nat} (ha : a < 4294967296) (hb : Bt ≤ 32) {w wo w1 : World} {S : Nat → Prop} {tb : Nat} {F : Nat → Nat → Option (List Int)} {B : Nat → Nat → Nat} {V : Nat → Nat → Value} {c : Int} (h : Tr w wo S tb F B V c) (hf : F Bt (nk a Bt) ≠ none) (hb1 : Below wo.heap.size wo w1) :
    Calls Try.prog 22 #[.pointer (some ⟨tb, 0, none⟩), .agg #[.int .u32 (a : Int), .int .i64 (Bt : Int)], .bool false] w1 fun e w' => ∃ (ad : Addr) (cp : Nat), e = .returned (.slice (some ad) (Bt + 1) cp) ∧ kP.R 25 w' w1.heap.size (fun k => w1.heap.size ≤ k) (.slice (some ad) (Bt + 1) cp) (wayL B a Bt) ∧ Below wo.heap.size wo w' ∧ Below w1.heap.size w1 w' := by
  refine (wayN_.calls a Bt ha hb w w1 S tb F B V c (h.below hb1)).mono ?_
  rintro e w' ⟨v, m, rfl, h1, h2, h3, ho, hb2⟩
  obtain rfl : m = Bt := by
    rcases Nat.lt_or_eq_of_le h1 with hlt | he
    · exact absurd (h3 hlt) (by have := way_all h hb hf (Bt - (m + 1)) (by omega); rwa [show Bt - (Bt - (m + 1)) = m + 1 by omega] at this)
    · exact he
  obtain ⟨ad, cp, rfl⟩ := Kd.R_slice1 ho (by rw [wayL_len]; omega)
  rw [wayL_len] at ho ⊢
  exact ⟨ad, cp, rfl, ho, below_step hb1 hb2, hb2⟩
/-- '==' of a pair of pointers and two nils. -/
theorem eqP (d : Nat) (w : World) (x : Option Addr) : (Op.equalIn (d + 1) 25 (.pointer x) (.pointer none)).run Try.prog w = .ok x.isNone w := by
  cases x <;> simp [Op.equalIn, run_underlying Try.underlying25]
theorem eqA26 (d : Nat) (w : World) (x y : Option Addr) : (Op.equalIn (d + 2) 26 (.agg #[.pointer x, .pointer y]) (.agg #[.pointer none, .pointer none])).run Try.prog w = .ok (x.isNone && y.isNone) w := by
  have hp : ∀ (xs : Array Value) (i : Nat) (v : Value), xs[i]? = some v → (part 25 xs i).run Try.prog w = .ok v w := fun xs i v h => by
    have : xs.toList[i]? = some v := by simpa using h
    simp [part, isAgg, run_underlying Try.underlying25, h, Result.andThen]
  have hz : (sizeOf 25).run Try.prog w = .ok 1 w := by simp [sizeOf, typeInfo, go_sem]; kernel_rfl
  rw [Op.equalIn]
  simp only [Sem.run_bind, run_underlying Try.underlying26, Result.andThen_ok, hz]
  cases x <;> cases y <;> simp [Std.Legacy.Range.forIn_eq_forIn_range', List.range', hp, eqP, Result.andThen]
theorem G_at {l : List En} {e : En} {i j : Nat} (hel : e ∈ l) (hj : j ≤ i) (hi : i ≤ e.b) : ∃ vs, G l e i j (nk e.a j) = some vs := by
  unfold G
  rw [if_neg (by omega)]
  split
  · exact ⟨_, rfl⟩
  · exact ⟨_, X_get (X_way hel (by omega))⟩
theorem G_len {l : List En} {e : En} (hl : l.length ≤ 1000) (i b n : Nat) (vs : List Int) (h : G l e i b n = some vs) : vs.length ≤ 1000 := by
  unfold G at h
  split at h
  · cases h
  · split at h
    · rw [← Option.some.inj h]
      exact Nat.le_trans (List.length_filter_le _ _) (by rw [List.length_map]; exact Nat.le_trans (List.length_filter_le _ _) hl)
    · exact X_len hl _ _ _ h
def drop_.T17 : Bool × List (List Nat × List Nat) := (true, [([], []), ([], []), ([1], [1]), ([0, 2], [0, 2]), ([3], [3]), ([], []), ([5], [5]), ([], []), ([7], [7]), ([6, 8], [6, 8]), ([4], [4]), ([10], [10]), ([11, 9, 0, 1, 2, 3, 4, 5, 6, 7, 8, 9], [9, 11]), ([12, 9, 0, 1, 2, 3, 4, 5, 6, 7, 8, 9], [12])])
def drop_.B17 : List Nat := [0, 0, 2, 7, 15, 0, 32, 0, 128, 480, 31, 1055, 4095, 8191]
theorem drop_.tab17 : rtab .any (opsOf Try.f14 17) = drop_.T17 := by kernel_rfl
theorem drop_.bits17 : waitsOk drop_.T17.2 drop_.B17 = true := by kernel_rfl
def DropOut (w wo : World) (S : Nat → Prop) (tb : Nat) (F : Nat → Nat → Option (List Int)) (B : Nat → Nat → Nat) (c : Int) (e : Ending) (w' : World) : Prop := ∃ V2 : Nat → Nat → Value, e = .returned (.int .i64 0) ∧ Tr w w' (fun k => S k ∨ wo.heap.size ≤ k) tb F B V2 c ∧ Kept wo w' S
theorem row_at {w : World} {base : Nat} {ok : Nat → Prop} {ad : Addr} {a Bt c0 m : Nat} {B : Nat → Nat → Nat} (h : kP.R 25 w base ok (.slice (some ad) (Bt + 1) c0) (wayL B a Bt)) (hm : m ≤ Bt) : w.cell? (ad.add m) = some (.pointer (some ⟨B m (nk a m), 0, none⟩)) := by
  have hC := (Kd.R_reads' h).2.2
  rw [wayL_len] at hC
  obtain ⟨ad', e', hx⟩ := at_P hC (m : Int) (by omega) (by omega) (g := B m (nk a m)) (by rw [Int.toNat_natCast]; exact (List.getElem?_eq_getElem (by rw [wayL_len]; omega)).trans (congrArg some (wayL_get B a hm)))
  cases e'
  rw [Int.toNat_natCast] at hx
  exact hx
attribute [local go_sem high] eqA26
set_option maxHeartbeats 4000000 in
set_option maxRecDepth 100000 in
theorem drop_found (a Bt : Nat) (x : Int) (ha : a < 4294967296) (hb : Bt ≤ 32) (hr : a % 2 ^ (32 - Bt) = 0) (w wo : World) (S : Nat → Prop) (tb : Nat) (l : List En) (B : Nat → Nat → Nat) (V : Nat → Nat → Value) (c : Int) (h : Tr w wo S tb (X l) B V c) (hsr : Srt l) (hrt : Rts l) (hll : l.length ≤ 1000) (he : (⟨a, Bt, x⟩ : En) ∈ l) (hc0 : 0 ≤ c) (hc1 : c ≤ 1000000) :
    Calls Try.prog 14 #[.pointer (some ⟨tb, 0, none⟩), .agg #[.int .u32 (a : Int), .int .i64 (Bt : Int)], .int .i64 x] wo (DropOut w wo S tb (X (del ⟨a, Bt, x⟩ l)) B (c - 1)) := by
  obtain ⟨vs, hvs⟩ : ∃ vs, X l Bt (nk a Bt) = some vs := ⟨_, X_get (X_way (e := ⟨a, Bt, x⟩) he (Nat.le_refl _))⟩
  have hvv := X_some hvs
  have hs : vs.Pairwise (· < ·) := by rw [hvv]; exact vals_srt hsr hrt _ _
  have hl : vs.length ≤ 1000 := X_len hll _ _ _ hvs
  have hx : x ∈ vs := by rw [hvv]; exact (mem_vals hrt (hrt _ he)).2 he
  have HT0 := Aside0.mk h
  have A1 := Aside0.mk ha
  have A2 := Aside0.mk hb
  have HRT := Aside0.mk (show cidr_Right.f (a : Int) (Bt : Int) = some true from (tright_eq (by omega) (by omega)).trans (congrArg some (rt_right hb hr)))
  have HVS := Aside0.mk hvs
  have HNN := Aside0.mk (show X l Bt (nk a Bt) ≠ none by rw [hvs]; exact fun e => by cases e)
  have HL := Aside0.mk hl
  have HLL := Aside0.mk hll
  have RTS := Aside0.mk hrt
  have RTE := Aside0.mk (hrt _ he)
  have HE := Aside0.mk he
  have HVV := Aside0.mk hvv
  obtain ⟨i, hi0, hins, hmem, k, hev⟩ := search_ev hl hs x
  obtain ⟨hil, hix⟩ := hmem hx
  have HIL := Aside0.mk hil
  have HDEL := Aside0.mk (del_at hs hil hix)
  have HEV := Aside0.mk (hev k (Nat.le_refl _))
  rw [show decide (x ∈ vs) = true from decide_eq_true hx] at HEV
  have hw1 : wrap64 ((i : Int) + 1) = ((i + 1 : Nat) : Int) := wS (by omega)
  obtain ⟨cc, hcc⟩ : ∃ cc : Int, cc = c - 1 := ⟨_, rfl⟩
  have HCC := Aside0.mk hcc
  have hcs : wrap64 (c - 1) = cc := (wrap64_id _ (by omega) (by omega)).trans hcc.symm
  have HTB := Aside0.mk (show S tb ∨ wo.heap.size ≤ tb from .inl h.rootBlk.choose_spec.2.2.1)
  clear h ha hb hr hvs hs hl hx hi0 hins hev hix hil hc0 hc1 hsr hrt hll he hvv hcc
  go_enter Try.func14, Try.ntmps14
  go_wp2_with (first
    | ((with_reducible refine gate_dst (N := 4) rfl ?_); refine box_event ?hg (N := 4) ?hd (cs := #[.int .u32 (a : Int), .int .i64 (Bt : Int)]) (t := 33) ?hr ?_; (case hd => rfl); (case hg => rfl); (case hr => first | (go_simp; done) | (go_simp; rfl)); intro gp hgx wx hbox hb; have PB := Aside0.mk hbox; have B1 := Aside0.mk hb; have z0 : wx.cell? ⟨gp, 0, none⟩ = some (.int .u32 (a : Int)) := (blk_cell hbox 0).trans rfl; have z1 : wx.cell? ⟨gp, 1, none⟩ = some (.int .i64 (Bt : Int)) := (blk_cell hbox 1).trans rfl; have GP := Aside0.mk (Nat.le_of_eq hgx.symm); clear hgx hbox hb)
    | (go_at_call 21; (with_reducible refine (cidr_Right.calls _ _ _ _ HRT.out).mono ?_); rintro e w1 ⟨rfl, hz⟩; have B2 := Aside0.mk (below_step B1.out hz); have PB2 := Aside0.mk (blk_below PB.out hz); clear z0 z1 hz; have z0 : w1.cell? ⟨gp, 0, none⟩ = some (.int .u32 (a : Int)) := (blk_cell PB2.out 0).trans rfl; have z1 : w1.cell? ⟨gp, 1, none⟩ = some (.int .i64 (Bt : Int)) := (blk_cell PB2.out 1).trans rfl)
    | (go_at_call 22; (with_reducible refine (way_to2 A1.out A2.out HT0.out HNN.out (by repeat (first | exact B2.out | apply pw_below_drewN | apply below_drew1))).mono ?_); rintro e w2 ⟨ad, c0, rfl, hR, hb, hb1⟩; have hC := (Kd.R_reads' hR).2.2; rw [wayL_len] at hC; have q1 : decide (Bt + 1 ≤ Bt) = false := decide_eq_false (by omega); have q2 : decide ((Bt : Int) + 1 ≤ (Bt : Int)) = false := decide_eq_false (by omega); have B3 := Aside0.mk hb; have PB3 := Aside0.mk (blk_below PB2.out (by first | exact hb1 | exact below_step (by repeat (first | exact Below.refl _ _ | apply pw_below_drewN | apply below_drew1)) hb1)); clear z0 z1; have z1 : w2.cell? ⟨gp, 1, none⟩ = some (.int .i64 (Bt : Int)) := (blk_cell PB3.out 1).trans rfl; obtain ⟨ad', e', hx⟩ := at_P hC (Bt : Int) (by omega) (by omega) (g := B Bt (nk a Bt)) (by rw [Int.toNat_natCast]; exact (List.getElem?_eq_getElem (by rw [wayL_len]; exact Nat.lt_succ_self _)).trans (congrArg some (wayL_get B a (Nat.le_refl _)))); cases e'; rw [Int.toNat_natCast] at hx; have HT2 := Aside0.mk (HT0.out.bound.below hb); obtain ⟨A1', c1, hV2, hle, hCV, hz0⟩ := HT2.out.vals HVS.out; have HV2 := Aside0.mk hV2; have HLE := Aside0.mk hle; have HCV := Aside0.mk hCV; have HRW := Aside0.mk hR; clear hC hR hb hb1 hV2 hle hCV)
    | (go_at_call 23; (with_reducible refine (slices_BinarySearch_int_int.calls k A1' c1 vs x (i : Int) _ _ (by exact HCV.out) HLE.out HEV.out).mono ?_); rintro e w3 ⟨rfl, ⟨nd, rfl⟩⟩)
    | (go_at_call 30; (with_reducible refine (HT2.out.delete_ HVS.out HV2.out HIL.out HL.out (by repeat (first | exact Below.refl _ _ | apply pw_below_drewN | apply below_drew1))).mono ?_); rintro e w4 ⟨rfl, hn4, hk4, ht4⟩; have N4 := Aside0.mk hn4; have SMON := Aside0.mk (show ∀ k, ((S k ∧ k < wo.heap.size) ∨ (w2.drewN nd).heap.size ≤ k) → (S k ∨ wo.heap.size ≤ k) from fun k hk => hk.elim (fun hk => .inl hk.1) (fun hk => .inr (Nat.le_trans B3.out.size hk))); have K4 := Aside0.mk ((Kept.of_below (below_step B3.out (pw_below_drewN (Below.refl _ _) nd)) S).then_ hk4 (fun k hk => .inl hk.1)); have T4 := Aside0.mk ht4; have PB4 := Aside0.mk (blk_kept PB3.out hk4 (fun hS => absurd hS.2 (by have := GP.out; omega))); have R4 := Aside0.mk (Kd.R_kept (Kd.R_below HRW.out (pw_below_drewN (Below.refl _ _) nd)) hk4 (fun k hk hS => absurd hS.2 (by have := B2.out.size; omega))); clear hn4 hk4 ht4)
    | ((with_reducible refine gate_ (.store 24 (.tmp 53) (.tmp 51)) rfl ?_); refine Hand.wpList_store_one rfl rfl 24 (.tmp 53) (.tmp 51) rfl (.slice A1' (vs.length - 1) c1) rfl rfl (N4.out _ _ _ HVS.out) rfl size24 (Nat.le_trans (by decide) (ncs_size _ _ _ _ _ _)) rfl (fun w6 hw6 => ?_); have T6 := Aside0.mk (show Tr w w6 _ tb _ _ _ c by rw [hw6]; exact T4.out); have K6 := Aside0.mk (show Kept wo w6 S by rw [hw6]; exact K4.out.setCell (p := ⟨B Bt (nk a Bt), 0, none⟩) (.inl (HT0.out.sb _ _ _ HVS.out).1) _); have PB6 := Aside0.mk (show w6.heap[gp]? = some (Obj.cells #[.int .u32 (a : Int), .int .i64 (Bt : Int)] 33 (0, 0)) by rw [hw6]; exact blk_far (p := ⟨B Bt (nk a Bt), 0, none⟩) PB4.out (blk_ne PB4.out (N4.out _ _ _ HVS.out) (ntyB _)) _); have R6 := Aside0.mk (show kP.R 25 w6 w1.heap.size (fun k => w1.heap.size ≤ k) (.slice (some ad) (Bt + 1) c0) (wayL B a Bt) by rw [hw6]; exact Kd.R_set R4.out (N4.out _ _ _ HVS.out) (fun q hq => by have h25 : q = 25 := (by simpa [kP, Kd.scalar] using hq); rw [h25]; exact ntyP _) 0 _); clear hw6 hz0 hx; have hcnt := T6.out.cnt)
    | ((with_reducible refine gate_ (.store 3 (.tmp 60) (.tmp 58)) rfl ?_); obtain ⟨cs, hcs1, hcs2, hcs3⟩ := T6.out.rootBlk; refine Hand.wpList_store_one rfl rfl 3 (.tmp 60) (.tmp 58) rfl (.int .i64 cc) rfl (by first | rfl | exact congrArg (Value.int .i64) hcs) hcs1 rfl size3 hcs2 rfl (fun w7 hw7 => ?_); have T7 := Aside0.mk (show Tr w w7 _ tb _ _ _ cc by rw [hw7]; exact T6.out.setCnt cc); have K7 := Aside0.mk (show Kept wo w7 S by rw [hw7]; exact K6.out.setCell (p := ⟨tb, 3, none⟩) HTB.out _); have PB7 := Aside0.mk (show w7.heap[gp]? = some (Obj.cells #[.int .u32 (a : Int), .int .i64 (Bt : Int)] 33 (0, 0)) by rw [hw7]; exact blk_far (p := ⟨tb, 3, none⟩) PB6.out (blk_ne PB6.out hcs1 (by decide)) _); clear z1; have z1 : w7.cell? ⟨gp, 1, none⟩ = some (.int .i64 (Bt : Int)) := (blk_cell PB7.out 1).trans rfl; have R7 := Aside0.mk (show kP.R 25 w7 w1.heap.size (fun k => w1.heap.size ≤ k) (.slice (some ad) (Bt + 1) c0) (wayL B a Bt) by rw [hw7]; exact Kd.R_set R6.out hcs1 (fun q hq => by have h25 : q = 25 := (by simpa [kP, Kd.scalar] using hq); rw [h25]; decide) 3 _); clear hw7 hcnt hcs1 hcs2 hcs3))
  clear hmem q1 q2 hw1 hcs PB PB2 PB3 PB4 PB6 R4 R6 T4 T6 N4 K4 K6 HT2
  have TG := Aside0.mk (show Tr w w7 (fun k => (S k ∧ k < wo.heap.size) ∨ (w2.drewN nd).heap.size ≤ k) tb (G l ⟨a, Bt, x⟩ Bt) B (upd2 V Bt (nk a Bt) (.slice A1' (vs.length - 1) c1)) cc by
    have h7 := T7.out
    rw [← HDEL.out] at h7
    rw [show G l ⟨a, Bt, x⟩ Bt = upd2 (X l) Bt (nk a Bt) (some (vs.filter (fun y => decide (y ≠ x)))) from by funext b n; rw [G_start l ⟨a, Bt, x⟩, HVV.out]; unfold upd2; split <;> first | rfl | (rename_i hh; obtain ⟨rfl, rfl⟩ := hh; rfl)]
    exact h7)
  clear T7
  go_loopg [11] Bt (fun kq v11 wl => ∃ (iq : Nat) (ji : Int) (V9 : Nat → Nat → Value), iq = kq ∧ iq ≤ Bt ∧ v11 = .int .i64 ji ∧ Aside0 (ji = (iq : Int)) ∧ Aside0 (Gone l ⟨a, Bt, x⟩ iq) ∧ Aside0 (Tr w wl (fun k => (S k ∧ k < wo.heap.size) ∨ (w2.drewN nd).heap.size ≤ k) tb (G l ⟨a, Bt, x⟩ iq) B V9 cc) ∧ Aside0 (wl.heap[gp]? = some (.cells #[.int .u32 (a : Int), .int .i64 (Bt : Int)] 33 (0, 0))) ∧ Aside0 (kP.R 25 wl w1.heap.size (fun k => w1.heap.size ≤ k) (.slice (some ad) (Bt + 1) c0) (wayL B a Bt)) ∧ Aside0 (Kept wo wl S))
  case atStart => exact ⟨Bt, (Bt : Int), _, rfl, Nat.le_refl _, rfl, ⟨rfl⟩, ⟨gone_start l ⟨a, Bt, x⟩⟩, TG, PB7, R7, K7⟩
  case round =>
    clear TG PB7 R7 K7 z1
    obtain ⟨iq, ji, V9, hi, hib, rfl, HJ, GN, TL, PL, RL, KL⟩ := hrel
    have HI := Aside0.mk hi
    have HIB := Aside0.mk hib
    clear hi hib
    cases iq with
    | zero =>
      have hcn : decide (0 < ji) = false := decide_eq_false (by have := HJ.out; omega)
      go_wp2
      go_ret
      refine ⟨V9, rfl, ?_, KL.out⟩
      have hd := G_done RTS.out RTE.out HE.out (i := 0) (by have := HIB.out; omega) GN.out (.inl rfl)
      have ht := TL.out.mono (T := fun k => S k ∨ wo.heap.size ≤ k) (fun k hk => SMON.out k hk)
      rw [show G l ⟨a, Bt, x⟩ 0 = X (del ⟨a, Bt, x⟩ l) from by funext b n; exact hd b n] at ht
      rw [HCC.out] at ht
      exact ht
    | succ m =>
      have hcn : decide (0 < ji) = true := decide_eq_true (by have := HJ.out; omega)
      have p : 0 ≤ ji := by have := HJ.out; omega
      have q : ji < (Bt : Int) + 1 := by have := HJ.out; have := HIB.out; omega
      obtain ⟨vi, hgv⟩ := G_at (i := m + 1) (j := m + 1) HE.out (Nat.le_refl _) HIB.out
      have GV0 := Aside0.mk hgv
      obtain ⟨A9, c9, hV9, hle9, hCV9, hz9⟩ := TL.out.vals hgv
      have hrow := row_at RL.out HIB.out
      have hrow2 : wr.cell? (ad.add ji.toNat) = some (.pointer (some ⟨B (m + 1) (nk a (m + 1)), 0, none⟩)) := by rw [HJ.out, Int.toNat_natCast]; exact hrow
      clear hgv hV9 hle9 hCV9
      have p := eq_true p
      have q := eq_true q
      cases vi with
      | cons y ys =>
        have hle0 : decide ((List.length (y :: ys) : Int) = 0) = false := decide_eq_false (by rw [List.length_cons]; omega)
        have hle1 : ((List.length (y :: ys) : Int) == 0) = false := beq_eq_false_iff_ne.2 (by rw [List.length_cons]; omega)
        go_wp2
        go_ret
        refine ⟨V9, rfl, ?_, KL.out⟩
        have hd := G_done RTS.out RTE.out HE.out (i := (m + 1)) (by have := HIB.out; omega) GN.out (.inr (.inl ⟨y, ys, GV0.out⟩))
        have ht := TL.out.mono (T := fun k => S k ∨ wo.heap.size ≤ k) (fun k hk => SMON.out k hk)
        rw [show G l ⟨a, Bt, x⟩ (m + 1) = X (del ⟨a, Bt, x⟩ l) from by funext b n; exact hd b n] at ht
        rw [HCC.out] at ht
        exact ht
      | nil =>
        have hle0 : decide ((List.length ([] : List Int) : Int) = 0) = true := rfl
        have hle1 : ((List.length ([] : List Int) : Int) == 0) = true := rfl
        have hc1 := TL.out.c1 GV0.out
        have hc2 := TL.out.c2 GV0.out
        cases hk0 : G l ⟨a, Bt, x⟩ (m + 1) (m + 1 + 1) (2 * nk a (m + 1)) with
        | some v0 =>
          rw [TL.out.kidS hk0] at hc1
          have K0 := Aside0.mk hk0
          clear hk0
          obtain ⟨y2, hy2⟩ : ∃ y2, kid (G l ⟨a, Bt, x⟩ (m + 1)) B (m + 1 + 1) (2 * nk a (m + 1) + 1) = .pointer y2 := ⟨_, rfl⟩
          rw [hy2] at hc2
          clear hy2
          go_wp2
          go_ret
          refine ⟨V9, rfl, ?_, KL.out⟩
          have hd := G_done RTS.out RTE.out HE.out (i := (m + 1)) (by have := HIB.out; omega) GN.out (.inr (.inr ⟨2 * nk a (m + 1), by show 2 * nk a (m + 1) / 2 = nk a (m + 1); omega, by rw [K0.out]; exact fun e => by cases e⟩))
          have ht := TL.out.mono (T := fun k => S k ∨ wo.heap.size ≤ k) (fun k hk => SMON.out k hk)
          rw [show G l ⟨a, Bt, x⟩ (m + 1) = X (del ⟨a, Bt, x⟩ l) from by funext b n; exact hd b n] at ht
          rw [HCC.out] at ht
          exact ht
        | none =>
          rw [TL.out.kidN hk0] at hc1
          have K0 := Aside0.mk hk0
          clear hk0
          cases hk1 : G l ⟨a, Bt, x⟩ (m + 1) (m + 1 + 1) (2 * nk a (m + 1) + 1) with
          | some v0 =>
            rw [TL.out.kidS hk1] at hc2
            have K1 := Aside0.mk hk1
            clear hk1
            go_wp2
            go_ret
            refine ⟨V9, rfl, ?_, KL.out⟩
            have hd := G_done RTS.out RTE.out HE.out (i := (m + 1)) (by have := HIB.out; omega) GN.out (.inr (.inr ⟨2 * nk a (m + 1) + 1, by show (2 * nk a (m + 1) + 1) / 2 = nk a (m + 1); omega, by rw [K1.out]; exact fun e => by cases e⟩))
            have ht := TL.out.mono (T := fun k => S k ∨ wo.heap.size ≤ k) (fun k hk => SMON.out k hk)
            rw [show G l ⟨a, Bt, x⟩ (m + 1) = X (del ⟨a, Bt, x⟩ l) from by funext b n; exact hd b n] at ht
            rw [HCC.out] at ht
            exact ht
          | none =>
            rw [TL.out.kidN hk1] at hc2
            have K1 := Aside0.mk hk1
            clear hk1
            go_wp2
            obtain ⟨mi, hmi⟩ : ∃ mi : Int, mi = (m : Int) := ⟨_, rfl⟩
            have HMI := Aside0.mk hmi
            have hw1 : wrap64 (ji - 1) = mi := by have := HJ.out; have := HIB.out; have := A2.out; rw [wrap64_id _ (by omega) (by omega)]; omega
            have hw2 : IntKind.i64.wrap (ji - 1) = mi := (i64_w _).trans hw1
            have p2 : 0 ≤ mi := by omega
            have q2 : mi < (Bt : Int) + 1 := by have := HIB.out; omega
            have p2 := eq_true p2
            have q2 := eq_true q2
            obtain ⟨vm, hgm⟩ := G_at (i := m + 1) (j := m) HE.out (Nat.le_succ m) HIB.out
            have FM := Aside0.mk hgm
            have hbit := bit_f A1.out (show m < 32 by have := HIB.out; have := A2.out; omega)
            rw [← hmi] at hbit
            have hbc := bit_cases a m (by have := HIB.out; have := A2.out; omega)
            clear hgm hmi hc1 hc2 hz9 hrow hrow2 p q hle0 hle1 hcn
            rcases hbc with ⟨hnk, hm⟩ | ⟨hnk, hm⟩
            · rw [hm] at hbit
              have HNK := Aside0.mk hnk
              have HBIT := Aside0.mk hbit
              clear hnk hm hbit
              have TD := Aside0.mk (TL.out.below (below_drew1 (Below.refl _ _)))
              have PD := Aside0.mk (blk_drew PL.out)
              have RD := Aside0.mk (Kd.R_below RL.out (below_drew1 (Below.refl _ _)))
              have KD := Aside0.mk (KL.out.below (below_drew1 (Below.refl _ _)))
              go_wp2
              clear TL PL RL KL
              have hq1 : wr.drew.cell? ⟨gp, 0, none⟩ = some (.int .u32 (a : Int)) := (blk_cell PD.out 0).trans rfl
              have hq2 : wr.drew.cell? (ad.add mi.toNat) = some (.pointer (some ⟨B m (nk a m), 0, none⟩)) := (by rw [HMI.out, Int.toNat_natCast]; exact row_at RD.out (by have := HIB.out; omega))
              refine start_ (n := 14) (S := fun w' => w'.cell? ⟨gp, 0, none⟩ = some (.int .u32 (a : Int)) ∧ w'.cell? (ad.add mi.toNat) = some (.pointer (some ⟨B m (nk a m), 0, none⟩))) (ds := []) #[false, false, false, false, false, false, false, false, false, false, false, false, false, false] (by kernel_rfl) rfl rfl ⟨hq1, hq2⟩ (fun hHeld => ?_)
              refine with_tabW drop_.tab17 drop_.bits17 (fun HT_ HW_ => ?_)
              clear hq1 hq2
              generalize wr.drew = wd at TD PD RD KD hHeld ⊢
              refine pure_ (i := 0) (N := some 89) (v := ?_) (a' := ?_) #[true, false, false, false, false, false, false, false, false, false, false, false, false, false] rfl rfl (any_of HT_.out (by kernel_rfl)) (fun _ _ _ h => h) (Or.inl ⟨by rfl, ?_⟩) ?_ ?_
              rotate_left
              · intro w'
                go_simp
                with_reducible rfl
              rotate_left
              · simp only [Act.put, List.setIfInBounds_toArray, List.set_cons_zero, List.set_cons_succ, i64_w, i32_w]
                rfl
              refine pure_ (i := 1) (N := some 90) (v := ?_) (a' := ?_) #[true, true, false, false, false, false, false, false, false, false, false, false, false, false] rfl rfl (any_of HT_.out (by kernel_rfl)) (fun _ _ _ h => h) (Or.inl ⟨by rfl, ?_⟩) ?_ ?_
              rotate_left
              · intro w'
                go_simp
                with_reducible rfl
              rotate_left
              · simp only [Act.put, List.setIfInBounds_toArray, List.set_cons_zero, List.set_cons_succ, i64_w, i32_w]
                rfl
              refine pure_ (i := 2) (N := some 91) (v := ?_) (a' := ?_) #[true, true, true, false, false, false, false, false, false, false, false, false, false, false] rfl rfl (any_of HT_.out (by kernel_rfl)) (fun _ _ _ h => h) (Or.inl ⟨by rfl, ?_⟩) ?_ ?_
              rotate_left
              · intro w'
                go_simp
                with_reducible rfl
              rotate_left
              · simp only [Act.put, List.setIfInBounds_toArray, List.set_cons_zero, List.set_cons_succ, i64_w, i32_w]
                rfl
              refine pure_ (i := 3) (N := some 92) (v := ?_) (a' := ?_) #[true, true, true, true, false, false, false, false, false, false, false, false, false, false] rfl rfl (any_of HT_.out (by kernel_rfl)) (fun _ _ _ h => h) (Or.inl ⟨by rfl, ?_⟩) ?_ ?_
              rotate_left
              · intro w'
                go_simp
                with_reducible rfl
              rotate_left
              · simp only [Act.put, List.setIfInBounds_toArray, List.set_cons_zero, List.set_cons_succ, i64_w, i32_w]
                rfl
              refine pure_ (i := 5) (N := some 94) (v := ?_) (a' := ?_) #[true, true, true, true, false, true, false, false, false, false, false, false, false, false] rfl rfl (any_of HT_.out (by kernel_rfl)) (fun _ _ _ h => h) (Or.inl ⟨by rfl, ?_⟩) ?_ ?_
              rotate_left
              · intro w'
                go_simp
                with_reducible rfl
              rotate_left
              · simp only [Act.put, List.setIfInBounds_toArray, List.set_cons_zero, List.set_cons_succ, i64_w, i32_w]
                rfl
              refine pure_ (i := 7) (N := some 96) (v := ?_) (a' := ?_) #[true, true, true, true, false, true, false, true, false, false, false, false, false, false] rfl rfl (any_of HT_.out (by kernel_rfl)) (fun _ _ _ h => h) (Or.inl ⟨by rfl, ?_⟩) ?_ ?_
              rotate_left
              · intro w'
                go_simp
                with_reducible rfl
              rotate_left
              · simp only [Act.put, List.setIfInBounds_toArray, List.set_cons_zero, List.set_cons_succ, i64_w, i32_w]
                rfl
              refine pure_ (i := 8) (N := some 97) (v := ?_) (a' := ?_) #[true, true, true, true, false, true, false, true, true, false, false, false, false, false] rfl rfl (any_of HT_.out (by kernel_rfl)) (fun _ _ _ h => h) (Or.inl ⟨by rfl, ?_⟩) ?_ ?_
              rotate_left
              · intro w'
                go_simp
                with_reducible rfl
              rotate_left
              · simp only [Act.put, List.setIfInBounds_toArray, List.set_cons_zero, List.set_cons_succ, i64_w, i32_w]
                rfl
              refine take_ (i := 4) (N := some 93) (v := ?_) (a' := ?_) #[true, true, true, true, true, true, false, true, true, false, false, false, false, false] rfl rfl (take_ofW HT_.out HW_.out (by kernel_rfl)) (fun _ _ _ h => h) (Or.inl ⟨by rfl, ?_⟩) hHeld ?_ ?_
              rotate_left
              · rintro w' ⟨s0, s1⟩
                go_simp
                with_reducible rfl
              rotate_left
              · simp only [Act.put, List.setIfInBounds_toArray, List.set_cons_zero, List.set_cons_succ, i64_w, i32_w]
                rfl
              refine pure_ (i := 10) (N := some 99) (v := ?_) (a' := ?_) #[true, true, true, true, true, true, false, true, true, false, true, false, false, false] rfl rfl (any_of HT_.out (by kernel_rfl)) (fun _ _ _ h => h) (Or.inl ⟨by rfl, ?_⟩) ?_ ?_
              rotate_left
              · intro w'
                go_simp
                with_reducible rfl
              rotate_left
              · simp only [Act.put, List.setIfInBounds_toArray, List.set_cons_zero, List.set_cons_succ, i64_w, i32_w]
                rfl
              refine pure_ (i := 11) (N := some 100) (v := ?_) (a' := ?_) #[true, true, true, true, true, true, false, true, true, false, true, true, false, false] rfl rfl (any_of HT_.out (by kernel_rfl)) (fun _ _ _ h => h) (Or.inl ⟨by rfl, ?_⟩) ?_ ?_
              rotate_left
              · intro w'
                go_simp
                with_reducible rfl
              rotate_left
              · simp only [Act.put, List.setIfInBounds_toArray, List.set_cons_zero, List.set_cons_succ, i64_w, i32_w]
                rfl
              refine take_ (i := 6) (N := some 95) (v := ?_) (a' := ?_) #[true, true, true, true, true, true, true, true, true, false, true, true, false, false] rfl rfl (take_ofW HT_.out HW_.out (by kernel_rfl)) (fun _ _ _ h => h) (Or.inl ⟨by rfl, ?_⟩) hHeld ?_ ?_
              rotate_left
              · rintro w' ⟨s0, s1⟩
                go_simp
                with_reducible rfl
              rotate_left
              · simp only [Act.put, List.setIfInBounds_toArray, List.set_cons_zero, List.set_cons_succ, i64_w, i32_w]
                rfl
              refine one_ (i := 9) (N := some 98) #[true, true, true, true, true, true, true, true, true, true, true, true, false, false] rfl rfl (one_of HT_.out (by kernel_rfl)) (by decide) (fun K hK => ?_)
              refine goes_ Try.func31 (by kernel_rfl) rfl #[.int .u32 (a : Int), .int .i64 mi] (by rfl) rfl rfl (by (try simp only [List.map_toArray, List.map_cons, List.map_nil]); first | done | rfl) ?_
              with_reducible refine (trie_bit.calls _ _ _ _ HBIT.out).mono ?_
              rintro e wz ⟨rfl, hz⟩
              refine ⟨_, rfl, ?_⟩
              have DZ := Aside0.mk hz.below
              clear hz
              have TZ := Aside0.mk (TD.out.below DZ.out)
              have PZ := Aside0.mk (blk_below PD.out DZ.out)
              have RZ := Aside0.mk (Kd.R_below RD.out DZ.out)
              have KZ := Aside0.mk (KD.out.below DZ.out)
              have hr1 : wz.cell? ⟨gp, 0, none⟩ = some (.int .u32 (a : Int)) := (blk_cell PZ.out 0).trans rfl
              have hr2 : wz.cell? (ad.add mi.toNat) = some (.pointer (some ⟨B m (nk a m), 0, none⟩)) := (by rw [HMI.out, Int.toNat_natCast]; exact row_at RZ.out (by have := HIB.out; omega))
              refine hK.out _ _ ⟨hr1, hr2⟩ (fun hHeld => ?_)
              clear hK K
              refine norm_ (a' := ?_) ?_ ?_
              rotate_left
              · show Act.put _ (some 98) _ = _
                simp only [Act.put, List.setIfInBounds_toArray, List.set_cons_zero, List.set_cons_succ, i64_w, i32_w]
                rfl
              refine pure_ (i := 12) (N := some 101) (v := ?_) (a' := ?_) #[true, true, true, true, true, true, true, true, true, true, true, true, true, false] rfl rfl (any_of HT_.out (by kernel_rfl)) (fun _ _ _ h => h) (Or.inl ⟨by rfl, ?_⟩) ?_ ?_
              rotate_left
              · intro w'
                go_simp
                with_reducible rfl
              rotate_left
              · simp only [Act.put, List.setIfInBounds_toArray, List.set_cons_zero, List.set_cons_succ, i64_w, i32_w]
                rfl
              refine one_ (i := 13) (N := none) #[true, true, true, true, true, true, true, true, true, true, true, true, true, true] rfl rfl (one_of HT_.out (by kernel_rfl)) (by decide) (fun K hK => ?_)
              refine Hand.store_one (by rfl) rfl 25 (.tmp 101) (.const (.pointer none)) rfl (.pointer none) rfl rfl (TZ.out.nod _ _ _ FM.out) rfl size25 (Nat.le_trans (by decide) (ncs_size _ _ _ _ _ _)) rfl (fun w9 hw9 => ?_)
              have T9 := Aside0.mk (show Tr w w9 _ tb (upd2 (G l ⟨a, Bt, x⟩ (m + 1)) (m + 1) (2 * nk a m + 0) none) B V9 cc by rw [hw9]; exact TZ.out.cut (i := 0) (by decide) FM.out (by rw [← HNK.out]; exact K0.out) (by rw [← HNK.out]; exact K1.out))
              have P9 := Aside0.mk (show w9.heap[gp]? = some (.cells #[.int .u32 (a : Int), .int .i64 (Bt : Int)] 33 (0, 0)) by rw [hw9]; exact blk_far (p := ⟨B m (nk a m), 1 + 0, none⟩) PZ.out (blk_ne PZ.out (TZ.out.nod _ _ _ FM.out) (ntyB _)) _)
              have R9 := Aside0.mk (show kP.R 25 w9 w1.heap.size (fun k => w1.heap.size ≤ k) (.slice (some ad) (Bt + 1) c0) (wayL B a Bt) by rw [hw9]; exact Kd.R_set RZ.out (TZ.out.nod _ _ _ FM.out) (fun q hq => by have h25 : q = 25 := (by simpa [kP, Kd.scalar] using hq); rw [h25]; exact ntyP _) (1 + 0) _)
              have K9 := Aside0.mk (show Kept wo w9 S by rw [hw9]; exact KZ.out.setCell (p := ⟨B m (nk a m), 1 + 0, none⟩) (.inl (HT0.out.sb _ _ _ (X_get (X_way HE.out (show m ≤ Bt by have := HIB.out; omega)))).1) _)
              have hs1 : w9.cell? ⟨gp, 0, none⟩ = some (.int .u32 (a : Int)) := (blk_cell P9.out 0).trans rfl
              have hs2 : w9.cell? (ad.add mi.toNat) = some (.pointer (some ⟨B m (nk a m), 0, none⟩)) := (by rw [HMI.out, Int.toNat_natCast]; exact row_at R9.out (by have := HIB.out; omega))
              clear hw9
              refine hK.out _ _ ⟨hs1, hs2⟩ (fun hHeld => ?_)
              clear hK K
              refine done_ (done_of HT_.out (by kernel_rfl)) ?_
              go_wp2
              go_roundg m
              case measure => have := HI.out; omega
              case rel => exact ⟨m, mi, V9, rfl, by have := HIB.out; omega, by first | rfl | rw [hw1], HMI, ⟨gone_step RTS.out RTE.out HE.out HIB.out GN.out GV0.out K0.out K1.out⟩, ⟨by
                have h9 := T9.out
                rw [← HNK.out] at h9
                rw [show G l ⟨a, Bt, x⟩ m = upd2 (G l ⟨a, Bt, x⟩ (m + 1)) (m + 1) (nk a (m + 1)) none from by funext b n; rw [G_step (e := ⟨a, Bt, x⟩) HIB.out]; rfl]
                exact h9⟩, P9, R9, K9⟩
            · rw [hm] at hbit
              have HNK := Aside0.mk hnk
              have HBIT := Aside0.mk hbit
              clear hnk hm hbit
              have TD := Aside0.mk (TL.out.below (below_drew1 (Below.refl _ _)))
              have PD := Aside0.mk (blk_drew PL.out)
              have RD := Aside0.mk (Kd.R_below RL.out (below_drew1 (Below.refl _ _)))
              have KD := Aside0.mk (KL.out.below (below_drew1 (Below.refl _ _)))
              go_wp2
              clear TL PL RL KL
              have hq1 : wr.drew.cell? ⟨gp, 0, none⟩ = some (.int .u32 (a : Int)) := (blk_cell PD.out 0).trans rfl
              have hq2 : wr.drew.cell? (ad.add mi.toNat) = some (.pointer (some ⟨B m (nk a m), 0, none⟩)) := (by rw [HMI.out, Int.toNat_natCast]; exact row_at RD.out (by have := HIB.out; omega))
              refine start_ (n := 14) (S := fun w' => w'.cell? ⟨gp, 0, none⟩ = some (.int .u32 (a : Int)) ∧ w'.cell? (ad.add mi.toNat) = some (.pointer (some ⟨B m (nk a m), 0, none⟩))) (ds := []) #[false, false, false, false, false, false, false, false, false, false, false, false, false, false] (by kernel_rfl) rfl rfl ⟨hq1, hq2⟩ (fun hHeld => ?_)
              refine with_tabW drop_.tab17 drop_.bits17 (fun HT_ HW_ => ?_)
              clear hq1 hq2
              generalize wr.drew = wd at TD PD RD KD hHeld ⊢
              refine pure_ (i := 0) (N := some 89) (v := ?_) (a' := ?_) #[true, false, false, false, false, false, false, false, false, false, false, false, false, false] rfl rfl (any_of HT_.out (by kernel_rfl)) (fun _ _ _ h => h) (Or.inl ⟨by rfl, ?_⟩) ?_ ?_
              rotate_left
              · intro w'
                go_simp
                with_reducible rfl
              rotate_left
              · simp only [Act.put, List.setIfInBounds_toArray, List.set_cons_zero, List.set_cons_succ, i64_w, i32_w]
                rfl
              refine pure_ (i := 1) (N := some 90) (v := ?_) (a' := ?_) #[true, true, false, false, false, false, false, false, false, false, false, false, false, false] rfl rfl (any_of HT_.out (by kernel_rfl)) (fun _ _ _ h => h) (Or.inl ⟨by rfl, ?_⟩) ?_ ?_
              rotate_left
              · intro w'
                go_simp
                with_reducible rfl
              rotate_left
              · simp only [Act.put, List.setIfInBounds_toArray, List.set_cons_zero, List.set_cons_succ, i64_w, i32_w]
                rfl
              refine pure_ (i := 2) (N := some 91) (v := ?_) (a' := ?_) #[true, true, true, false, false, false, false, false, false, false, false, false, false, false] rfl rfl (any_of HT_.out (by kernel_rfl)) (fun _ _ _ h => h) (Or.inl ⟨by rfl, ?_⟩) ?_ ?_
              rotate_left
              · intro w'
                go_simp
                with_reducible rfl
              rotate_left
              · simp only [Act.put, List.setIfInBounds_toArray, List.set_cons_zero, List.set_cons_succ, i64_w, i32_w]
                rfl
              refine pure_ (i := 3) (N := some 92) (v := ?_) (a' := ?_) #[true, true, true, true, false, false, false, false, false, false, false, false, false, false] rfl rfl (any_of HT_.out (by kernel_rfl)) (fun _ _ _ h => h) (Or.inl ⟨by rfl, ?_⟩) ?_ ?_
              rotate_left
              · intro w'
                go_simp
                with_reducible rfl
              rotate_left
              · simp only [Act.put, List.setIfInBounds_toArray, List.set_cons_zero, List.set_cons_succ, i64_w, i32_w]
                rfl
              refine pure_ (i := 5) (N := some 94) (v := ?_) (a' := ?_) #[true, true, true, true, false, true, false, false, false, false, false, false, false, false] rfl rfl (any_of HT_.out (by kernel_rfl)) (fun _ _ _ h => h) (Or.inl ⟨by rfl, ?_⟩) ?_ ?_
              rotate_left
              · intro w'
                go_simp
                with_reducible rfl
              rotate_left
              · simp only [Act.put, List.setIfInBounds_toArray, List.set_cons_zero, List.set_cons_succ, i64_w, i32_w]
                rfl
              refine pure_ (i := 7) (N := some 96) (v := ?_) (a' := ?_) #[true, true, true, true, false, true, false, true, false, false, false, false, false, false] rfl rfl (any_of HT_.out (by kernel_rfl)) (fun _ _ _ h => h) (Or.inl ⟨by rfl, ?_⟩) ?_ ?_
              rotate_left
              · intro w'
                go_simp
                with_reducible rfl
              rotate_left
              · simp only [Act.put, List.setIfInBounds_toArray, List.set_cons_zero, List.set_cons_succ, i64_w, i32_w]
                rfl
              refine pure_ (i := 8) (N := some 97) (v := ?_) (a' := ?_) #[true, true, true, true, false, true, false, true, true, false, false, false, false, false] rfl rfl (any_of HT_.out (by kernel_rfl)) (fun _ _ _ h => h) (Or.inl ⟨by rfl, ?_⟩) ?_ ?_
              rotate_left
              · intro w'
                go_simp
                with_reducible rfl
              rotate_left
              · simp only [Act.put, List.setIfInBounds_toArray, List.set_cons_zero, List.set_cons_succ, i64_w, i32_w]
                rfl
              refine take_ (i := 4) (N := some 93) (v := ?_) (a' := ?_) #[true, true, true, true, true, true, false, true, true, false, false, false, false, false] rfl rfl (take_ofW HT_.out HW_.out (by kernel_rfl)) (fun _ _ _ h => h) (Or.inl ⟨by rfl, ?_⟩) hHeld ?_ ?_
              rotate_left
              · rintro w' ⟨s0, s1⟩
                go_simp
                with_reducible rfl
              rotate_left
              · simp only [Act.put, List.setIfInBounds_toArray, List.set_cons_zero, List.set_cons_succ, i64_w, i32_w]
                rfl
              refine pure_ (i := 10) (N := some 99) (v := ?_) (a' := ?_) #[true, true, true, true, true, true, false, true, true, false, true, false, false, false] rfl rfl (any_of HT_.out (by kernel_rfl)) (fun _ _ _ h => h) (Or.inl ⟨by rfl, ?_⟩) ?_ ?_
              rotate_left
              · intro w'
                go_simp
                with_reducible rfl
              rotate_left
              · simp only [Act.put, List.setIfInBounds_toArray, List.set_cons_zero, List.set_cons_succ, i64_w, i32_w]
                rfl
              refine pure_ (i := 11) (N := some 100) (v := ?_) (a' := ?_) #[true, true, true, true, true, true, false, true, true, false, true, true, false, false] rfl rfl (any_of HT_.out (by kernel_rfl)) (fun _ _ _ h => h) (Or.inl ⟨by rfl, ?_⟩) ?_ ?_
              rotate_left
              · intro w'
                go_simp
                with_reducible rfl
              rotate_left
              · simp only [Act.put, List.setIfInBounds_toArray, List.set_cons_zero, List.set_cons_succ, i64_w, i32_w]
                rfl
              refine take_ (i := 6) (N := some 95) (v := ?_) (a' := ?_) #[true, true, true, true, true, true, true, true, true, false, true, true, false, false] rfl rfl (take_ofW HT_.out HW_.out (by kernel_rfl)) (fun _ _ _ h => h) (Or.inl ⟨by rfl, ?_⟩) hHeld ?_ ?_
              rotate_left
              · rintro w' ⟨s0, s1⟩
                go_simp
                with_reducible rfl
              rotate_left
              · simp only [Act.put, List.setIfInBounds_toArray, List.set_cons_zero, List.set_cons_succ, i64_w, i32_w]
                rfl
              refine one_ (i := 9) (N := some 98) #[true, true, true, true, true, true, true, true, true, true, true, true, false, false] rfl rfl (one_of HT_.out (by kernel_rfl)) (by decide) (fun K hK => ?_)
              refine goes_ Try.func31 (by kernel_rfl) rfl #[.int .u32 (a : Int), .int .i64 mi] (by rfl) rfl rfl (by (try simp only [List.map_toArray, List.map_cons, List.map_nil]); first | done | rfl) ?_
              with_reducible refine (trie_bit.calls _ _ _ _ HBIT.out).mono ?_
              rintro e wz ⟨rfl, hz⟩
              refine ⟨_, rfl, ?_⟩
              have DZ := Aside0.mk hz.below
              clear hz
              have TZ := Aside0.mk (TD.out.below DZ.out)
              have PZ := Aside0.mk (blk_below PD.out DZ.out)
              have RZ := Aside0.mk (Kd.R_below RD.out DZ.out)
              have KZ := Aside0.mk (KD.out.below DZ.out)
              have hr1 : wz.cell? ⟨gp, 0, none⟩ = some (.int .u32 (a : Int)) := (blk_cell PZ.out 0).trans rfl
              have hr2 : wz.cell? (ad.add mi.toNat) = some (.pointer (some ⟨B m (nk a m), 0, none⟩)) := (by rw [HMI.out, Int.toNat_natCast]; exact row_at RZ.out (by have := HIB.out; omega))
              refine hK.out _ _ ⟨hr1, hr2⟩ (fun hHeld => ?_)
              clear hK K
              refine norm_ (a' := ?_) ?_ ?_
              rotate_left
              · show Act.put _ (some 98) _ = _
                simp only [Act.put, List.setIfInBounds_toArray, List.set_cons_zero, List.set_cons_succ, i64_w, i32_w]
                rfl
              refine pure_ (i := 12) (N := some 101) (v := ?_) (a' := ?_) #[true, true, true, true, true, true, true, true, true, true, true, true, true, false] rfl rfl (any_of HT_.out (by kernel_rfl)) (fun _ _ _ h => h) (Or.inl ⟨by rfl, ?_⟩) ?_ ?_
              rotate_left
              · intro w'
                go_simp
                with_reducible rfl
              rotate_left
              · simp only [Act.put, List.setIfInBounds_toArray, List.set_cons_zero, List.set_cons_succ, i64_w, i32_w]
                rfl
              refine one_ (i := 13) (N := none) #[true, true, true, true, true, true, true, true, true, true, true, true, true, true] rfl rfl (one_of HT_.out (by kernel_rfl)) (by decide) (fun K hK => ?_)
              refine Hand.store_one (by rfl) rfl 25 (.tmp 101) (.const (.pointer none)) rfl (.pointer none) rfl rfl (TZ.out.nod _ _ _ FM.out) rfl size25 (Nat.le_trans (by decide) (ncs_size _ _ _ _ _ _)) rfl (fun w9 hw9 => ?_)
              have T9 := Aside0.mk (show Tr w w9 _ tb (upd2 (G l ⟨a, Bt, x⟩ (m + 1)) (m + 1) (2 * nk a m + 1) none) B V9 cc by rw [hw9]; exact TZ.out.cut (i := 1) (by decide) FM.out (by rw [← HNK.out]; exact K0.out) (by rw [← HNK.out]; exact K1.out))
              have P9 := Aside0.mk (show w9.heap[gp]? = some (.cells #[.int .u32 (a : Int), .int .i64 (Bt : Int)] 33 (0, 0)) by rw [hw9]; exact blk_far (p := ⟨B m (nk a m), 1 + 1, none⟩) PZ.out (blk_ne PZ.out (TZ.out.nod _ _ _ FM.out) (ntyB _)) _)
              have R9 := Aside0.mk (show kP.R 25 w9 w1.heap.size (fun k => w1.heap.size ≤ k) (.slice (some ad) (Bt + 1) c0) (wayL B a Bt) by rw [hw9]; exact Kd.R_set RZ.out (TZ.out.nod _ _ _ FM.out) (fun q hq => by have h25 : q = 25 := (by simpa [kP, Kd.scalar] using hq); rw [h25]; exact ntyP _) (1 + 1) _)
              have K9 := Aside0.mk (show Kept wo w9 S by rw [hw9]; exact KZ.out.setCell (p := ⟨B m (nk a m), 1 + 1, none⟩) (.inl (HT0.out.sb _ _ _ (X_get (X_way HE.out (show m ≤ Bt by have := HIB.out; omega)))).1) _)
              have hs1 : w9.cell? ⟨gp, 0, none⟩ = some (.int .u32 (a : Int)) := (blk_cell P9.out 0).trans rfl
              have hs2 : w9.cell? (ad.add mi.toNat) = some (.pointer (some ⟨B m (nk a m), 0, none⟩)) := (by rw [HMI.out, Int.toNat_natCast]; exact row_at R9.out (by have := HIB.out; omega))
              clear hw9
              refine hK.out _ _ ⟨hs1, hs2⟩ (fun hHeld => ?_)
              clear hK K
              refine done_ (done_of HT_.out (by kernel_rfl)) ?_
              go_wp2
              go_roundg m
              case measure => have := HI.out; omega
              case rel => exact ⟨m, mi, V9, rfl, by have := HIB.out; omega, by first | rfl | rw [hw1], HMI, ⟨gone_step RTS.out RTE.out HE.out HIB.out GN.out GV0.out K0.out K1.out⟩, ⟨by
                have h9 := T9.out
                rw [← HNK.out] at h9
                rw [show G l ⟨a, Bt, x⟩ m = upd2 (G l ⟨a, Bt, x⟩ (m + 1)) (m + 1) (nk a (m + 1)) none from by funext b n; rw [G_step (e := ⟨a, Bt, x⟩) HIB.out]; rfl]
                exact h9⟩, P9, R9, K9⟩


open Go.Proofs.Ytbmibakhpealjaa.TrieP Go.Proofs.Ytbmibakhpealjaa.Facts Go.Proofs.Ytbmibakhpealjaa.Bits
/-! ### Drop, by lists -/
def delL (l : List En) (a : Nat) (b x : Int) : Int × List En := if rightB a b = true then (if (⟨a, b.toNat, x⟩ : En) ∈ l then (0, del ⟨a, b.toNat, x⟩ l) else (3, l)) else (13, l)
theorem delL_len (l : List En) (a : Nat) (b x : Int) : (delL l a b x).2.length ≤ l.length := by
  unfold delL
  split
  · split
    · exact List.length_filter_le _ _
    · exact Nat.le_refl _
  · exact Nat.le_refl _
theorem drop_.calls {w wo : World} {S : Nat → Prop} {tb : Nat} {l : List En} (h : TrL w wo S tb l) (hl : l.length ≤ 1000) (a : Nat) (ha : a < 4294967296) (b x : Int) :
    Calls Try.prog 14 #[.pointer (some ⟨tb, 0, none⟩), .agg #[.int .u32 (a : Int), .int .i64 b], .int .i64 x] wo fun e w' => e = .returned (.int .i64 (delL l a b x).1) ∧ TrL w w' (fun k => S k ∨ wo.heap.size ≤ k) tb (delL l a b x).2 ∧ Kept wo w' S := by
  unfold delL
  cases hrb : rightB a b with
  | false =>
    refine (drop_bad a b x ha hrb wo tb).mono ?_
    rintro e w' ⟨rfl, hb⟩
    rw [if_neg (by decide)]
    exact ⟨rfl, (h.below hb).mono (fun _ hk => .inl hk), Kept.of_below hb S⟩
  | true =>
    obtain ⟨n, rfl, hn, hz⟩ := right_rt hrb
    have h' := h
    obtain ⟨⟨B, V, ht⟩, hs, hr⟩ := h
    have he : rt ⟨a, n, x⟩ := ⟨hn, ha, hz⟩
    rw [if_pos rfl, Int.toNat_natCast]
    by_cases hx : (⟨a, n, x⟩ : En) ∈ l
    · rw [if_pos hx]
      refine (drop_found a n x ha hn hz w wo S tb l B V _ ht hs hr hl hx (by omega) (by omega)).mono ?_
      rintro e w' ⟨V2, rfl, h2, hk⟩
      refine ⟨rfl, ⟨⟨B, V2, ?_⟩, del_srt hs, fun y hy => hr y (mem_del.1 hy).1⟩, hk⟩
      have := del_len hs hx
      rw [show ((del ⟨a, n, x⟩ l).length : Int) = (l.length : Int) - 1 by omega]
      exact h2
    · rw [if_neg hx]
      have hmem := mem_vals hr he
      cases hf : X l n (nk a n) with
      | none =>
        refine (drop_none1 a n x ha hn hz w wo S tb (X l) B V _ ht hf).mono ?_
        rintro e w' ⟨rfl, hb⟩
        exact ⟨rfl, (h'.below hb).mono (fun _ hk => .inl hk), Kept.of_below hb S⟩
      | some vs =>
        have hv := X_some hf
        refine (drop_none2 a n x ha hn hz w wo S tb (X l) B V _ ht vs hf (by rw [hv]; exact vals_srt hs hr n (nk a n)) (X_len hl _ _ _ hf) (by rw [hv]; exact fun hk => hx (hmem.1 hk))).mono ?_
        rintro e w' ⟨rfl, hb⟩
        exact ⟨rfl, (h'.below hb).mono (fun _ hk => .inl hk), Kept.of_below hb S⟩
/-- Drop, with the numbers as letters, at a later world. -/
theorem drop_at {w wo w1 : World} {S : Nat → Prop} {tb : Nat} {l : List En} (h : TrL w wo S tb l) (hb1 : Below wo.heap.size wo w1) (hl : l.length ≤ 1000) {a : Nat} {xa : Int} (ha : a < 4294967296) (hxa : xa = (a : Int)) (b x : Int) :
    Calls Try.prog 14 #[.pointer (some ⟨tb, 0, none⟩), .agg #[.int .u32 xa, .int .i64 b], .int .i64 x] w1 fun e w' => e = .returned (.int .i64 (delL l a b x).1) ∧ TrL w w' (fun k => S k ∨ wo.heap.size ≤ k) tb (delL l a b x).2 ∧ Kept wo w' S := by
  subst hxa
  refine (drop_.calls (h.below hb1) hl a ha b x).mono ?_
  rintro e w' ⟨rfl, h2, hk⟩
  exact ⟨rfl, h2.mono (fun k hk => hk.imp id (fun hk => Nat.le_trans hb1.size hk)), (Kept.of_below hb1 S).then_ hk (fun k hk => .inl hk)⟩


open Go.Proofs.Ytbmibakhpealjaa.TrieP Go.Proofs.Ytbmibakhpealjaa.Facts Go.Proofs.Ytbmibakhpealjaa.Bits
/-- A row of pointers, kept where rows of entries are written. -/
theorem R_far {w w1 : World} {base : Nat} {ok : Nat → Prop} {v : Value} {xs : List Nat} (h : kP.R 25 w base ok v xs) (hf : Far w w1) : kP.R 25 w1 base (fun k => some k = v.ownBlock) v xs := by
  have h' : kP.R 25 w base (fun k => some k = v.ownBlock) v xs := ⟨fun k hk => hk.symm, h.2⟩
  refine Kd.R_step h' (fun k hk hlt => ?_)
  obtain ⟨cells, hc⟩ := Kd.R_typed h k hk.symm
  rw [hc]
  exact hf _ _ _ hc (by decide) (by decide)
theorem nk_lt {a B : Nat} (ha : a < 4294967296) (hB : B ≤ 32) : nk a B < 2 ^ B := by
  unfold nk
  rw [Nat.div_lt_iff_lt_mul (Nat.two_pow_pos _), ← Nat.pow_add, show B + (32 - B) = 32 by omega]
  exact ha
theorem nk_mul {a B : Nat} (h : a % 2 ^ (32 - B) = 0) : nk a B * 2 ^ (32 - B) = a := by
  unfold nk
  have := Nat.div_add_mod a (2 ^ (32 - B))
  rw [h, Nat.add_zero, Nat.mul_comm] at this
  exact this
theorem meet_row {w : World} {base : Nat} {ok : Nat → Prop} {A : Option Addr} {a m c0 i : Nat} {B : Nat → Nat → Nat} (h : kP.R 25 w base ok (.slice A (m + 1) c0) (wayL B a m)) {ji : Int} (hj : ji = (i : Int)) (hi : i ≤ m) : ∃ ad, A = some ad ∧ w.cell? (ad.add ji.toNat) = some (.pointer (some ⟨B i (nk a i), 0, none⟩)) := by
  have hC := (Kd.R_reads' h).2.2
  rw [wayL_len] at hC
  exact at_P hC ji (by omega) (by omega) (g := B i (nk a i)) (by rw [hj, Int.toNat_natCast]; exact (List.getElem?_eq_getElem (by rw [wayL_len]; omega)).trans (congrArg some (wayL_get B a hi)))
/-- The way, not made: its row as an own one. -/
theorem wayN_at3 {a Bt : Nat} (ha : a < 4294967296) (hb : Bt ≤ 32) {w wo w1 : World} {S : Nat → Prop} {tb : Nat} {F : Nat → Nat → Option (List Int)} {B : Nat → Nat → Nat} {V : Nat → Nat → Value} {c : Int} (h : Tr w wo S tb F B V c) (hb1 : Below wo.heap.size wo w1) :
    Calls Try.prog 22 #[.pointer (some ⟨tb, 0, none⟩), .agg #[.int .u32 (a : Int), .int .i64 (Bt : Int)], .bool false] w1 fun e w' => ∃ (A : Option Addr) (cp m : Nat), e = .returned (.slice A (m + 1) cp) ∧ m ≤ Bt ∧ (∀ j, j ≤ m → F j (nk a j) ≠ none) ∧ (m < Bt → F (m + 1) (nk a (m + 1)) = none) ∧ kP.R 25 w' w1.heap.size (fun k => w1.heap.size ≤ k) (.slice A (m + 1) cp) (wayL B a m) ∧ Below wo.heap.size wo w' ∧ Below w1.heap.size w1 w' := by
  refine (wayN_.calls a Bt ha hb w w1 S tb F B V c (h.below hb1)).mono ?_
  rintro e w' ⟨v, m, rfl, h1, h2, h3, ho, hb2⟩
  obtain ⟨A, cp, rfl, hle, hC⟩ := Kd.R_reads ho
  rw [wayL_len] at ho ⊢
  exact ⟨A, cp, m, rfl, h1, h2, h3, ho, below_step hb1 hb2, hb2⟩
def MeetOut (wo : World) (F : Nat → Nat → Option (List Int)) (a Bt : Nat) (e : Ending) (w' : World) : Prop := ∃ (v : Value) (m : Nat), e = .returned v ∧ m ≤ Bt ∧ (∀ j, j ≤ m → F j (nk a j) ≠ none) ∧ (m < Bt → F (m + 1) (nk a (m + 1)) = none) ∧ Kd.R k42 42 w' wo.heap.size (fun _ => True) v (accF F a (min (m + 1) Bt) ++ (if m = Bt then (lst F (32 - Bt) Bt (nk a Bt)).map toS else [])) ∧ Below wo.heap.size wo w'
def meet_.T12 : Bool × List (List Nat × List Nat) := (true, [([], []), ([], []), ([1], [1]), ([], []), ([2, 3], [2, 3]), ([], []), ([4, 5], [4, 5]), ([6], [6]), ([0, 7, 4], [0, 7]), ([8, 8, 0, 1, 2, 3, 4, 5, 6, 7, 8], [8])])
def meet_.B12 : List Nat := [0, 0, 2, 0, 14, 0, 62, 126, 255, 511]
theorem meet_.tab12 : rtab .any (opsOf Try.f12 12) = meet_.T12 := by kernel_rfl
theorem meet_.bits12 : waitsOk meet_.T12.2 meet_.B12 = true := by kernel_rfl
def meet_.T16 : Bool × List (List Nat × List Nat) := (true, [([], []), ([], []), ([1], [1]), ([0, 2], [0, 2]), ([3], [3]), ([], []), ([], []), ([4, 5, 6], [4, 5, 6])])
def meet_.B16 : List Nat := [0, 0, 2, 7, 15, 0, 0, 127]
theorem meet_.tab16 : rtab .any (opsOf Try.f12 16) = meet_.T16 := by kernel_rfl
theorem meet_.bits16 : waitsOk meet_.T16.2 meet_.B16 = true := by kernel_rfl
set_option maxHeartbeats 4000000 in
set_option maxRecDepth 100000 in
theorem meet_bad (a : Nat) (b : Int) (ha : a < 4294967296) (hr : rightB a b = false) (wo : World) (tb : Nat) :
    Calls Try.prog 12 #[.pointer (some ⟨tb, 0, none⟩), .agg #[.int .u32 (a : Int), .int .i64 b]] wo fun e w' => e = .returned (.slice none 0 0) ∧ Below wo.heap.size wo w' := by
  have B0 := Aside0.mk (Below.refl wo.heap.size wo)
  have HRT := Aside0.mk (show cidr_Right.f (a : Int) b = some false from (tright_eq (by omega) (by omega)).trans (congrArg some hr))
  clear ha hr
  go_enter Try.func12, Try.ntmps12
  go_wp2_with (first
    | ((with_reducible refine gate_dst (N := 3) rfl ?_); refine box_event ?hg (N := 3) ?hd (cs := #[.int .u32 (a : Int), .int .i64 b]) (t := 33) ?hr ?_; (case hd => rfl); (case hg => rfl); (case hr => first | (go_simp; done) | (go_simp; rfl)); intro gp hgx wx hbox hb; have PB := Aside0.mk hbox; have B1 := Aside0.mk hb; have z0 : wx.cell? ⟨gp, 0, none⟩ = some (.int .u32 (a : Int)) := (blk_cell hbox 0).trans rfl; have z1 : wx.cell? ⟨gp, 1, none⟩ = some (.int .i64 b) := (blk_cell hbox 1).trans rfl; clear hgx hbox hb)
    | (go_at_call 21; (with_reducible refine (cidr_Right.calls _ _ _ _ HRT.out).mono ?_); rintro e w1 ⟨rfl, hz⟩; have B2 := Aside0.mk (below_step B1.out hz); have PB2 := Aside0.mk (blk_below PB.out hz); clear z0 z1 hz; have z0 : w1.cell? ⟨gp, 0, none⟩ = some (.int .u32 (a : Int)) := (blk_cell PB2.out 0).trans rfl; have z1 : w1.cell? ⟨gp, 1, none⟩ = some (.int .i64 b) := (blk_cell PB2.out 1).trans rfl))
  go_ret
  exact ⟨rfl, by repeat (first | exact B2.out | apply pw_below_drewN | apply below_drew1)⟩
theorem meet_call {w wo wd : World} {S : Nat → Prop} {tb go : Nat} {F : Nat → Nat → Option (List Int)} {B : Nat → Nat → Nat} {V : Nat → Nat → Value} {c : Int} (h : Tr w wo S tb F B V c) {a Bt : Nat} (hf : F Bt (nk a Bt) ≠ none) (ha : a < 4294967296) (hb : Bt ≤ 32) (hr : a % 2 ^ (32 - Bt) = 0) (hB : Below wo.heap.size wo wd) {acc : List S42} (hO : OutV wo wd go acc) (hl : acc.length + (lst F (32 - Bt) Bt (nk a Bt)).length ≤ 100000) :
    Calls Try.prog 25 #[.pointer (some ⟨B Bt (nk a Bt), 0, none⟩), .agg #[.int .u32 (a : Int), .int .i64 (Bt : Int)], .func (.func 29) #[] #[.pointer (some ⟨go, 0, none⟩)]] wd fun e w' => e = .returned (.tuple #[]) ∧ OutV wo w' go (acc ++ (lst F (32 - Bt) Bt (nk a Bt)).map toS) ∧ Below wo.heap.size wo w' ∧ Far wd w' := by
  obtain ⟨vs, hvs⟩ : ∃ vs, F Bt (nk a Bt) = some vs := by
    cases hx : F Bt (nk a Bt) with
    | none => exact (hf hx).elim
    | some x => exact ⟨x, rfl⟩
  rw [← h.kidS hvs]
  exact walk29_.calls (go := go) h (32 - Bt) Bt (nk a Bt) (a : Int) (Bt : Int) acc wd (by omega) (by rw [nk_mul hr]) rfl (nk_lt ha hb) hB hO hl
set_option maxHeartbeats 8000000 in
set_option maxRecDepth 100000 in
theorem meet_walk (a Bt : Nat) (ha : a < 4294967296) (hb : Bt ≤ 32) (hr : a % 2 ^ (32 - Bt) = 0) (w wo : World) (S : Nat → Prop) (tb : Nat) (F : Nat → Nat → Option (List Int)) (B : Nat → Nat → Nat) (V : Nat → Nat → Value) (c : Int) (h : Tr w wo S tb F B V c) (hF : ∀ b n vs, F b n = some vs → vs.length ≤ 1000) (hls : (lst F (32 - Bt) Bt (nk a Bt)).length ≤ 1000) :
    Calls Try.prog 12 #[.pointer (some ⟨tb, 0, none⟩), .agg #[.int .u32 (a : Int), .int .i64 (Bt : Int)]] wo (MeetOut wo F a Bt) := by
  have HT0 := Aside0.mk h
  have A1 := Aside0.mk ha
  have A2 := Aside0.mk hb
  have HRZ := Aside0.mk hr
  have HRT := Aside0.mk (show cidr_Right.f (a : Int) (Bt : Int) = some true from (tright_eq (by omega) (by omega)).trans (congrArg some (rt_right hb hr)))
  have HF := Aside0.mk hF
  have HL0 := Aside0.mk hls
  have hmf : ∀ (fn : Fn) (first cap : Array Value) (w : World), (Instr.makeFunc fn first cap).run Try.prog w = .ok (.func fn first cap) w := fun _ _ _ _ => rfl
  clear h ha hb hr hF hls
  go_enter Try.func12, Try.ntmps12
  go_wp2_with (first
    | ((with_reducible refine gate_dst (N := 3) rfl ?_); refine box_event ?hg (N := 3) ?hd (cs := #[.int .u32 (a : Int), .int .i64 (Bt : Int)]) (t := 33) ?hr ?_; (case hd => rfl); (case hg => rfl); (case hr => first | (go_simp; done) | (go_simp; rfl)); intro gp hgx wx hbox hb; have PB := Aside0.mk hbox; have B1 := Aside0.mk hb; have z0 : wx.cell? ⟨gp, 0, none⟩ = some (.int .u32 (a : Int)) := (blk_cell hbox 0).trans rfl; have z1 : wx.cell? ⟨gp, 1, none⟩ = some (.int .i64 (Bt : Int)) := (blk_cell hbox 1).trans rfl; clear hgx hbox hb)
    | (go_at_call 21; (with_reducible refine (cidr_Right.calls _ _ _ _ HRT.out).mono ?_); rintro e w1 ⟨rfl, hz⟩; have B2 := Aside0.mk (below_step B1.out hz); have PB2 := Aside0.mk (blk_below PB.out hz); clear z0 z1 hz; have z0 : w1.cell? ⟨gp, 0, none⟩ = some (.int .u32 (a : Int)) := (blk_cell PB2.out 0).trans rfl; have z1 : w1.cell? ⟨gp, 1, none⟩ = some (.int .i64 (Bt : Int)) := (blk_cell PB2.out 1).trans rfl)
    | ((with_reducible refine gate_dst (N := 5) rfl ?_); refine box_event ?hg (N := 5) ?hd (cs := #[.slice none 0 0]) (t := 38) ?hr ?_; (case hd => rfl); (case hg => rfl); (case hr => first | (go_simp; done) | (go_simp; rfl)); intro go hgo w3 hbox hb; have HG := Aside0.mk (show wo.heap.size ≤ go by have := B2.out.size; omega); have O1 := Aside0.mk (show OutV wo w3 go [] from ⟨_, hbox, Kd.R_nil _ _ _ _ _, HG.out⟩); have B3 := Aside0.mk (show Below wo.heap.size wo w3 from below_step (by repeat (first | exact B2.out | apply pw_below_drewN | apply below_drew1)) hb); have PB3 := Aside0.mk (show w3.heap[gp]? = _ from blk_below PB2.out (by repeat (first | exact hb | apply pw_below_drewN | apply below_drew1))); clear z0 z1; have z0 : w3.cell? ⟨gp, 0, none⟩ = some (.int .u32 (a : Int)) := (blk_cell PB3.out 0).trans rfl; have z1 : w3.cell? ⟨gp, 1, none⟩ = some (.int .i64 (Bt : Int)) := (blk_cell PB3.out 1).trans rfl; clear hgo hbox hb)
    | (go_at_call 22; (with_reducible refine (wayN_at3 A1.out A2.out HT0.out (by repeat (first | exact B3.out | apply pw_below_drewN | apply below_drew1))).mono ?_); rintro e w2 ⟨A0, c0, m, rfl, h1, h2, h3, hR, hb, hb1⟩; have M1 := Aside0.mk h1; have M2 := Aside0.mk h2; have M3 := Aside0.mk h3; have R2 := Aside0.mk hR; have B4 := Aside0.mk hb; have hb1' : Below w3.heap.size w3 w2 := below_step (by repeat (first | exact Below.refl _ _ | apply pw_below_drewN | apply below_drew1)) hb1; have PB4 := Aside0.mk (blk_below PB3.out hb1'); have O4 := Aside0.mk (O1.out.below hb1'); clear z0 z1 h1 h2 h3 hR hb hb1 hb1'))
  go_loopg [23] (m + 1) (fun kq v23 wl => ∃ (i : Nat) (ji : Int), i + kq = m + 1 ∧ v23 = .int .i64 ji ∧ Aside0 (ji = (i : Int)) ∧ Aside0 (OutV wo wl go (accF F a (min i Bt))) ∧ Aside0 (Below wo.heap.size wo wl) ∧ Aside0 (Far w2 wl))
  case atStart => exact ⟨0, 0, by omega, rfl, ⟨rfl⟩, ⟨by rw [Nat.zero_min]; exact O4.out⟩, B4, ⟨fun g cs e hb _ _ => hb⟩⟩
  case round =>
    clear O1 B1 B2 B3 O4
    obtain ⟨i, ji, hi, rfl, HJ, OL, BL, FL⟩ := hrel
    have HI := Aside0.mk hi
    have PL := Aside0.mk (FL.out _ _ _ PB4.out (by decide) (by decide))
    have RL := Aside0.mk (R_far R2.out FL.out)
    by_cases hlt : i < m + 1
    · have hcn : decide (ji < (m : Int) + 1) = true := decide_eq_true (by have := HJ.out; omega)
      have HLT := Aside0.mk hlt
      have p : 0 ≤ ji := by have := HJ.out; omega
      have q : ji < (m : Int) + 1 := by have := HJ.out; omega
      obtain ⟨ad, ee, hx⟩ := meet_row RL.out HJ.out (Nat.le_of_lt_succ hlt)
      cases ee
      have z1 : wr.cell? ⟨gp, 1, none⟩ = some (.int .i64 (Bt : Int)) := (blk_cell PL.out 1).trans rfl
      replace p := eq_true p
      replace q := eq_true q
      clear hi hlt
      by_cases hib : i < Bt
      · have hcb : decide (ji < (Bt : Int)) = true := decide_eq_true (by have := HJ.out; omega)
        have HIB := Aside0.mk hib
        obtain ⟨vs, hfi⟩ : ∃ vs, F i (nk a i) = some vs := by
          cases hx : F i (nk a i) with
          | none => exact (M2.out i (by have := HLT.out; omega) hx).elim
          | some x => exact ⟨x, rfl⟩
        have TL := Aside0.mk (HT0.out.below BL.out)
        obtain ⟨A1', c1, hV2, hle, hCV, hz0⟩ := TL.out.vals hfi
        have HV2 := Aside0.mk hV2
        have FI := Aside0.mk hfi
        obtain ⟨xi, hxi⟩ : ∃ xi : Int, xi = ((nk a i * 2 ^ (32 - i) : Nat) : Int) := ⟨_, rfl⟩
        have XI := Aside0.mk hxi
        have HOF := Aside0.mk (show cidr_Of.f (a : Int) ji = some (xi, (i : Int)) by rw [HJ.out, hxi]; exact of_f A1.out (by have := HIB.out; have := A2.out; omega))
        have OL' := Aside0.mk (show OutV wo wr go (accF F a i) by have := OL.out; rwa [Nat.min_eq_left (Nat.le_of_lt hib)] at this)
        clear hxi hib hV2 hle hCV hfi OL
        go_wp2
        go_loopg [37] vs.length (fun kq v37 wl' => ∃ (j : Nat) (jj : Int), j + kq = vs.length ∧ v37 = .int .i64 jj ∧ Aside0 (jj = (j : Int)) ∧ Aside0 (OutV wo wl' go (accF F a i ++ (vs.take j).map (eS i (nk a i)))) ∧ Aside0 (Below wo.heap.size wo wl') ∧ Aside0 (Far w2 wl'))
        case atStart => exact ⟨0, 0, by omega, rfl, ⟨rfl⟩, ⟨by simpa using OL'.out⟩, BL, FL⟩
        case round =>
          clear OL' BL FL PL RL z1 hz0 hx TL
          obtain ⟨j, jj, hj, rfl, HJJ, OJ, BJ, FJ⟩ := hrel
          have HIJ := Aside0.mk hj
          by_cases hlj : j < vs.length
          · have hcj : decide (jj < (vs.length : Int)) = true := decide_eq_true (by have := HJJ.out; omega)
            have HLJ := Aside0.mk hlj
            have p2 : 0 ≤ jj := by have := HJJ.out; omega
            have q2 : jj < (vs.length : Int) := by have := HJJ.out; omega
            obtain ⟨ad2, ee, hx2⟩ := Kd.at_int ((HT0.out.below BJ.out).valsC FI.out HV2.out) jj p2 q2
            cases ee
            replace p2 := eq_true p2
            replace q2 := eq_true q2
            have HAL := Aside0.mk (show (accF F a i ++ (vs.take j).map (eS i (nk a i))).length ≤ 100000 by
              have h1 := accF_len HF.out a i
              have h2 := HF.out _ _ _ FI.out
              have h3 := HIB.out
              have h4 := A2.out
              rw [List.length_append, List.length_map, List.length_take]
              omega)
            obtain ⟨u, hu1, hu2, hu3⟩ := OJ.out
            have UD := Aside0.mk (blk_drew hu1)
            have HRD := Aside0.mk (Kd.R_below hu2 (below_drew1 (Below.refl _ _)))
            have BD := Aside0.mk (below_drew1 BJ.out)
            have FD := Aside0.mk (FJ.out.trans (Far.of_below (below_drew1 (Below.refl _ _))))
            have PD := Aside0.mk (FD.out _ _ _ PB4.out (by decide) (by decide))
            clear hj hlj hu1 hu2 hu3
            go_wp2
            have hq1 : wr.drew.cell? ⟨go, 0, none⟩ = some u := (blk_cell UD.out 0).trans rfl
            have hq2 : wr.drew.cell? ⟨gp, 0, none⟩ = some (.int .u32 (a : Int)) := (blk_cell PD.out 0).trans rfl
            refine start_ (n := 10) (S := fun w' => w'.cell? ⟨go, 0, none⟩ = some u ∧ w'.cell? ⟨gp, 0, none⟩ = some (.int .u32 (a : Int))) (ds := [9]) #[false, false, false, false, false, false, false, false, false, false] (by kernel_rfl) rfl rfl ⟨hq1, hq2⟩ (fun hHeld => ?_)
            refine with_tabW meet_.tab12 meet_.bits12 (fun HT_ HW_ => ?_)
            clear hq1 hq2
            generalize wr.drew = wd at BD FD UD HRD PD hHeld ⊢
            refine pure_ (i := 1) (N := some 42) (v := ?_) (a' := ?_) #[false, true, false, false, false, false, false, false, false, false] rfl rfl (any_of HT_.out (by kernel_rfl)) (fun _ _ _ h => h) (Or.inl ⟨by rfl, ?_⟩) ?_ ?_
            rotate_left
            · intro w'
              go_simp
              with_reducible rfl
            rotate_left
            · simp only [Act.put, List.setIfInBounds_toArray, List.set_cons_zero, List.set_cons_succ, i64_w, i32_w]
              rfl
            refine pure_ (i := 3) (N := some 44) (v := ?_) (a' := ?_) #[false, true, false, true, false, false, false, false, false, false] rfl rfl (any_of HT_.out (by kernel_rfl)) (fun _ _ _ h => h) (Or.inl ⟨by rfl, ?_⟩) ?_ ?_
            rotate_left
            · intro w'
              go_simp
              with_reducible rfl
            rotate_left
            · simp only [Act.put, List.setIfInBounds_toArray, List.set_cons_zero, List.set_cons_succ, i64_w, i32_w]
              rfl
            refine pure_ (i := 5) (N := some 46) (v := ?_) (a' := ?_) #[false, true, false, true, false, true, false, false, false, false] rfl rfl (any_of HT_.out (by kernel_rfl)) (fun _ _ _ h => h) (Or.inl ⟨by rfl, ?_⟩) ?_ ?_
            rotate_left
            · intro w'
              go_simp
              with_reducible rfl
            rotate_left
            · simp only [Act.put, List.setIfInBounds_toArray, List.set_cons_zero, List.set_cons_succ, i64_w, i32_w]
              rfl
            refine take_ (i := 0) (N := some 41) (v := ?_) (a' := ?_) #[true, true, false, true, false, true, false, false, false, false] rfl rfl (take_ofW HT_.out HW_.out (by kernel_rfl)) (fun _ _ _ h => h) (Or.inl ⟨by rfl, ?_⟩) hHeld ?_ ?_
            rotate_left
            · rintro w' ⟨s0, s1⟩
              go_simp
              with_reducible rfl
            rotate_left
            · simp only [Act.put, List.setIfInBounds_toArray, List.set_cons_zero, List.set_cons_succ, i64_w, i32_w]
              rfl
            refine take_ (i := 2) (N := some 43) (v := ?_) (a' := ?_) #[true, true, true, true, false, true, false, false, false, false] rfl rfl (take_ofW HT_.out HW_.out (by kernel_rfl)) (fun _ _ _ h => h) (Or.inl ⟨by rfl, ?_⟩) hHeld ?_ ?_
            rotate_left
            · rintro w' ⟨s0, s1⟩
              go_simp
              with_reducible rfl
            rotate_left
            · simp only [Act.put, List.setIfInBounds_toArray, List.set_cons_zero, List.set_cons_succ, i64_w, i32_w]
              rfl
            refine one_ (i := 4) (N := some 45) #[true, true, true, true, true, true, false, false, false, false] rfl rfl (one_of HT_.out (by kernel_rfl)) (by decide) (fun K hK => ?_)
            refine goes_ Try.func28 (by kernel_rfl) rfl #[.int .u32 (a : Int), .int .i64 ji] (by rfl) rfl rfl (by (try simp only [List.map_toArray, List.map_cons, List.map_nil]); first | done | rfl) ?_
            with_reducible refine (cidr_Of.calls _ _ _ _ _ HOF.out).mono ?_
            rintro e wz ⟨rfl, hz⟩
            refine ⟨_, rfl, ?_⟩
            have BZ := Aside0.mk (below_step BD.out hz)
            have FZ := Aside0.mk (FD.out.trans (Far.of_below hz))
            have UZ := Aside0.mk (blk_below UD.out hz)
            have HRZ := Aside0.mk (Kd.R_below HRD.out hz)
            have PZ := Aside0.mk (blk_below PD.out hz)
            clear hz
            have hr1 : wz.cell? ⟨go, 0, none⟩ = some u := (blk_cell UZ.out 0).trans rfl
            have hr2 : wz.cell? ⟨gp, 0, none⟩ = some (.int .u32 (a : Int)) := (blk_cell PZ.out 0).trans rfl
            refine hK.out _ _ ⟨hr1, hr2⟩ (fun hHeld => ?_)
            clear hK K
            refine norm_ (a' := ?_) ?_ ?_
            rotate_left
            · show Act.put _ (some 45) _ = _
              simp only [Act.put, List.setIfInBounds_toArray, List.set_cons_zero, List.set_cons_succ, i64_w, i32_w]
              rfl
            refine pure_ (i := 6) (N := some 47) (v := ?_) (a' := ?_) #[true, true, true, true, true, true, true, false, false, false] rfl rfl (any_of HT_.out (by kernel_rfl)) (fun _ _ _ h => h) (Or.inl ⟨by rfl, ?_⟩) ?_ ?_
            rotate_left
            · intro w'
              go_simp
              with_reducible rfl
            rotate_left
            · simp only [Act.put, List.setIfInBounds_toArray, List.set_cons_zero, List.set_cons_succ, i64_w, i32_w]
              rfl
            refine one_ (i := 7) (N := some 48) #[true, true, true, true, true, true, true, true, false, false] rfl rfl (one_of HT_.out (by kernel_rfl)) (by decide) (fun K hK => ?_)
            refine value_ (w1 := ?_) (v := ?_) (by rfl) rfl ?_ ?_
            rotate_left 2
            · go_simp
              constructor
              · rfl
              · rfl
            refine hK.out _ _ ⟨((blk_cell (blk_below UZ.out (below_alloc (Below.refl _ _) _)) 0).trans rfl), ((blk_cell (blk_below PZ.out (below_alloc (Below.refl _ _) _)) 0).trans rfl)⟩ (fun hHeld => ?_)
            clear hK K
            refine norm_ (a' := ?_) ?_ ?_
            rotate_left
            · show Act.put _ (some 48) _ = _
              simp only [Act.put, List.setIfInBounds_toArray, List.set_cons_zero, List.set_cons_succ, i64_w, i32_w]
              rfl
            refine one_ (i := 8) (N := some 49) #[true, true, true, true, true, true, true, true, true, false] rfl rfl (one_of HT_.out (by kernel_rfl)) (by decide) (fun K hK => ?_)
            refine Kd.R_append_step k42 (w0 := wo) wo.heap.size (by rfl) (.tmp 41) (.tmp 48) 38 42 (.agg #[.int .u32 0, .int .i64 0, .int .i64 0]) 24 rfl Try.underlying38 info42 rfl (by decide) (by omega) u (accF F a i ++ (vs.take j).map (eS i (nk a i))) ⟨⟨xi, (i : Int)⟩, rd vs jj⟩ [.int .u32 xi, .int .i64 (i : Int), .int .i64 (rd vs jj)] (fun _ => True) (fun _ => False) rfl rfl ?aP (fun _ hk => hk.elim) ?aF ?aO ?aB ?aS ?aL ?_
            case aP => exact k42_mkM _ _ _ ⟨⟨xi, (i : Int)⟩, rd vs jj⟩
            case aF => exact (fun k hk => trivial)
            case aO => exact HRZ.out
            case aB => exact BZ.out
            case aS => exact BZ.out.size
            case aL => have := HAL.out; omega
            intro v9 w9 ho hb9 hg9 hat9
            obtain ⟨A9, c9, e9⟩ := Kd.R_slice ho
            rw [List.length_append, List.length_singleton] at e9
            subst e9
            have HO9 := Aside0.mk ho
            have HB9 := Aside0.mk hb9
            have F9 := Aside0.mk (FZ.out.trans (fun g cs e hb h1 h2 => blk_grown hb hg9 (Kd.R_ne HRZ.out hb (fun e' => h2 e'.symm))))
            have UX9 := Aside0.mk (blk_grown UZ.out hg9 (Kd.R_ne HRZ.out UZ.out (by decide)))
            have P9 := Aside0.mk (blk_grown PZ.out hg9 (Kd.R_ne HRZ.out PZ.out (by decide)))
            clear ho hb9 hg9 hat9
            have hs1 : w9.cell? ⟨go, 0, none⟩ = some u := (blk_cell UX9.out 0).trans rfl
            have hs2 : w9.cell? ⟨gp, 0, none⟩ = some (.int .u32 (a : Int)) := (blk_cell P9.out 0).trans rfl
            refine hK.out _ _ ⟨hs1, hs2⟩ (fun hHeld => ?_)
            clear hK K
            refine norm_ (a' := ?_) ?_ ?_
            rotate_left
            · show Act.put _ (some 49) _ = _
              simp only [Act.put, List.setIfInBounds_toArray, List.set_cons_zero, List.set_cons_succ, i64_w, i32_w]
              rfl
            refine last_ (i := 9) (N := none) #[true, true, true, true, true, true, true, true, true, true] rfl rfl (one_of HT_.out (by kernel_rfl)) (by decide) (fun K hK => ?_)
            refine Hand.store_one (by rfl) rfl 38 (.tmp 5) (.tmp 49) rfl (.slice A9 ((accF F a i ++ (vs.take j).map (eS i (nk a i))).length + 1) c9) rfl rfl UX9.out rfl size38 (Nat.le_refl 1) rfl (fun w7 hw7 => ?_)
            have T7 := Aside0.mk (show OutV wo w7 go ((accF F a i ++ (vs.take j).map (eS i (nk a i))) ++ [⟨⟨xi, (i : Int)⟩, rd vs jj⟩]) by rw [hw7]; exact ⟨_, blk_put UX9.out 0 _ rfl, Kd.R_set HO9.out UX9.out (by decide) 0 _, HG.out⟩)
            have F7 := Aside0.mk (show Far w2 w7 by rw [hw7]; exact F9.out.trans (fun g cs e hb h1 h2 => blk_far (p := ⟨go, 0, none⟩) hb (blk_ne hb UX9.out h1) _))
            have B7 := Aside0.mk (show Below wo.heap.size wo w7 by rw [hw7]; exact below_set HB9.out HG.out)
            clear hw7
            refine hK.out _ _ ?_
            clear hK K
            refine done_ (done_of HT_.out (by kernel_rfl)) ?_
            clear hx2 OJ BJ FJ BD FD UD HRD PD
            go_wp2
            go_roundg (vs.length - (j + 1))
            case measure => have := HIJ.out; have := HLJ.out; omega
            case rel => exact ⟨j + 1, jj + 1, by have := HLJ.out; omega, by rw [wrap64_id _ (by have := HJJ.out; omega) (by have := HJJ.out; have := HLJ.out; have := HF.out _ _ _ FI.out; omega)], ⟨by have := HJJ.out; omega⟩, ⟨by
              have h9 := T7.out
              rw [XI.out, HJJ.out, show (⟨⟨((nk a i * 2 ^ (32 - i) : Nat) : Int), (i : Int)⟩, rd vs (j : Int)⟩ : S42) = eS i (nk a i) (rd vs (j : Int)) from rfl, take_rd HLJ.out] at h9
              exact h9⟩, B7, F7⟩
          · have hcj : decide (jj < (vs.length : Int)) = false := decide_eq_false (by have := HJJ.out; omega)
            obtain rfl : j = vs.length := by omega
            clear hj hlj
            go_wp2
            go_roundg (m + 1 - (i + 1))
            case measure => have := HI.out; have := HLT.out; omega
            case rel => exact ⟨i + 1, ji + 1, by have := HLT.out; omega, by rw [wrap64_id _ (by have := HJ.out; omega) (by have := HJ.out; have := HLT.out; have := M1.out; have := A2.out; omega)], ⟨by have := HJ.out; omega⟩, ⟨by
              have h9 := OJ.out
              rw [List.take_length] at h9
              rw [Nat.min_eq_left (show i + 1 ≤ Bt from HIB.out), accF, FI.out]
              exact h9⟩, BJ, FJ⟩
      · have hcb : decide (ji < (Bt : Int)) = false := decide_eq_false (by have := HJ.out; omega)
        have HIB := Aside0.mk hib
        clear hib
        go_wp2
        go_roundg (m + 1 - (i + 1))
        case measure => have := HI.out; have := HLT.out; omega
        case rel => exact ⟨i + 1, ji + 1, by have := HLT.out; omega, by rw [wrap64_id _ (by have := HJ.out; omega) (by have := HJ.out; have := HLT.out; have := M1.out; have := A2.out; omega)], ⟨by have := HJ.out; omega⟩, ⟨by
          have h9 := OL.out
          have h8 := HIB.out
          rw [Nat.min_eq_right (by omega)] at h9 ⊢
          exact h9⟩, BL, FL⟩
    · have hcn : decide (ji < (m : Int) + 1) = false := decide_eq_false (by have := HJ.out; omega)
      obtain rfl : i = m + 1 := by omega
      have z1 : wr.cell? ⟨gp, 1, none⟩ = some (.int .i64 (Bt : Int)) := (blk_cell PL.out 1).trans rfl
      clear hi hlt
      by_cases hmb : m = Bt
      · have hcb : decide ((Bt : Int) < (m : Int) + 1) = true := decide_eq_true (by omega)
        have hcb2 : decide (Bt < m + 1) = true := decide_eq_true (by omega)
        have hcb3 : (Bt : Int) < (m : Int) + 1 := by omega
        have hcb4 : 0 ≤ (Bt : Int) := by omega
        have hcb3 := eq_true hcb3
        have hcb4 := eq_true hcb4
        have HFB := Aside0.mk (show F Bt (nk a Bt) ≠ none from M2.out Bt (by omega))
        have OB := Aside0.mk (show OutV wo wr go (accF F a Bt) by have := OL.out; rwa [Nat.min_eq_right (by omega)] at this)
        have HLS := Aside0.mk (show (accF F a Bt).length + (lst F (32 - Bt) Bt (nk a Bt)).length ≤ 100000 by
          have h1 := accF_len HF.out a Bt
          have h2 := HL0.out
          have h3 := A2.out
          omega)
        have HMB := Aside0.mk hmb
        have OD := Aside0.mk (OB.out.below (below_drew1 (Below.refl _ _)))
        have BD := Aside0.mk (below_drew1 BL.out)
        have PD := Aside0.mk (blk_drew PL.out)
        have RD := Aside0.mk (Kd.R_below RL.out (below_drew1 (Below.refl _ _)))
        obtain ⟨ad, ee, hq3⟩ := meet_row RD.out (rfl : (Bt : Int) = (Bt : Int)) (by omega)
        cases ee
        rw [Int.toNat_natCast] at hq3
        clear hmb OL
        go_wp2
        have hq1 : wr.drew.cell? ⟨gp, 0, none⟩ = some (.int .u32 (a : Int)) := (blk_cell PD.out 0).trans rfl
        have hq2 : wr.drew.cell? ⟨gp, 1, none⟩ = some (.int .i64 (Bt : Int)) := (blk_cell PD.out 1).trans rfl
        refine start_ (n := 8) (S := fun w' => w'.cell? ⟨gp, 0, none⟩ = some (.int .u32 (a : Int)) ∧ w'.cell? ⟨gp, 1, none⟩ = some (.int .i64 (Bt : Int)) ∧ w'.cell? (ad.add Bt) = some (.pointer (some ⟨B Bt (nk a Bt), 0, none⟩))) (ds := []) #[false, false, false, false, false, false, false, false] (by kernel_rfl) rfl rfl ⟨hq1, hq2, hq3⟩ (fun hHeld => ?_)
        refine with_tabW meet_.tab16 meet_.bits16 (fun HT_ HW_ => ?_)
        clear hq1 hq2 hq3
        generalize wr.drew = wd at BD OD PD RD hHeld ⊢
        refine pure_ (i := 0) (N := some 57) (v := ?_) (a' := ?_) #[true, false, false, false, false, false, false, false] rfl rfl (any_of HT_.out (by kernel_rfl)) (fun _ _ _ h => h) (Or.inl ⟨by rfl, ?_⟩) ?_ ?_
        rotate_left
        · intro w'
          go_simp
          with_reducible rfl
        rotate_left
        · simp only [Act.put, List.setIfInBounds_toArray, List.set_cons_zero, List.set_cons_succ, i64_w, i32_w]
          rfl
        refine pure_ (i := 1) (N := some 58) (v := ?_) (a' := ?_) #[true, true, false, false, false, false, false, false] rfl rfl (any_of HT_.out (by kernel_rfl)) (fun _ _ _ h => h) (Or.inl ⟨by rfl, ?_⟩) ?_ ?_
        rotate_left
        · intro w'
          go_simp
          with_reducible rfl
        rotate_left
        · simp only [Act.put, List.setIfInBounds_toArray, List.set_cons_zero, List.set_cons_succ, i64_w, i32_w]
          rfl
        refine pure_ (i := 6) (N := some 63) (v := ?_) (a' := ?_) #[true, true, false, false, false, false, true, false] rfl rfl (any_of HT_.out (by kernel_rfl)) (fun _ _ _ h => h) (Or.inl ⟨by rfl, ?_⟩) ?_ ?_
        rotate_left
        · intro w'
          go_simp
          with_reducible rfl
        rotate_left
        · simp only [Act.put, List.setIfInBounds_toArray, List.set_cons_zero, List.set_cons_succ, i64_w, i32_w]
          rfl
        refine take_ (i := 2) (N := some 59) (v := ?_) (a' := ?_) #[true, true, true, false, false, false, true, false] rfl rfl (take_ofW HT_.out HW_.out (by kernel_rfl)) (fun _ _ _ h => h) (Or.inl ⟨by rfl, ?_⟩) hHeld ?_ ?_
        rotate_left
        · rintro w' ⟨s0, s1, s2⟩
          go_simp
          with_reducible rfl
        rotate_left
        · simp only [Act.put, List.setIfInBounds_toArray, List.set_cons_zero, List.set_cons_succ, i64_w, i32_w]
          rfl
        refine pure_ (i := 3) (N := some 60) (v := ?_) (a' := ?_) #[true, true, true, true, false, false, true, false] rfl rfl (any_of HT_.out (by kernel_rfl)) (fun _ _ _ h => h) (Or.inl ⟨by rfl, ?_⟩) ?_ ?_
        rotate_left
        · intro w'
          go_simp
          with_reducible rfl
        rotate_left
        · simp only [Act.put, List.setIfInBounds_toArray, List.set_cons_zero, List.set_cons_succ, i64_w, i32_w]
          rfl
        refine take_ (i := 4) (N := some 61) (v := ?_) (a' := ?_) #[true, true, true, true, true, false, true, false] rfl rfl (take_ofW HT_.out HW_.out (by kernel_rfl)) (fun _ _ _ h => h) (Or.inl ⟨by rfl, ?_⟩) hHeld ?_ ?_
        rotate_left
        · rintro w' ⟨s0, s1, s2⟩
          go_simp
          with_reducible rfl
        rotate_left
        · simp only [Act.put, List.setIfInBounds_toArray, List.set_cons_zero, List.set_cons_succ, i64_w, i32_w]
          rfl
        refine take_ (i := 5) (N := some 62) (v := ?_) (a' := ?_) #[true, true, true, true, true, true, true, false] rfl rfl (take_ofW HT_.out HW_.out (by kernel_rfl)) (fun _ _ _ h => h) (Or.inl ⟨by rfl, ?_⟩) hHeld ?_ ?_
        rotate_left
        · rintro w' ⟨s0, s1, s2⟩
          go_simp
          with_reducible rfl
        rotate_left
        · simp only [Act.put, List.setIfInBounds_toArray, List.set_cons_zero, List.set_cons_succ, i64_w, i32_w]
          rfl
        refine one_ (i := 7) (N := some 64) #[true, true, true, true, true, true, true, true] rfl rfl (one_of HT_.out (by kernel_rfl)) (by decide) (fun K hK => ?_)
        refine goes_ Try.func25 (by kernel_rfl) rfl #[.pointer (some ⟨B Bt (nk a Bt), 0, none⟩), .agg #[.int .u32 (a : Int), .int .i64 (Bt : Int)], .func (.func 29) #[] #[.pointer (some ⟨go, 0, none⟩)]] (by rfl) rfl rfl (by (try simp only [List.map_toArray, List.map_cons, List.map_nil]); first | done | rfl) ?_
        with_reducible refine (meet_call HT0.out HFB.out A1.out A2.out HRZ.out BD.out OD.out HLS.out).mono ?_
        rintro e wz ⟨rfl, ho, hz, hf⟩
        refine ⟨_, rfl, ?_⟩
        have OZ := Aside0.mk ho
        have BZ := Aside0.mk hz
        clear ho hz
        have PZ := Aside0.mk (hf _ _ _ PD.out (by decide) (by decide))
        have RZ := Aside0.mk (R_far RD.out hf)
        clear hf
        have hr1 : wz.cell? ⟨gp, 0, none⟩ = some (.int .u32 (a : Int)) := (blk_cell PZ.out 0).trans rfl
        have hr2 : wz.cell? ⟨gp, 1, none⟩ = some (.int .i64 (Bt : Int)) := (blk_cell PZ.out 1).trans rfl
        obtain ⟨ad', ee, hr3⟩ := meet_row RZ.out (rfl : (Bt : Int) = (Bt : Int)) (by have := HMB.out; omega)
        cases ee
        rw [Int.toNat_natCast] at hr3
        refine hK.out _ _ ⟨hr1, hr2, hr3⟩ (fun hHeld => ?_)
        clear hK K
        refine norm_ (a' := ?_) ?_ ?_
        rotate_left
        · show Act.put _ (some 64) _ = _
          simp only [Act.put, List.setIfInBounds_toArray, List.set_cons_zero, List.set_cons_succ, i64_w, i32_w]
          rfl
        refine done_ (done_of HT_.out (by kernel_rfl)) ?_
        obtain ⟨u, hu1, hu2, hu3⟩ := OZ.out
        have hz : wz.cell? ⟨go, 0, none⟩ = some u := (blk_cell hu1 0).trans rfl
        have U2 := Aside0.mk hu2
        clear hu1 hu2 hu3
        go_wp2
        go_ret
        exact ⟨_, m, rfl, M1.out, M2.out, M3.out, by rw [if_pos HMB.out, Nat.min_eq_right (by have := HMB.out; omega)]; exact U2.out, BZ.out⟩
      · have hcb : decide ((Bt : Int) < (m : Int) + 1) = false := decide_eq_false (by have := M1.out; omega)
        have hcb2 : decide (Bt < m + 1) = false := decide_eq_false (by have := M1.out; omega)
        obtain ⟨u, hu1, hu2, hu3⟩ := OL.out
        have hz : wr.cell? ⟨go, 0, none⟩ = some u := (blk_cell hu1 0).trans rfl
        have U2 := Aside0.mk hu2
        have HMB := Aside0.mk hmb
        clear hu1 hu2 hu3 hmb
        go_wp2
        go_ret
        exact ⟨_, m, rfl, M1.out, M2.out, M3.out, by rw [if_neg HMB.out, List.append_nil]; exact U2.out, BL.out⟩


open Go.Proofs.Ytbmibakhpealjaa.TrieP Go.Proofs.Ytbmibakhpealjaa.Facts Go.Proofs.Ytbmibakhpealjaa.Bits
/-! ### Meeting, by lists -/
theorem ofE_range (l : List En) (a : Nat) : ∀ B, ofE l a B = (List.range B).flatMap (fun i => l.filter (atN i (nk a i)))
  | 0 => rfl
  | B + 1 => by rw [ofE, List.range_succ, List.flatMap_append, ← ofE_range l a B]; simp
def meetL (l : List En) (a : Nat) (b : Int) : List En := if rightB a b = true then l.filter (mt a b.toNat) else []
theorem meetL_len (l : List En) (a : Nat) (b : Int) : (meetL l a b).length ≤ l.length := by
  unfold meetL
  split
  · exact List.length_filter_le _ _
  · exact Nat.zero_le _
theorem meeting_.calls {w wo : World} {S : Nat → Prop} {tb : Nat} {l : List En} (h : TrL w wo S tb l) (hl : l.length ≤ 1000) (a : Nat) (ha : a < 4294967296) (b : Int) :
    Calls Try.prog 12 #[.pointer (some ⟨tb, 0, none⟩), .agg #[.int .u32 (a : Int), .int .i64 b]] wo fun e w' => ∃ v : Value, e = .returned v ∧ Kd.R k42 42 w' wo.heap.size (fun _ => True) v ((meetL l a b).map toS) ∧ Below wo.heap.size wo w' := by
  unfold meetL
  cases hrb : rightB a b with
  | false =>
    refine (meet_bad a b ha hrb wo tb).mono ?_
    rintro e w' ⟨rfl, hb⟩
    rw [if_neg (by decide)]
    exact ⟨_, rfl, Kd.R_nil _ _ _ _ _, hb⟩
  | true =>
    obtain ⟨n, rfl, hn, hz⟩ := right_rt hrb
    obtain ⟨⟨B, V, ht⟩, hs, hr⟩ := h
    have hlst := lst_eq hs hr (32 - n) n (nk a n) (by omega)
    rw [if_pos rfl, Int.toNat_natCast]
    refine (meet_walk a n ha hn hz w wo S tb (X l) B V _ ht (X_len hl) (by rw [hlst]; exact Nat.le_trans (List.length_filter_le _ _) hl)).mono ?_
    rintro e w' ⟨v, m, rfl, h1, h2, h3, ho, hb⟩
    refine ⟨v, rfl, ?_, hb⟩
    rw [hlst, accF_of hr] at ho
    rw [← meet_eq hs hr a n hn, ← ofE_range, List.map_append]
    by_cases hm : m = n
    · rw [if_pos hm, Nat.min_eq_right (by omega)] at ho
      exact ho
    · rw [if_neg hm, List.append_nil, Nat.min_eq_left (by omega)] at ho
      have hx := h3 (by omega)
      have h4 := ofE_stop hr a (m := m) (by omega) (fun _ => hx) (n - (m + 1)) (by omega)
      rw [show m + 1 + (n - (m + 1)) = n by omega] at h4
      rw [h4, X_none (X_none_up hr a hx n (by omega) hn), List.map_nil, List.append_nil]
      exact ho
theorem meet_at {w wo w1 : World} {S : Nat → Prop} {tb : Nat} {l : List En} (h : TrL w wo S tb l) (hb1 : Below wo.heap.size wo w1) (hl : l.length ≤ 1000) {a : Nat} {xa : Int} (ha : a < 4294967296) (hxa : xa = (a : Int)) (b : Int) :
    Calls Try.prog 12 #[.pointer (some ⟨tb, 0, none⟩), .agg #[.int .u32 xa, .int .i64 b]] w1 fun e w' => ∃ v : Value, e = .returned v ∧ Kd.R k42 42 w' w1.heap.size (fun _ => True) v ((meetL l a b).map toS) ∧ Below w1.heap.size w1 w' := by
  subst hxa
  exact meeting_.calls (h.below hb1) hl a ha b


open Go.Proofs.Ytbmibakhpealjaa.TrieP Go.Proofs.Ytbmibakhpealjaa.Facts Go.Proofs.Ytbmibakhpealjaa.Bits
theorem size42 : (Try.prog.info? 42).map (·.size) = some 3 := by kernel_rfl
theorem size35 : (Try.prog.info? 35).map (·.size) = some 4 := by kernel_rfl
theorem eqA42 (d : Nat) (w : World) (x0 y0 : Int) (x1 y1 : Int) (x2 y2 : Int) :
    (Op.equalIn (d + 3) 42 (.agg #[.int .u32 x0, .int .i64 x1, .int .i64 x2]) (.agg #[.int .u32 y0, .int .i64 y1, .int .i64 y2])).run Try.prog w = .ok ((x0 == y0 && (x1 == y1)) && (x2 == y2)) w := by
  refine eqA_of Try.underlying42 (by kernel_rfl) ?_
  refine eqf_cons (by rfl) (by go_simp) (by go_simp) (eqA33 (d + 0) w _ _ _ _) ?_
  exact eqf_last (by rfl) (by go_simp; rfl) (by go_simp; rfl) (by go_simp)
def eqS (x y : S42) : Bool := (y.f0.f0 == x.f0.f0 && y.f0.f1 == x.f0.f1) && y.f1 == x.f1
theorem any_eqS {x : S42} {rows : List S42} (h : x ∈ rows) : rows.any (eqS x) = true := List.any_eq_true.2 ⟨x, h, by simp [eqS]⟩
theorem take_any (rows : List S42) (f : S42 → Bool) {m : Nat} (hm : m < rows.length) : (rows.take (m + 1)).any f = ((rows.take m).any f || f rows[m]) := by
  rw [List.take_succ_eq_append_getElem hm, List.any_append]
  simp
theorem ofE_len (l : List En) (a : Nat) : ∀ i, (ofE l a i).length ≤ i * l.length
  | 0 => Nat.zero_le _
  | i + 1 => by
    rw [ofE, List.length_append, Nat.add_mul, Nat.one_mul]
    exact Nat.add_le_add (ofE_len l a i) (List.length_filter_le _ _)
theorem take_puts {os : List S35} {i : Nat} (hi : i < os.length) : putO (puts (os.take i)) (rd_T35 os (i : Int)) = puts (os.take (i + 1)) := by
  rw [List.take_succ_eq_append_getElem hi, puts_snoc]
  congr 1
  simp [rd_T35, List.getD, hi]
theorem rd_mem {os : List S35} {i : Nat} (hi : i < os.length) : rd_T35 os (i : Int) ∈ os := by
  have : rd_T35 os (i : Int) = os[i] := by simp [rd_T35, List.getD, hi]
  rw [this]
  exact List.getElem_mem hi
theorem k35_mk (w : World) (x : S35) : k35.K w x [.bool x.f0, .int .u32 x.f1.f0, .int .i64 x.f1.f1, .int .i64 x.f2] := ⟨[.bool x.f0], [.int .u32 x.f1.f0, .int .i64 x.f1.f1, .int .i64 x.f2], rfl, rfl, ⟨[.int .u32 x.f1.f0, .int .i64 x.f1.f1], [.int .i64 x.f2], rfl, k33_mk w x.f1, rfl⟩⟩
/-! #### one tree -/
structure One (w wl : World) (g : Nat) (l : List En) : Prop where
  mk :: (out : ∃ S : Nat → Prop, TrL w wl S g l)
section
variable {w wl w1 : World} {g : Nat} {l : List En}
theorem One.bl (h : One w wl g l) : Below w.heap.size w wl := h.out.choose_spec.bl
theorem One.below (h : One w wl g l) (hb : Below wl.heap.size wl w1) : One w w1 g l := ⟨_, h.out.choose_spec.below hb⟩
theorem One.rts (h : One w wl g l) : Rts l := h.out.choose_spec.rts
theorem One.srt (h : One w wl g l) : Srt l := h.out.choose_spec.srt
theorem One.add (h : One w wl g l) (hb : Below wl.heap.size wl w1) (hl : l.length ≤ 1000) {xa : Int} (h0 : 0 ≤ xa) (h1 : xa < 4294967296) (b x : Int) :
    Calls Try.prog 8 #[.pointer (some ⟨g, 0, none⟩), .agg #[.int .u32 xa, .int .i64 b], .int .i64 x] w1 fun e w' => e = .returned (.int .i64 (addL l xa.toNat b x).1) ∧ One w w' g (addL l xa.toNat b x).2 := by
  obtain ⟨S, ha⟩ := h.out
  refine (add_at (ha.below hb) (Below.refl _ _) hl (a := xa.toNat) (by omega) (by omega) b x).mono ?_
  rintro e w' ⟨rfl, h2, hk⟩
  exact ⟨rfl, _, h2⟩
theorem One.drop (h : One w wl g l) (hb : Below wl.heap.size wl w1) (hl : l.length ≤ 1000) {xa : Int} (h0 : 0 ≤ xa) (h1 : xa < 4294967296) (b x : Int) :
    Calls Try.prog 14 #[.pointer (some ⟨g, 0, none⟩), .agg #[.int .u32 xa, .int .i64 b], .int .i64 x] w1 fun e w' => e = .returned (.int .i64 (delL l xa.toNat b x).1) ∧ One w w' g (delL l xa.toNat b x).2 := by
  obtain ⟨S, ha⟩ := h.out
  refine (drop_at (ha.below hb) (Below.refl _ _) hl (a := xa.toNat) (by omega) (by omega) b x).mono ?_
  rintro e w' ⟨rfl, h2, hk⟩
  exact ⟨rfl, _, h2⟩
theorem One.of (h : One w wl g l) (hb : Below wl.heap.size wl w1) (hl : l.length ≤ 1000) {xa : Int} (h0 : 0 ≤ xa) (h1 : xa < 4294967296) :
    Calls Try.prog 11 #[.pointer (some ⟨g, 0, none⟩), .int .u32 xa] w1 fun e w' => ∃ v : Value, e = .returned v ∧ Kd.R k42 42 w' w1.heap.size (fun _ => True) v ((ofE l xa.toNat 33).map toS) ∧ Below w1.heap.size w1 w' := by
  obtain ⟨S, ha⟩ := h.out
  exact of_at (ha.below hb) (Below.refl _ _) hl (a := xa.toNat) (by omega) (by omega)
theorem One.meet (h : One w wl g l) (hb : Below wl.heap.size wl w1) (hl : l.length ≤ 1000) {xa : Int} (h0 : 0 ≤ xa) (h1 : xa < 4294967296) (b : Int) :
    Calls Try.prog 12 #[.pointer (some ⟨g, 0, none⟩), .agg #[.int .u32 xa, .int .i64 b]] w1 fun e w' => ∃ v : Value, e = .returned v ∧ Kd.R k42 42 w' w1.heap.size (fun _ => True) v ((meetL l xa.toNat b).map toS) ∧ Below w1.heap.size w1 w' := by
  obtain ⟨S, ha⟩ := h.out
  exact meet_at (ha.below hb) (Below.refl _ _) hl (a := xa.toNat) (by omega) (by omega) b
theorem One.all (h : One w wl g l) (hb : Below wl.heap.size wl w1) (hl : l.length ≤ 1000) :
    Calls Try.prog 9 #[.pointer (some ⟨g, 0, none⟩)] w1 fun e w' => ∃ v : Value, e = .returned v ∧ Kd.R k42 42 w' w1.heap.size (fun _ => True) v (l.map toS) ∧ Below w1.heap.size w1 w' := by
  obtain ⟨S, ha⟩ := h.out
  exact all_.calls (ha.below hb) hl
theorem One.size (h : One w wl g l) (hb : Below wl.heap.size wl w1) :
    Calls Try.prog 10 #[.pointer (some ⟨g, 0, none⟩)] w1 fun e w' => e = .returned (.int .i64 ((TrieP.sz (X l) 32 0 0 : Nat) : Int)) ∧ Below w1.heap.size w1 w' := by
  obtain ⟨S, ha⟩ := h.out
  exact tsize_.calls (ha.below hb)
theorem One.len (h : One w wl g l) (hb : Below wl.heap.size wl w1) :
    Calls Try.prog 13 #[.pointer (some ⟨g, 0, none⟩)] w1 fun e w' => e = .returned (.int .i64 (l.length : Int)) ∧ Below w1.heap.size w1 w' := by
  obtain ⟨S, ha⟩ := h.out
  exact len_.calls (ha.below hb)
end
/-! #### what an address has, and what it meets -/
theorem meet_of {l : List En} (hs : Srt l) (hr : Rts l) {a : Nat} (ha : a < 4294967296) : meetL l a 32 = ofE l a 33 := by
  have hrb : rightB (a : Int) 32 = true := rt_right (b := 32) (Nat.le_refl _) (by rw [Nat.sub_self, Nat.pow_zero, Nat.mod_one])
  unfold meetL
  rw [if_pos hrb, show (32 : Int).toNat = 32 from rfl, ← meet_eq hs hr a 32 (Nat.le_refl _), ← ofE_range]
  show _ = ofE l a 32 ++ _
  congr 1
  refine List.filter_congr (fun e he => ?_)
  rw [Bool.eq_iff_iff, win_iff, atN_iff]
  exact ⟨fun h => ⟨Nat.le_antisymm (hr e he).1 h.1, h.2⟩, fun h => ⟨Nat.le_of_eq h.1.symm, h.2⟩⟩
theorem of_filter {l : List En} (hs : Srt l) (hr : Rts l) {a : Nat} (ha : a < 4294967296) : ofE l a 33 = l.filter (fun e => decide (nk e.a e.b = nk a e.b)) := by
  have hrb : rightB (a : Int) 32 = true := rt_right (b := 32) (Nat.le_refl _) (by rw [Nat.sub_self, Nat.pow_zero, Nat.mod_one])
  rw [← meet_of hs hr ha]
  unfold meetL
  rw [if_pos hrb, show (32 : Int).toNat = 32 from rfl]
  refine List.filter_congr (fun e he => ?_)
  rw [Bool.eq_iff_iff]
  unfold TrieP.mt
  simp only [Bool.or_eq_true, Bool.and_eq_true, decide_eq_true_eq, win_iff]
  have := (hr e he).1
  constructor
  · rintro (⟨_, h⟩ | ⟨h1, h2⟩)
    · exact h
    · rw [show e.b = 32 by omega]; exact h2
  · intro h
    by_cases hb : e.b < 32
    · exact .inl ⟨hb, h⟩
    · refine .inr ⟨by omega, ?_⟩
      rw [show e.b = 32 by omega] at h
      exact h
theorem meet_whole {l : List En} (hr : Rts l) : meetL l 0 0 = l := by
  have hrb : rightB ((0 : Nat) : Int) 0 = true := rt_right (a := 0) (b := 0) (by decide) (by decide)
  unfold meetL
  rw [if_pos hrb, List.filter_eq_self]
  intro e he
  unfold TrieP.mt
  simp only [Bool.or_eq_true, Bool.and_eq_true, decide_eq_true_eq, win_iff]
  refine .inr ⟨Nat.zero_le _, ?_⟩
  show nk e.a 0 = nk 0 0
  rw [nk_zero (hr e he).2.1, nk_zero (by decide)]
theorem nk_addr {e : En} (he : rt e) : e.a = nk e.a e.b * 2 ^ (32 - e.b) := by
  have h := at_addr (b := e.b) (n := nk e.a e.b) (e := e) (atN_iff.2 ⟨rfl, rfl⟩) he
  exact congrArg En.a h
theorem of_le {e : En} (he : rt e) {a : Nat} (h : nk e.a e.b = nk a e.b) : e.a ≤ a := by
  rw [nk_addr he, h]
  exact Nat.div_mul_le_self _ _
theorem of_wider {x y : En} (hx : rt x) (hy : rt y) {a : Nat} (h1 : nk x.a x.b = nk a x.b) (h2 : nk y.a y.b = nk a y.b) (h : bef x y = true) : x.b ≤ y.b := by
  apply Classical.byContradiction
  intro hc
  have h3 : nk x.a y.b = nk a y.b := nk_le (show y.b ≤ x.b by omega) hx.1 h1
  have h4 : y.a ≤ x.a := by
    rw [nk_addr hy, h2, ← h3]
    exact Nat.div_mul_le_self _ _
  rw [bef_iff] at h
  omega
theorem of_next {l : List En} (hs : Srt l) (hr : Rts l) {a : Nat} (ha : a < 4294967296) {i : Nat} (hi : i + 1 < (ofE l a 33).length) :
    ((ofE l a 33)[i]).b ≤ ((ofE l a 33)[i + 1]).b ∧ (((ofE l a 33)[i]).a = ((ofE l a 33)[i + 1]).a → ((ofE l a 33)[i]).b = ((ofE l a 33)[i + 1]).b → ((ofE l a 33)[i]).v < ((ofE l a 33)[i + 1]).v) := by
  have hm : ∀ x ∈ ofE l a 33, rt x ∧ nk x.a x.b = nk a x.b := fun x hx => by
    rw [of_filter hs hr ha, List.mem_filter] at hx
    exact ⟨hr x hx.1, by simpa using hx.2⟩
  have hp : (ofE l a 33).Pairwise (fun x y => bef x y = true) := by
    rw [of_filter hs hr ha]
    exact List.Pairwise.filter _ hs
  have hb := List.pairwise_iff_getElem.1 hp i (i + 1) (by omega) hi (by omega)
  have m1 := hm _ (List.getElem_mem (show i < (ofE l a 33).length by omega))
  have m2 := hm _ (List.getElem_mem hi)
  refine ⟨of_wider m1.1 m2.1 m1.2 m2.2 hb, fun e1 e2 => ?_⟩
  rw [bef_iff] at hb
  omega
theorem of_mem {l : List En} (hs : Srt l) (hr : Rts l) {a : Nat} (ha : a < 4294967296) {x : En} (hx : x ∈ ofE l a 33) : rt x ∧ x.a ≤ a := by
  rw [of_filter hs hr ha, List.mem_filter] at hx
  exact ⟨hr x hx.1, of_le (hr x hx.1) (by simpa using hx.2)⟩

end Go.Proofs.Ytbmibakhpealjaa.PTr
