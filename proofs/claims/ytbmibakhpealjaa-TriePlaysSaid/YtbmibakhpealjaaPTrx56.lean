-- The walks of the trie's functions, by hand.
-- halved
import Derived.Test.YtbmibakhpealjaaPTrx51
import Derived.Test.YtbmibakhpealjaaPTrx28
import Derived.Test.YtbmibakhpealjaaPTrx29
import Derived.Test.YtbmibakhpealjaaPTrx30
import Derived.Test.YtbmibakhpealjaaPTrx32
import Derived.Test.YtbmibakhpealjaaPTrx33
import Derived.Test.YtbmibakhpealjaaPTrx34
import Derived.Test.YtbmibakhpealjaaPTrx36
import Derived.Test.YtbmibakhpealjaaPTrx37
namespace Go.Proofs.Ytbmibakhpealjaa.PTr
open Go.RowKit Go.Proofs.YtbmibakhpealjaaW.PrintWords Go.Proofs.YtbmibakhpealjaaW.PrintLast Go.Proofs.YtbmibakhpealjaaW.PrintMore
attribute [local go_sem] max2_int min2_int max_two min_two max_three min_three max_four min_four   -- for this text's walks alone
set_option linter.unusedVariables false
set_option linter.unusedSimpArgs false

open Go.Proofs.Ytbmibakhpealjaa.TrieP Go.Proofs.Ytbmibakhpealjaa.Facts Go.Proofs.Ytbmibakhpealjaa.Bits
/-- The way, not made, asked of a later world than the tree's: what is new there is kept too. -/
theorem wayN_at2 {a Bt : Nat} (ha : a < 4294967296) (hb : Bt ≤ 32) {w wo w1 : World} {S : Nat → Prop} {tb : Nat} {F : Nat → Nat → Option (List Int)} {B : Nat → Nat → Nat} {V : Nat → Nat → Value} {c : Int} (h : Tr w wo S tb F B V c) (hb1 : Below wo.heap.size wo w1) :
  Calls Try.prog 22 #[.pointer (some ⟨tb, 0, none⟩), .agg #[.int .u32 (a : Int), .int .i64 (Bt : Int)], .bool false] w1 fun e w' => ∃ (A : Option Addr) (cp m : Nat), e = .returned (.slice A (m + 1) cp) ∧ m ≤ Bt ∧ (∀ j, j ≤ m → F j (nk a j) ≠ none) ∧ (m < Bt → F (m + 1) (nk a (m + 1)) = none) ∧ kP.C w' A (m + 1) (wayL B a m) ∧ Below wo.heap.size wo w' ∧ Below w1.heap.size w1 w' := by
 refine (wayN_.calls a Bt ha hb w w1 S tb F B V c (h.below hb1)).mono ?_
 rintro e w' ⟨v, m, rfl, h1, h2, h3, ho, hb2⟩
 obtain ⟨A, cp, rfl, hle, hC⟩ := Kd.R_reads ho
 rw [wayL_len] at hC
 exact ⟨A, cp, m, by rw [wayL_len], h1, h2, h3, hC, below_step hb1 hb2, hb2⟩
theorem way_all {w wr : World} {S : Nat → Prop} {tb : Nat} {F : Nat → Nat → Option (List Int)} {B : Nat → Nat → Nat} {V : Nat → Nat → Value} {c : Int} (h : Tr w wr S tb F B V c) {a Bt : Nat} (hb : Bt ≤ 32) (hf : F Bt (nk a Bt) ≠ none) : ∀ d, d ≤ Bt → F (Bt - d) (nk a (Bt - d)) ≠ none
 | 0, _ => hf
 | d + 1, hd => by
  have h1 := way_all h hb hf d (by omega)
  have e : Bt - d = (Bt - (d + 1)) + 1 := by omega
  rw [e] at h1
  have h2 := h.up _ _ h1
  rwa [← nk_half (by omega)] at h2
/-- The way to a node that is there: its last pointer. -/
theorem way_to {a Bt : Nat} (ha : a < 4294967296) (hb : Bt ≤ 32) {w wo w1 : World} {S : Nat → Prop} {tb : Nat} {F : Nat → Nat → Option (List Int)} {B : Nat → Nat → Nat} {V : Nat → Nat → Value} {c : Int} (h : Tr w wo S tb F B V c) (hf : F Bt (nk a Bt) ≠ none) (hb1 : Below wo.heap.size wo w1) :
  Calls Try.prog 22 #[.pointer (some ⟨tb, 0, none⟩), .agg #[.int .u32 (a : Int), .int .i64 (Bt : Int)], .bool false] w1 fun e w' => ∃ (ad : Addr) (cp : Nat), e = .returned (.slice (some ad) (Bt + 1) cp) ∧ kP.C w' (some ad) (Bt + 1) (wayL B a Bt) ∧ Below wo.heap.size wo w' ∧ Below w1.heap.size w1 w' := by
 refine (wayN_at2 ha hb h hb1).mono ?_
 rintro e w' ⟨A, cp, m, rfl, h1, h2, h3, hC, hb2, hb3⟩
 obtain rfl : m = Bt := by
  rcases Nat.lt_or_eq_of_le h1 with hlt | he
  ·exact absurd (h3 hlt) (by have := way_all h hb hf (Bt - (m + 1)) (by omega); rwa [show Bt - (Bt - (m + 1)) = m + 1 by omega] at this)
  ·exact he
 obtain ⟨ad, e, _⟩ := at_P hC 0 (by omega) (by omega) (g := B 0 (nk a 0)) (List.getElem?_eq_getElem (by rw [wayL_len]; exact Nat.succ_pos _) |>.trans (congrArg some (wayL_get B a (Nat.zero_le _))))
 subst e
 exact ⟨ad, cp, rfl, hC, hb2, hb3⟩
set_option maxHeartbeats 4000000 in
set_option maxRecDepth 100000 in
theorem drop_bad (a : Nat) (b x : Int) (ha : a < 4294967296) (hr : rightB a b = false) (wo : World) (tb : Nat) :
  Calls Try.prog 14 #[.pointer (some ⟨tb, 0, none⟩), .agg #[.int .u32 (a : Int), .int .i64 b], .int .i64 x] wo fun e w' => e = .returned (.int .i64 13) ∧ Below wo.heap.size wo w' := by
 have B0 := Aside0.mk (Below.refl wo.heap.size wo)
 have HRT := Aside0.mk (show cidr_Right.f (a : Int) b = some false from (tright_eq (by omega) (by omega)).trans (congrArg some hr))
 clear ha hr
 go_enter Try.func14, Try.ntmps14
 go_wp2_with (first
  | ((with_reducible refine gate_dst (N := 4) rfl ?_); refine box_event ?hg (N := 4) ?hd (cs := #[.int .u32 (a : Int), .int .i64 b]) (t := 33) ?hr ?_; (case hd => rfl); (case hg => rfl); (case hr => first | (go_simp; done) | (go_simp; rfl)); intro gp hgx wx hbox hb; have PB := Aside0.mk hbox; have B1 := Aside0.mk hb; have z0 : wx.cell? ⟨gp, 0, none⟩ = some (.int .u32 (a : Int)) := (blk_cell hbox 0).trans rfl; have z1 : wx.cell? ⟨gp, 1, none⟩ = some (.int .i64 b) := (blk_cell hbox 1).trans rfl; clear hgx hbox hb)
  | (go_at_call 21; (with_reducible refine (cidr_Right.calls _ _ _ _ HRT.out).mono ?_); rintro e w1 ⟨rfl, hz⟩; have B2 := Aside0.mk (below_step B1.out hz); have PB2 := Aside0.mk (blk_below PB.out hz); clear z0 z1 hz; have z0 : w1.cell? ⟨gp, 0, none⟩ = some (.int .u32 (a : Int)) := (blk_cell PB2.out 0).trans rfl; have z1 : w1.cell? ⟨gp, 1, none⟩ = some (.int .i64 b) := (blk_cell PB2.out 1).trans rfl))
 go_ret
 exact ⟨rfl, by repeat (first | exact B2.out | apply pw_below_drewN | apply below_drew1)⟩
set_option maxHeartbeats 4000000 in
set_option maxRecDepth 100000 in
theorem drop_none1 (a Bt : Nat) (x : Int) (ha : a < 4294967296) (hb : Bt ≤ 32) (hr : a % 2 ^ (32 - Bt) = 0) (w wo : World) (S : Nat → Prop) (tb : Nat) (F : Nat → Nat → Option (List Int)) (B : Nat → Nat → Nat) (V : Nat → Nat → Value) (c : Int) (h : Tr w wo S tb F B V c) (hn : F Bt (nk a Bt) = none) :
  Calls Try.prog 14 #[.pointer (some ⟨tb, 0, none⟩), .agg #[.int .u32 (a : Int), .int .i64 (Bt : Int)], .int .i64 x] wo fun e w' => e = .returned (.int .i64 3) ∧ Below wo.heap.size wo w' := by
 have HT0 := Aside0.mk h
 have A1 := Aside0.mk ha
 have A2 := Aside0.mk hb
 have HRT := Aside0.mk (show cidr_Right.f (a : Int) (Bt : Int) = some true from (tright_eq (by omega) (by omega)).trans (congrArg some (rt_right hb hr)))
 have HN := Aside0.mk hn
 clear h ha hb hr hn
 go_enter Try.func14, Try.ntmps14
 go_wp2_with (first
  | ((with_reducible refine gate_dst (N := 4) rfl ?_); refine box_event ?hg (N := 4) ?hd (cs := #[.int .u32 (a : Int), .int .i64 (Bt : Int)]) (t := 33) ?hr ?_; (case hd => rfl); (case hg => rfl); (case hr => first | (go_simp; done) | (go_simp; rfl)); intro gp hgx wx hbox hb; have PB := Aside0.mk hbox; have B1 := Aside0.mk hb; have z0 : wx.cell? ⟨gp, 0, none⟩ = some (.int .u32 (a : Int)) := (blk_cell hbox 0).trans rfl; have z1 : wx.cell? ⟨gp, 1, none⟩ = some (.int .i64 (Bt : Int)) := (blk_cell hbox 1).trans rfl; clear hgx hbox hb)
  | (go_at_call 21; (with_reducible refine (cidr_Right.calls _ _ _ _ HRT.out).mono ?_); rintro e w1 ⟨rfl, hz⟩; have B2 := Aside0.mk (below_step B1.out hz); have PB2 := Aside0.mk (blk_below PB.out hz); clear z0 z1 hz; have z0 : w1.cell? ⟨gp, 0, none⟩ = some (.int .u32 (a : Int)) := (blk_cell PB2.out 0).trans rfl; have z1 : w1.cell? ⟨gp, 1, none⟩ = some (.int .i64 (Bt : Int)) := (blk_cell PB2.out 1).trans rfl)
  | (go_at_call 22; (with_reducible refine (wayN_at2 A1.out A2.out HT0.out (by repeat (first | exact B2.out | apply pw_below_drewN | apply below_drew1))).mono ?_); rintro e w2 ⟨A0, c0, m, rfl, hm, hF, _, _, hb, hb1⟩; have hlt : m < Bt := (by rcases Nat.lt_or_eq_of_le hm with h | h; exact h; exact absurd HN.out (h ▸ hF m (Nat.le_refl _))); have q1 : decide (m + 1 ≤ Bt) = true := decide_eq_true hlt; have q2 : decide ((m : Int) + 1 ≤ (Bt : Int)) = true := decide_eq_true (by omega); have q3 : (m : Int) + 1 ≤ (Bt : Int) := (by omega); have B3 := Aside0.mk hb; have PB3 := Aside0.mk (blk_below PB2.out (by first | exact hb1 | exact below_step (by repeat (first | exact Below.refl _ _ | apply pw_below_drewN | apply below_drew1)) hb1)); clear z0 z1; have z1 : w2.cell? ⟨gp, 1, none⟩ = some (.int .i64 (Bt : Int)) := (blk_cell PB3.out 1).trans rfl; clear hm hF hb hb1))
 go_ret
 exact ⟨rfl, B3.out⟩
set_option maxHeartbeats 4000000 in
set_option maxRecDepth 100000 in
theorem drop_none2 (a Bt : Nat) (x : Int) (ha : a < 4294967296) (hb : Bt ≤ 32) (hr : a % 2 ^ (32 - Bt) = 0) (w wo : World) (S : Nat → Prop) (tb : Nat) (F : Nat → Nat → Option (List Int)) (B : Nat → Nat → Nat) (V : Nat → Nat → Value) (c : Int) (h : Tr w wo S tb F B V c) (vs : List Int) (hvs : F Bt (nk a Bt) = some vs) (hs : vs.Pairwise (· < ·)) (hl : vs.length ≤ 1000) (hx : x ∉ vs) :
  Calls Try.prog 14 #[.pointer (some ⟨tb, 0, none⟩), .agg #[.int .u32 (a : Int), .int .i64 (Bt : Int)], .int .i64 x] wo fun e w' => e = .returned (.int .i64 3) ∧ Below wo.heap.size wo w' := by
 have HT0 := Aside0.mk h
 have A1 := Aside0.mk ha
 have A2 := Aside0.mk hb
 have HRT := Aside0.mk (show cidr_Right.f (a : Int) (Bt : Int) = some true from (tright_eq (by omega) (by omega)).trans (congrArg some (rt_right hb hr)))
 have HVS := Aside0.mk hvs
 have HNN := Aside0.mk (show F Bt (nk a Bt) ≠ none by rw [hvs]; exact fun e => by cases e)
 obtain ⟨i, hi0, hins, hmem, k, hev⟩ := search_ev hl hs x
 have HEV := Aside0.mk (hev k (Nat.le_refl _))
 rw [show decide (x ∈ vs) = false from decide_eq_false hx] at HEV
 clear h ha hb hr hvs hs hl hx hi0 hins hmem hev
 go_enter Try.func14, Try.ntmps14
 go_wp2_with (first
  | ((with_reducible refine gate_dst (N := 4) rfl ?_); refine box_event ?hg (N := 4) ?hd (cs := #[.int .u32 (a : Int), .int .i64 (Bt : Int)]) (t := 33) ?hr ?_; (case hd => rfl); (case hg => rfl); (case hr => first | (go_simp; done) | (go_simp; rfl)); intro gp hgx wx hbox hb; have PB := Aside0.mk hbox; have B1 := Aside0.mk hb; have z0 : wx.cell? ⟨gp, 0, none⟩ = some (.int .u32 (a : Int)) := (blk_cell hbox 0).trans rfl; have z1 : wx.cell? ⟨gp, 1, none⟩ = some (.int .i64 (Bt : Int)) := (blk_cell hbox 1).trans rfl; clear hgx hbox hb)
  | (go_at_call 21; (with_reducible refine (cidr_Right.calls _ _ _ _ HRT.out).mono ?_); rintro e w1 ⟨rfl, hz⟩; have B2 := Aside0.mk (below_step B1.out hz); have PB2 := Aside0.mk (blk_below PB.out hz); clear z0 z1 hz; have z0 : w1.cell? ⟨gp, 0, none⟩ = some (.int .u32 (a : Int)) := (blk_cell PB2.out 0).trans rfl; have z1 : w1.cell? ⟨gp, 1, none⟩ = some (.int .i64 (Bt : Int)) := (blk_cell PB2.out 1).trans rfl)
  | (go_at_call 22; (with_reducible refine (way_to A1.out A2.out HT0.out HNN.out (by repeat (first | exact B2.out | apply pw_below_drewN | apply below_drew1))).mono ?_); rintro e w2 ⟨ad, c0, rfl, hC, hb, hb1⟩; have q1 : decide (Bt + 1 ≤ Bt) = false := decide_eq_false (by omega); have q2 : decide ((Bt : Int) + 1 ≤ (Bt : Int)) = false := decide_eq_false (by omega); have B3 := Aside0.mk hb; have PB3 := Aside0.mk (blk_below PB2.out (by first | exact hb1 | exact below_step (by repeat (first | exact Below.refl _ _ | apply pw_below_drewN | apply below_drew1)) hb1)); clear z0 z1; have z1 : w2.cell? ⟨gp, 1, none⟩ = some (.int .i64 (Bt : Int)) := (blk_cell PB3.out 1).trans rfl; obtain ⟨ad', e', hx⟩ := at_P hC (Bt : Int) (by omega) (by omega) (g := B Bt (nk a Bt)) (by rw [Int.toNat_natCast]; exact (List.getElem?_eq_getElem (by rw [wayL_len]; exact Nat.lt_succ_self _)).trans (congrArg some (wayL_get B a (Nat.le_refl _)))); cases e'; rw [Int.toNat_natCast] at hx; have HT2 := Aside0.mk (HT0.out.below hb); obtain ⟨A1', c1, hV2, hle, hCV, hz0⟩ := HT2.out.vals HVS.out; have HV2 := Aside0.mk hV2; have HLE := Aside0.mk hle; have HCV := Aside0.mk hCV; have HC := Aside0.mk hC; clear hC hb hb1 hV2 hle hCV)
  | (go_at_call 23; (with_reducible refine (slices_BinarySearch_int_int.calls k A1' c1 vs x (i : Int) _ _ (by exact HCV.out) HLE.out HEV.out).mono ?_); rintro e w3 ⟨rfl, ⟨nd, rfl⟩⟩))
 go_ret
 exact ⟨rfl, by repeat (first | exact B3.out | apply pw_below_drewN | apply below_drew1)⟩


open Go.Proofs.Ytbmibakhpealjaa.TrieP Go.Proofs.Ytbmibakhpealjaa.Facts Go.Proofs.Ytbmibakhpealjaa.Bits
/-- slices.Delete at a node's values, and the store of what comes. -/
theorem Tr.delete_ {w w2 W : World} {S : Nat → Prop} {tb : Nat} {F : Nat → Nat → Option (List Int)} {B : Nat → Nat → Nat} {V : Nat → Nat → Value} {c : Int} (ht : Tr w w2 S tb F B V c) {b n : Nat} {vs : List Int} (hf : F b n = some vs) {A : Option Addr} {cp : Nat} (hV : V b n = .slice A vs.length cp) {i : Nat} (hi : i < vs.length) (hl : vs.length ≤ 1000) (hW : Below w2.heap.size w2 W) :
  Calls Try.prog 30 #[.slice A vs.length cp, .int .i64 (i : Int), .int .i64 ((i : Int) + 1)] W fun e w' => e = .returned (.slice A (vs.length - 1) cp) ∧
   (∀ b' n' vs', F b' n' = some vs' → w'.heap[B b' n']? = some (.cells (ncs F B V c b' n') (nty b') (0, 0))) ∧ Kept W w' S ∧
   Tr w (w'.setCell ⟨B b n, 0, none⟩ (.slice A (vs.length - 1) cp)) (fun k => S k ∨ W.heap.size ≤ k) tb (upd2 F b n (some (vs.take i ++ vs.drop (i + 1)))) B (upd2 V b n (.slice A (vs.length - 1) cp)) c := by
 rw [show (i : Int) + 1 = ((i + 1 : Nat) : Int) by omega]
 have ht' := ht.below hW
 have hrow := ht'.row b n vs hf
 rw [hV] at hrow
 refine (delete_.calls A cp w.heap.size i _ vs W hrow hi (by omega)).mono ?_
 rintro e w' ⟨rfl, hR, hg⟩
 rw [← hV] at hg
 have hk : Kept W w' (fun k => some k = (V b n).ownBlock) := Kept.of_grown hg (Kept.refl W _) (fun k hk => .inl hk.symm)
 have hbl : Below w.heap.size w w' := pw_below_grown ht'.bl _ ht'.bl.size hg (fun k hk => Kd.R_base (ht'.row b n vs hf) k hk)
 refine ⟨rfl, fun b' n' vs' hf' => blk_kept (ht'.nod b' n' vs' hf') hk (Kd.R_ne (ht'.row b n vs hf) (ht'.nod b' n' vs' hf') (nty_ne b')), hk.mono (fun k h => ht.sv b n vs hf k h), ?_⟩
 refine ht'.setVals hf hk hbl (R_tight hR) (fun k hk2 => .inl ?_)
 rw [hV]
 cases A <;> exact hk2


open Go.Proofs.Ytbmibakhpealjaa.TrieP Go.Proofs.Ytbmibakhpealjaa.Facts Go.Proofs.Ytbmibakhpealjaa.Bits
set_option maxHeartbeats 1000000 in
set_option maxRecDepth 100000 in
theorem nil_add (a b x : Int) (wo : World) : Calls Try.prog 8 #[.pointer none, .agg #[.int .u32 a, .int .i64 b], .int .i64 x] wo fun e w' => e = .returned (.int .i64 2) ∧ Below wo.heap.size wo w' := by
 go_enter Try.func8, Try.ntmps8
 go_wp2_with (first
  | ((with_reducible refine gate_dst (N := 4) rfl ?_); refine box_event ?hg (N := 4) ?hd (cs := #[.int .u32 a, .int .i64 b]) (t := 33) ?hr ?_; (case hd => rfl); (case hg => rfl); (case hr => first | (go_simp; done) | (go_simp; rfl)); intro gp hgx wx hbox hb; have B1 := Aside0.mk hb; clear hgx hbox hb))
 go_ret
 exact ⟨rfl, by repeat (first | exact B1.out | apply pw_below_drewN | apply below_drew1)⟩
set_option maxHeartbeats 1000000 in
set_option maxRecDepth 100000 in
theorem nil_drop (a b x : Int) (wo : World) : Calls Try.prog 14 #[.pointer none, .agg #[.int .u32 a, .int .i64 b], .int .i64 x] wo fun e w' => e = .returned (.int .i64 2) ∧ Below wo.heap.size wo w' := by
 go_enter Try.func14, Try.ntmps14
 go_wp2_with (first
  | ((with_reducible refine gate_dst (N := 4) rfl ?_); refine box_event ?hg (N := 4) ?hd (cs := #[.int .u32 a, .int .i64 b]) (t := 33) ?hr ?_; (case hd => rfl); (case hg => rfl); (case hr => first | (go_simp; done) | (go_simp; rfl)); intro gp hgx wx hbox hb; have B1 := Aside0.mk hb; clear hgx hbox hb))
 go_ret
 exact ⟨rfl, by repeat (first | exact B1.out | apply pw_below_drewN | apply below_drew1)⟩
set_option maxHeartbeats 1000000 in
set_option maxRecDepth 100000 in
theorem nil_len (wo : World) : Calls Try.prog 13 #[.pointer none] wo fun e w' => e = .returned (.int .i64 0) ∧ Below wo.heap.size wo w' := by
 go_enter Try.func13, Try.ntmps13
 go_wp2
 go_ret
 exact ⟨rfl, by repeat (first | exact Below.refl _ _ | apply pw_below_drewN | apply below_drew1)⟩
set_option maxHeartbeats 1000000 in
set_option maxRecDepth 100000 in
theorem nil_size (wo : World) : Calls Try.prog 10 #[.pointer none] wo fun e w' => e = .returned (.int .i64 0) ∧ Below wo.heap.size wo w' := by
 go_enter Try.func10, Try.ntmps10
 go_wp2
 go_ret
 exact ⟨rfl, by repeat (first | exact Below.refl _ _ | apply pw_below_drewN | apply below_drew1)⟩
set_option maxHeartbeats 1000000 in
set_option maxRecDepth 100000 in
theorem nil_of (a : Int) (wo : World) : Calls Try.prog 11 #[.pointer none, .int .u32 a] wo fun e w' => e = .returned (.slice none 0 0) ∧ Below wo.heap.size wo w' := by
 go_enter Try.func11, Try.ntmps11
 go_wp2
 go_ret
 exact ⟨rfl, by repeat (first | exact Below.refl _ _ | apply pw_below_drewN | apply below_drew1)⟩
set_option maxHeartbeats 1000000 in
set_option maxRecDepth 100000 in
theorem nil_all (wo : World) : Calls Try.prog 9 #[.pointer none] wo fun e w' => e = .returned (.slice none 0 0) ∧ Below wo.heap.size wo w' := by
 go_enter Try.func9, Try.ntmps9
 go_wp2
 go_ret
 exact ⟨rfl, by repeat (first | exact Below.refl _ _ | apply pw_below_drewN | apply below_drew1)⟩
set_option maxHeartbeats 1000000 in
set_option maxRecDepth 100000 in
theorem nil_meeting (a b : Int) (wo : World) : Calls Try.prog 12 #[.pointer none, .agg #[.int .u32 a, .int .i64 b]] wo fun e w' => e = .returned (.slice none 0 0) ∧ Below wo.heap.size wo w' := by
 go_enter Try.func12, Try.ntmps12
 go_wp2_with (first
  | ((with_reducible refine gate_dst (N := 3) rfl ?_); refine box_event ?hg (N := 3) ?hd (cs := #[.int .u32 a, .int .i64 b]) (t := 33) ?hr ?_; (case hd => rfl); (case hg => rfl); (case hr => first | (go_simp; done) | (go_simp; rfl)); intro gp hgx wx hbox hb; have B1 := Aside0.mk hb; clear hgx hbox hb))
 go_ret
 exact ⟨rfl, by repeat (first | exact B1.out | apply pw_below_drewN | apply below_drew1)⟩


open Go.Proofs.Ytbmibakhpealjaa.TrieP Go.Proofs.Ytbmibakhpealjaa.Facts Go.Proofs.Ytbmibakhpealjaa.Bits
theorem way_to2 {a Bt : Nat} (ha : a < 4294967296) (hb : Bt ≤ 32) {w wo w1 : World} {S : Nat → Prop} {tb : Nat} {F : Nat → Nat → Option (List Int)} {B : Nat → Nat → Nat} {V : Nat → Nat → Value} {c : Int} (h : Tr w wo S tb F B V c) (hf : F Bt (nk a Bt) ≠ none) (hb1 : Below wo.heap.size wo w1) :
  Calls Try.prog 22 #[.pointer (some ⟨tb, 0, none⟩), .agg #[.int .u32 (a : Int), .int .i64 (Bt : Int)], .bool false] w1 fun e w' => ∃ (ad : Addr) (cp : Nat), e = .returned (.slice (some ad) (Bt + 1) cp) ∧ kP.R 25 w' w1.heap.size (fun k => w1.heap.size ≤ k) (.slice (some ad) (Bt + 1) cp) (wayL B a Bt) ∧ Below wo.heap.size wo w' ∧ Below w1.heap.size w1 w' := by
 refine (wayN_.calls a Bt ha hb w w1 S tb F B V c (h.below hb1)).mono ?_
 rintro e w' ⟨v, m, rfl, h1, h2, h3, ho, hb2⟩
 obtain rfl : m = Bt := by
  rcases Nat.lt_or_eq_of_le h1 with hlt | he
  ·exact absurd (h3 hlt) (by have := way_all h hb hf (Bt - (m + 1)) (by omega); rwa [show Bt - (Bt - (m + 1)) = m + 1 by omega] at this)
  ·exact he
 obtain ⟨ad, cp, rfl⟩ := Kd.R_slice1 ho (by rw [wayL_len]; omega)
 rw [wayL_len] at ho ⊢
 exact ⟨ad, cp, rfl, ho, below_step hb1 hb2, hb2⟩
/-- '==' of a pair of pointers and two nils. -/
theorem eqP (d : Nat) (w : World) (x : Option Addr) : (Op.equalIn (d + 1) 25 (.pointer x) (.pointer none)).run Try.prog w = .ok x.isNone w := by
 cases x <;> simp [Op.equalIn, run_underlying Try.underlying25]
theorem eqA26 (d : Nat) (w : World) (x y : Option Addr) : (Op.equalIn (d + 2) 26 (.agg #[.pointer x, .pointer y]) (.agg #[.pointer none, .pointer none])).run Try.prog w = .ok (x.isNone && y.isNone) w := by
 have hp : ∀ (xs : Array Value) (i : Nat) (v : Value), xs[i]? = some v → (part 25 xs i).run Try.prog w = .ok v w := fun xs i v h => by
  have : xs.toList[i]? = some v := by simpa using h
  simp [part, isAgg, run_underlying Try.underlying25, h, Result.andThen]
 have hz : (sizeOf 25).run Try.prog w = .ok 1 w := by simp [sizeOf, typeInfo, go_sem]; kernel_rfl
 rw [Op.equalIn]
 simp only [Sem.run_bind, run_underlying Try.underlying26, Result.andThen_ok, hz]
 cases x <;> cases y <;> simp [Std.Legacy.Range.forIn_eq_forIn_range', List.range', hp, eqP, Result.andThen]
theorem G_at {l : List En} {e : En} {i j : Nat} (hel : e ∈ l) (hj : j ≤ i) (hi : i ≤ e.b) : ∃ vs, G l e i j (nk e.a j) = some vs := by
 unfold G
 rw [if_neg (by omega)]
 split
 ·exact ⟨_, rfl⟩
 ·exact ⟨_, X_get (X_way hel (by omega))⟩
theorem G_len {l : List En} {e : En} (hl : l.length ≤ 1000) (i b n : Nat) (vs : List Int) (h : G l e i b n = some vs) : vs.length ≤ 1000 := by
 unfold G at h
 split at h
 ·cases h
 ·split at h
  ·rw [← Option.some.inj h]
   exact Nat.le_trans (List.length_filter_le _ _) (by rw [List.length_map]; exact Nat.le_trans (List.length_filter_le _ _) hl)
  ·exact X_len hl _ _ _ h
def drop_.T17 : Bool × List (List Nat × List Nat) := (true, [([], []), ([], []), ([1], [1]), ([0, 2], [0, 2]), ([3], [3]), ([], []), ([5], [5]), ([], []), ([7], [7]), ([6, 8], [6, 8]), ([4], [4]), ([10], [10]), ([11, 9, 0, 1, 2, 3, 4, 5, 6, 7, 8, 9], [9, 11]), ([12, 9, 0, 1, 2, 3, 4, 5, 6, 7, 8, 9], [12])])
def drop_.B17 : List Nat := [0, 0, 2, 7, 15, 0, 32, 0, 128, 480, 31, 1055, 4095, 8191]
theorem drop_.tab17 : rtab .any (opsOf Try.f14 17) = drop_.T17 := by kernel_rfl
theorem drop_.bits17 : waitsOk drop_.T17.2 drop_.B17 = true := by kernel_rfl
def DropOut (w wo : World) (S : Nat → Prop) (tb : Nat) (F : Nat → Nat → Option (List Int)) (B : Nat → Nat → Nat) (c : Int) (e : Ending) (w' : World) : Prop := ∃ V2 : Nat → Nat → Value, e = .returned (.int .i64 0) ∧ Tr w w' (fun k => S k ∨ wo.heap.size ≤ k) tb F B V2 c ∧ Kept wo w' S
theorem row_at {w : World} {base : Nat} {ok : Nat → Prop} {ad : Addr} {a Bt c0 m : Nat} {B : Nat → Nat → Nat} (h : kP.R 25 w base ok (.slice (some ad) (Bt + 1) c0) (wayL B a Bt)) (hm : m ≤ Bt) : w.cell? (ad.add m) = some (.pointer (some ⟨B m (nk a m), 0, none⟩)) := by
 have hC := (Kd.R_reads' h).2.2
 rw [wayL_len] at hC
 obtain ⟨ad', e', hx⟩ := at_P hC (m : Int) (by omega) (by omega) (g := B m (nk a m)) (by rw [Int.toNat_natCast]; exact (List.getElem?_eq_getElem (by rw [wayL_len]; omega)).trans (congrArg some (wayL_get B a hm)))
 cases e'
 rw [Int.toNat_natCast] at hx
 exact hx
attribute [local go_sem high] eqA26
set_option maxHeartbeats 4000000 in
set_option maxRecDepth 100000 in
theorem drop_found (a Bt : Nat) (x : Int) (ha : a < 4294967296) (hb : Bt ≤ 32) (hr : a % 2 ^ (32 - Bt) = 0) (w wo : World) (S : Nat → Prop) (tb : Nat) (l : List En) (B : Nat → Nat → Nat) (V : Nat → Nat → Value) (c : Int) (h : Tr w wo S tb (X l) B V c) (hsr : Srt l) (hrt : Rts l) (hll : l.length ≤ 1000) (he : (⟨a, Bt, x⟩ : En) ∈ l) (hc0 : 0 ≤ c) (hc1 : c ≤ 1000000) :
  Calls Try.prog 14 #[.pointer (some ⟨tb, 0, none⟩), .agg #[.int .u32 (a : Int), .int .i64 (Bt : Int)], .int .i64 x] wo (DropOut w wo S tb (X (del ⟨a, Bt, x⟩ l)) B (c - 1)) := by
 obtain ⟨vs, hvs⟩ : ∃ vs, X l Bt (nk a Bt) = some vs := ⟨_, X_get (X_way (e := ⟨a, Bt, x⟩) he (Nat.le_refl _))⟩
 have hvv := X_some hvs
 have hs : vs.Pairwise (· < ·) := by rw [hvv]; exact vals_srt hsr hrt _ _
 have hl : vs.length ≤ 1000 := X_len hll _ _ _ hvs
 have hx : x ∈ vs := by rw [hvv]; exact (mem_vals hrt (hrt _ he)).2 he
 have HT0 := Aside0.mk h
 have A1 := Aside0.mk ha
 have A2 := Aside0.mk hb
 have HRT := Aside0.mk (show cidr_Right.f (a : Int) (Bt : Int) = some true from (tright_eq (by omega) (by omega)).trans (congrArg some (rt_right hb hr)))
 have HVS := Aside0.mk hvs
 have HNN := Aside0.mk (show X l Bt (nk a Bt) ≠ none by rw [hvs]; exact fun e => by cases e)
 have HL := Aside0.mk hl
 have HLL := Aside0.mk hll
 have RTS := Aside0.mk hrt
 have RTE := Aside0.mk (hrt _ he)
 have HE := Aside0.mk he
 have HVV := Aside0.mk hvv
 obtain ⟨i, hi0, hins, hmem, k, hev⟩ := search_ev hl hs x
 obtain ⟨hil, hix⟩ := hmem hx
 have HIL := Aside0.mk hil
 have HDEL := Aside0.mk (del_at hs hil hix)
 have HEV := Aside0.mk (hev k (Nat.le_refl _))
 rw [show decide (x ∈ vs) = true from decide_eq_true hx] at HEV
 have hw1 : wrap64 ((i : Int) + 1) = ((i + 1 : Nat) : Int) := wS (by omega)
 obtain ⟨cc, hcc⟩ : ∃ cc : Int, cc = c - 1 := ⟨_, rfl⟩
 have HCC := Aside0.mk hcc
 have hcs : wrap64 (c - 1) = cc := (wrap64_id _ (by omega) (by omega)).trans hcc.symm
 have HTB := Aside0.mk (show S tb ∨ wo.heap.size ≤ tb from .inl h.rootBlk.choose_spec.2.2.1)
 clear h ha hb hr hvs hs hl hx hi0 hins hev hix hil hc0 hc1 hsr hrt hll he hvv hcc
 go_enter Try.func14, Try.ntmps14
 go_wp2_with (first
  | ((with_reducible refine gate_dst (N := 4) rfl ?_); refine box_event ?hg (N := 4) ?hd (cs := #[.int .u32 (a : Int), .int .i64 (Bt : Int)]) (t := 33) ?hr ?_; (case hd => rfl); (case hg => rfl); (case hr => first | (go_simp; done) | (go_simp; rfl)); intro gp hgx wx hbox hb; have PB := Aside0.mk hbox; have B1 := Aside0.mk hb; have z0 : wx.cell? ⟨gp, 0, none⟩ = some (.int .u32 (a : Int)) := (blk_cell hbox 0).trans rfl; have z1 : wx.cell? ⟨gp, 1, none⟩ = some (.int .i64 (Bt : Int)) := (blk_cell hbox 1).trans rfl; have GP := Aside0.mk (Nat.le_of_eq hgx.symm); clear hgx hbox hb)
  | (go_at_call 21; (with_reducible refine (cidr_Right.calls _ _ _ _ HRT.out).mono ?_); rintro e w1 ⟨rfl, hz⟩; have B2 := Aside0.mk (below_step B1.out hz); have PB2 := Aside0.mk (blk_below PB.out hz); clear z0 z1 hz; have z0 : w1.cell? ⟨gp, 0, none⟩ = some (.int .u32 (a : Int)) := (blk_cell PB2.out 0).trans rfl; have z1 : w1.cell? ⟨gp, 1, none⟩ = some (.int .i64 (Bt : Int)) := (blk_cell PB2.out 1).trans rfl)
  | (go_at_call 22; (with_reducible refine (way_to2 A1.out A2.out HT0.out HNN.out (by repeat (first | exact B2.out | apply pw_below_drewN | apply below_drew1))).mono ?_); rintro e w2 ⟨ad, c0, rfl, hR, hb, hb1⟩; have hC := (Kd.R_reads' hR).2.2; rw [wayL_len] at hC; have q1 : decide (Bt + 1 ≤ Bt) = false := decide_eq_false (by omega); have q2 : decide ((Bt : Int) + 1 ≤ (Bt : Int)) = false := decide_eq_false (by omega); have B3 := Aside0.mk hb; have PB3 := Aside0.mk (blk_below PB2.out (by first | exact hb1 | exact below_step (by repeat (first | exact Below.refl _ _ | apply pw_below_drewN | apply below_drew1)) hb1)); clear z0 z1; have z1 : w2.cell? ⟨gp, 1, none⟩ = some (.int .i64 (Bt : Int)) := (blk_cell PB3.out 1).trans rfl; obtain ⟨ad', e', hx⟩ := at_P hC (Bt : Int) (by omega) (by omega) (g := B Bt (nk a Bt)) (by rw [Int.toNat_natCast]; exact (List.getElem?_eq_getElem (by rw [wayL_len]; exact Nat.lt_succ_self _)).trans (congrArg some (wayL_get B a (Nat.le_refl _)))); cases e'; rw [Int.toNat_natCast] at hx; have HT2 := Aside0.mk (HT0.out.bound.below hb); obtain ⟨A1', c1, hV2, hle, hCV, hz0⟩ := HT2.out.vals HVS.out; have HV2 := Aside0.mk hV2; have HLE := Aside0.mk hle; have HCV := Aside0.mk hCV; have HRW := Aside0.mk hR; clear hC hR hb hb1 hV2 hle hCV)
  | (go_at_call 23; (with_reducible refine (slices_BinarySearch_int_int.calls k A1' c1 vs x (i : Int) _ _ (by exact HCV.out) HLE.out HEV.out).mono ?_); rintro e w3 ⟨rfl, ⟨nd, rfl⟩⟩)
  | (go_at_call 30; (with_reducible refine (HT2.out.delete_ HVS.out HV2.out HIL.out HL.out (by repeat (first | exact Below.refl _ _ | apply pw_below_drewN | apply below_drew1))).mono ?_); rintro e w4 ⟨rfl, hn4, hk4, ht4⟩; have N4 := Aside0.mk hn4; have SMON := Aside0.mk (show ∀ k, ((S k ∧ k < wo.heap.size) ∨ (w2.drewN nd).heap.size ≤ k) → (S k ∨ wo.heap.size ≤ k) from fun k hk => hk.elim (fun hk => .inl hk.1) (fun hk => .inr (Nat.le_trans B3.out.size hk))); have K4 := Aside0.mk ((Kept.of_below (below_step B3.out (pw_below_drewN (Below.refl _ _) nd)) S).then_ hk4 (fun k hk => .inl hk.1)); have T4 := Aside0.mk ht4; have PB4 := Aside0.mk (blk_kept PB3.out hk4 (fun hS => absurd hS.2 (by have := GP.out; omega))); have R4 := Aside0.mk (Kd.R_kept (Kd.R_below HRW.out (pw_below_drewN (Below.refl _ _) nd)) hk4 (fun k hk hS => absurd hS.2 (by have := B2.out.size; omega))); clear hn4 hk4 ht4)
  | ((with_reducible refine gate_ (.store 24 (.tmp 53) (.tmp 51)) rfl ?_); refine Hand.wpList_store_one rfl rfl 24 (.tmp 53) (.tmp 51) rfl (.slice A1' (vs.length - 1) c1) rfl rfl (N4.out _ _ _ HVS.out) rfl size24 (Nat.le_trans (by decide) (ncs_size _ _ _ _ _ _)) rfl (fun w6 hw6 => ?_); have T6 := Aside0.mk (show Tr w w6 _ tb _ _ _ c by rw [hw6]; exact T4.out); have K6 := Aside0.mk (show Kept wo w6 S by rw [hw6]; exact K4.out.setCell (p := ⟨B Bt (nk a Bt), 0, none⟩) (.inl (HT0.out.sb _ _ _ HVS.out).1) _); have PB6 := Aside0.mk (show w6.heap[gp]? = some (Obj.cells #[.int .u32 (a : Int), .int .i64 (Bt : Int)] 33 (0, 0)) by rw [hw6]; exact blk_far (p := ⟨B Bt (nk a Bt), 0, none⟩) PB4.out (blk_ne PB4.out (N4.out _ _ _ HVS.out) (ntyB _)) _); have R6 := Aside0.mk (show kP.R 25 w6 w1.heap.size (fun k => w1.heap.size ≤ k) (.slice (some ad) (Bt + 1) c0) (wayL B a Bt) by rw [hw6]; exact Kd.R_set R4.out (N4.out _ _ _ HVS.out) (fun q hq => by have h25 : q = 25 := (by simpa [kP, Kd.scalar] using hq); rw [h25]; exact ntyP _) 0 _); clear hw6 hz0 hx; have hcnt := T6.out.cnt)
  | ((with_reducible refine gate_ (.store 3 (.tmp 60) (.tmp 58)) rfl ?_); obtain ⟨cs, hcs1, hcs2, hcs3⟩ := T6.out.rootBlk; refine Hand.wpList_store_one rfl rfl 3 (.tmp 60) (.tmp 58) rfl (.int .i64 cc) rfl (by first | rfl | exact congrArg (Value.int .i64) hcs) hcs1 rfl size3 hcs2 rfl (fun w7 hw7 => ?_); have T7 := Aside0.mk (show Tr w w7 _ tb _ _ _ cc by rw [hw7]; exact T6.out.setCnt cc); have K7 := Aside0.mk (show Kept wo w7 S by rw [hw7]; exact K6.out.setCell (p := ⟨tb, 3, none⟩) HTB.out _); have PB7 := Aside0.mk (show w7.heap[gp]? = some (Obj.cells #[.int .u32 (a : Int), .int .i64 (Bt : Int)] 33 (0, 0)) by rw [hw7]; exact blk_far (p := ⟨tb, 3, none⟩) PB6.out (blk_ne PB6.out hcs1 (by decide)) _); clear z1; have z1 : w7.cell? ⟨gp, 1, none⟩ = some (.int .i64 (Bt : Int)) := (blk_cell PB7.out 1).trans rfl; have R7 := Aside0.mk (show kP.R 25 w7 w1.heap.size (fun k => w1.heap.size ≤ k) (.slice (some ad) (Bt + 1) c0) (wayL B a Bt) by rw [hw7]; exact Kd.R_set R6.out hcs1 (fun q hq => by have h25 : q = 25 := (by simpa [kP, Kd.scalar] using hq); rw [h25]; decide) 3 _); clear hw7 hcnt hcs1 hcs2 hcs3))
 clear hmem q1 q2 hw1 hcs PB PB2 PB3 PB4 PB6 R4 R6 T4 T6 N4 K4 K6 HT2
 have TG := Aside0.mk (show Tr w w7 (fun k => (S k ∧ k < wo.heap.size) ∨ (w2.drewN nd).heap.size ≤ k) tb (G l ⟨a, Bt, x⟩ Bt) B (upd2 V Bt (nk a Bt) (.slice A1' (vs.length - 1) c1)) cc by
  have h7 := T7.out
  rw [← HDEL.out] at h7
  rw [show G l ⟨a, Bt, x⟩ Bt = upd2 (X l) Bt (nk a Bt) (some (vs.filter (fun y => decide (y ≠ x)))) from by funext b n; rw [G_start l ⟨a, Bt, x⟩, HVV.out]; unfold upd2; split <;> first | rfl | (rename_i hh; obtain ⟨rfl, rfl⟩ := hh; rfl)]
  exact h7)
 clear T7
 go_loopg [11] Bt (fun kq v11 wl => ∃ (iq : Nat) (ji : Int) (V9 : Nat → Nat → Value), iq = kq ∧ iq ≤ Bt ∧ v11 = .int .i64 ji ∧ Aside0 (ji = (iq : Int)) ∧ Aside0 (Gone l ⟨a, Bt, x⟩ iq) ∧ Aside0 (Tr w wl (fun k => (S k ∧ k < wo.heap.size) ∨ (w2.drewN nd).heap.size ≤ k) tb (G l ⟨a, Bt, x⟩ iq) B V9 cc) ∧ Aside0 (wl.heap[gp]? = some (.cells #[.int .u32 (a : Int), .int .i64 (Bt : Int)] 33 (0, 0))) ∧ Aside0 (kP.R 25 wl w1.heap.size (fun k => w1.heap.size ≤ k) (.slice (some ad) (Bt + 1) c0) (wayL B a Bt)) ∧ Aside0 (Kept wo wl S))
 case atStart => exact ⟨Bt, (Bt : Int), _, rfl, Nat.le_refl _, rfl, ⟨rfl⟩, ⟨gone_start l ⟨a, Bt, x⟩⟩, TG, PB7, R7, K7⟩
 case round =>
  clear TG PB7 R7 K7 z1
  obtain ⟨iq, ji, V9, hi, hib, rfl, HJ, GN, TL, PL, RL, KL⟩ := hrel
  have HI := Aside0.mk hi
  have HIB := Aside0.mk hib
  clear hi hib
  cases iq with
  | zero =>
   have hcn : decide (0 < ji) = false := decide_eq_false (by have := HJ.out; omega)
   go_wp2
   go_ret
   refine ⟨V9, rfl, ?_, KL.out⟩
   have hd := G_done RTS.out RTE.out HE.out (i := 0) (by have := HIB.out; omega) GN.out (.inl rfl)
   have ht := TL.out.mono (T := fun k => S k ∨ wo.heap.size ≤ k) (fun k hk => SMON.out k hk)
   rw [show G l ⟨a, Bt, x⟩ 0 = X (del ⟨a, Bt, x⟩ l) from by funext b n; exact hd b n] at ht
   rw [HCC.out] at ht
   exact ht
  | succ m =>
   have hcn : decide (0 < ji) = true := decide_eq_true (by have := HJ.out; omega)
   have p : 0 ≤ ji := by have := HJ.out; omega
   have q : ji < (Bt : Int) + 1 := by have := HJ.out; have := HIB.out; omega
   obtain ⟨vi, hgv⟩ := G_at (i := m + 1) (j := m + 1) HE.out (Nat.le_refl _) HIB.out
   have GV0 := Aside0.mk hgv
   obtain ⟨A9, c9, hV9, hle9, hCV9, hz9⟩ := TL.out.vals hgv
   have hrow := row_at RL.out HIB.out
   have hrow2 : wr.cell? (ad.add ji.toNat) = some (.pointer (some ⟨B (m + 1) (nk a (m + 1)), 0, none⟩)) := by rw [HJ.out, Int.toNat_natCast]; exact hrow
   clear hgv hV9 hle9 hCV9
   have p := eq_true p
   have q := eq_true q
   cases vi with
   | cons y ys =>
    have hle0 : decide ((List.length (y :: ys) : Int) = 0) = false := decide_eq_false (by rw [List.length_cons]; omega)
    have hle1 : ((List.length (y :: ys) : Int) == 0) = false := beq_eq_false_iff_ne.2 (by rw [List.length_cons]; omega)
    go_wp2
    go_ret
    refine ⟨V9, rfl, ?_, KL.out⟩
    have hd := G_done RTS.out RTE.out HE.out (i := (m + 1)) (by have := HIB.out; omega) GN.out (.inr (.inl ⟨y, ys, GV0.out⟩))
    have ht := TL.out.mono (T := fun k => S k ∨ wo.heap.size ≤ k) (fun k hk => SMON.out k hk)
    rw [show G l ⟨a, Bt, x⟩ (m + 1) = X (del ⟨a, Bt, x⟩ l) from by funext b n; exact hd b n] at ht
    rw [HCC.out] at ht
    exact ht
   | nil =>
    have hle0 : decide ((List.length ([] : List Int) : Int) = 0) = true := rfl
    have hle1 : ((List.length ([] : List Int) : Int) == 0) = true := rfl
    have hc1 := TL.out.c1 GV0.out
    have hc2 := TL.out.c2 GV0.out
    cases hk0 : G l ⟨a, Bt, x⟩ (m + 1) (m + 1 + 1) (2 * nk a (m + 1)) with
    | some v0 =>
     rw [TL.out.kidS hk0] at hc1
     have K0 := Aside0.mk hk0
     clear hk0
     obtain ⟨y2, hy2⟩ : ∃ y2, kid (G l ⟨a, Bt, x⟩ (m + 1)) B (m + 1 + 1) (2 * nk a (m + 1) + 1) = .pointer y2 := ⟨_, rfl⟩
     rw [hy2] at hc2
     clear hy2
     go_wp2
     go_ret
     refine ⟨V9, rfl, ?_, KL.out⟩
     have hd := G_done RTS.out RTE.out HE.out (i := (m + 1)) (by have := HIB.out; omega) GN.out (.inr (.inr ⟨2 * nk a (m + 1), by show 2 * nk a (m + 1) / 2 = nk a (m + 1); omega, by rw [K0.out]; exact fun e => by cases e⟩))
     have ht := TL.out.mono (T := fun k => S k ∨ wo.heap.size ≤ k) (fun k hk => SMON.out k hk)
     rw [show G l ⟨a, Bt, x⟩ (m + 1) = X (del ⟨a, Bt, x⟩ l) from by funext b n; exact hd b n] at ht
     rw [HCC.out] at ht
     exact ht
    | none =>
     rw [TL.out.kidN hk0] at hc1
     have K0 := Aside0.mk hk0
     clear hk0
     cases hk1 : G l ⟨a, Bt, x⟩ (m + 1) (m + 1 + 1) (2 * nk a (m + 1) + 1) with
     | some v0 =>
      rw [TL.out.kidS hk1] at hc2
      have K1 := Aside0.mk hk1
      clear hk1
      go_wp2
      go_ret
      refine ⟨V9, rfl, ?_, KL.out⟩
      have hd := G_done RTS.out RTE.out HE.out (i := (m + 1)) (by have := HIB.out; omega) GN.out (.inr (.inr ⟨2 * nk a (m + 1) + 1, by show (2 * nk a (m + 1) + 1) / 2 = nk a (m + 1); omega, by rw [K1.out]; exact fun e => by cases e⟩))
      have ht := TL.out.mono (T := fun k => S k ∨ wo.heap.size ≤ k) (fun k hk => SMON.out k hk)
      rw [show G l ⟨a, Bt, x⟩ (m + 1) = X (del ⟨a, Bt, x⟩ l) from by funext b n; exact hd b n] at ht
      rw [HCC.out] at ht
      exact ht
     | none =>
      rw [TL.out.kidN hk1] at hc2
      have K1 := Aside0.mk hk1
      clear hk1
      go_wp2
      obtain ⟨mi, hmi⟩ : ∃ mi : Int, mi = (m : Int) := ⟨_, rfl⟩
      have HMI := Aside0.mk hmi
      have hw1 : wrap64 (ji - 1) = mi := by have := HJ.out; have := HIB.out; have := A2.out; rw [wrap64_id _ (by omega) (by omega)]; omega
      have hw2 : IntKind.i64.wrap (ji - 1) = mi := (i64_w _).trans hw1
      have p2 : 0 ≤ mi := by omega
      have q2 : mi < (Bt : Int) + 1 := by have := HIB.out; omega
      have p2 := eq_true p2
      have q2 := eq_true q2
      obtain ⟨vm, hgm⟩ := G_at (i := m + 1) (j := m) HE.out (Nat.le_succ m) HIB.out
      have FM := Aside0.mk hgm
      have hbit := bit_f A1.out (show m < 32 by have := HIB.out; have := A2.out; omega)
      rw [← hmi] at hbit
      have hbc := bit_cases a m (by have := HIB.out; have := A2.out; omega)
      clear hgm hmi hc1 hc2 hz9 hrow hrow2 p q hle0 hle1 hcn
      rcases hbc with ⟨hnk, hm⟩ | ⟨hnk, hm⟩
      ·rw [hm] at hbit
       have HNK := Aside0.mk hnk
       have HBIT := Aside0.mk hbit
       clear hnk hm hbit
       have TD := Aside0.mk (TL.out.below (below_drew1 (Below.refl _ _)))
       have PD := Aside0.mk (blk_drew PL.out)
       have RD := Aside0.mk (Kd.R_below RL.out (below_drew1 (Below.refl _ _)))
       have KD := Aside0.mk (KL.out.below (below_drew1 (Below.refl _ _)))
       go_wp2
       clear TL PL RL KL
       have hq1 : wr.drew.cell? ⟨gp, 0, none⟩ = some (.int .u32 (a : Int)) := (blk_cell PD.out 0).trans rfl
       have hq2 : wr.drew.cell? (ad.add mi.toNat) = some (.pointer (some ⟨B m (nk a m), 0, none⟩)) := (by rw [HMI.out, Int.toNat_natCast]; exact row_at RD.out (by have := HIB.out; omega))
       refine start_ (n := 14) (S := fun w' => w'.cell? ⟨gp, 0, none⟩ = some (.int .u32 (a : Int)) ∧ w'.cell? (ad.add mi.toNat) = some (.pointer (some ⟨B m (nk a m), 0, none⟩))) (ds := []) #[false, false, false, false, false, false, false, false, false, false, false, false, false, false] (by kernel_rfl) rfl rfl ⟨hq1, hq2⟩ (fun hHeld => ?_)
       refine with_tabW drop_.tab17 drop_.bits17 (fun HT_ HW_ => ?_)
       clear hq1 hq2
       generalize wr.drew = wd at TD PD RD KD hHeld ⊢
       refine pure_ (i := 0) (N := some 89) (v := ?_) (a' := ?_) #[true, false, false, false, false, false, false, false, false, false, false, false, false, false] rfl rfl (any_of HT_.out (by kernel_rfl)) (fun _ _ _ h => h) (Or.inl ⟨by rfl, ?_⟩) ?_ ?_
       rotate_left
       ·intro w'
        go_simp
        with_reducible rfl
       rotate_left
       ·simp only [Act.put, List.setIfInBounds_toArray, List.set_cons_zero, List.set_cons_succ, i64_w, i32_w]
        rfl
       refine pure_ (i := 1) (N := some 90) (v := ?_) (a' := ?_) #[true, true, false, false, false, false, false, false, false, false, false, false, false, false] rfl rfl (any_of HT_.out (by kernel_rfl)) (fun _ _ _ h => h) (Or.inl ⟨by rfl, ?_⟩) ?_ ?_
       rotate_left
       ·intro w'
        go_simp
        with_reducible rfl
       rotate_left
       ·simp only [Act.put, List.setIfInBounds_toArray, List.set_cons_zero, List.set_cons_succ, i64_w, i32_w]
        rfl
       refine pure_ (i := 2) (N := some 91) (v := ?_) (a' := ?_) #[true, true, true, false, false, false, false, false, false, false, false, false, false, false] rfl rfl (any_of HT_.out (by kernel_rfl)) (fun _ _ _ h => h) (Or.inl ⟨by rfl, ?_⟩) ?_ ?_
       rotate_left
       ·intro w'
        go_simp
        with_reducible rfl
       rotate_left
       ·simp only [Act.put, List.setIfInBounds_toArray, List.set_cons_zero, List.set_cons_succ, i64_w, i32_w]
        rfl
       refine pure_ (i := 3) (N := some 92) (v := ?_) (a' := ?_) #[true, true, true, true, false, false, false, false, false, false, false, false, false, false] rfl rfl (any_of HT_.out (by kernel_rfl)) (fun _ _ _ h => h) (Or.inl ⟨by rfl, ?_⟩) ?_ ?_
       rotate_left
       ·intro w'
        go_simp
        with_reducible rfl
       rotate_left
       ·simp only [Act.put, List.setIfInBounds_toArray, List.set_cons_zero, List.set_cons_succ, i64_w, i32_w]
        rfl
       refine pure_ (i := 5) (N := some 94) (v := ?_) (a' := ?_) #[true, true, true, true, false, true, false, false, false, false, false, false, false, false] rfl rfl (any_of HT_.out (by kernel_rfl)) (fun _ _ _ h => h) (Or.inl ⟨by rfl, ?_⟩) ?_ ?_
       rotate_left
       ·intro w'
        go_simp
        with_reducible rfl
       rotate_left
       ·simp only [Act.put, List.setIfInBounds_toArray, List.set_cons_zero, List.set_cons_succ, i64_w, i32_w]
        rfl
       refine pure_ (i := 7) (N := some 96) (v := ?_) (a' := ?_) #[true, true, true, true, false, true, false, true, false, false, false, false, false, false] rfl rfl (any_of HT_.out (by kernel_rfl)) (fun _ _ _ h => h) (Or.inl ⟨by rfl, ?_⟩) ?_ ?_
       rotate_left
       ·intro w'
        go_simp
        with_reducible rfl
       rotate_left
       ·simp only [Act.put, List.setIfInBounds_toArray, List.set_cons_zero, List.set_cons_succ, i64_w, i32_w]
        rfl
       refine pure_ (i := 8) (N := some 97) (v := ?_) (a' := ?_) #[true, true, true, true, false, true, false, true, true, false, false, false, false, false] rfl rfl (any_of HT_.out (by kernel_rfl)) (fun _ _ _ h => h) (Or.inl ⟨by rfl, ?_⟩) ?_ ?_
       rotate_left
       ·intro w'
        go_simp
        with_reducible rfl
       rotate_left
       ·simp only [Act.put, List.setIfInBounds_toArray, List.set_cons_zero, List.set_cons_succ, i64_w, i32_w]
        rfl
       refine take_ (i := 4) (N := some 93) (v := ?_) (a' := ?_) #[true, true, true, true, true, true, false, true, true, false, false, false, false, false] rfl rfl (take_ofW HT_.out HW_.out (by kernel_rfl)) (fun _ _ _ h => h) (Or.inl ⟨by rfl, ?_⟩) hHeld ?_ ?_
       rotate_left
       ·rintro w' ⟨s0, s1⟩
        go_simp
        with_reducible rfl
       rotate_left
       ·simp only [Act.put, List.setIfInBounds_toArray, List.set_cons_zero, List.set_cons_succ, i64_w, i32_w]
        rfl
       refine pure_ (i := 10) (N := some 99) (v := ?_) (a' := ?_) #[true, true, true, true, true, true, false, true, true, false, true, false, false, false] rfl rfl (any_of HT_.out (by kernel_rfl)) (fun _ _ _ h => h) (Or.inl ⟨by rfl, ?_⟩) ?_ ?_
       rotate_left
       ·intro w'
        go_simp
        with_reducible rfl
       rotate_left
       ·simp only [Act.put, List.setIfInBounds_toArray, List.set_cons_zero, List.set_cons_succ, i64_w, i32_w]
        rfl
       refine pure_ (i := 11) (N := some 100) (v := ?_) (a' := ?_) #[true, true, true, true, true, true, false, true, true, false, true, true, false, false] rfl rfl (any_of HT_.out (by kernel_rfl)) (fun _ _ _ h => h) (Or.inl ⟨by rfl, ?_⟩) ?_ ?_
       rotate_left
       ·intro w'
        go_simp
        with_reducible rfl
       rotate_left
       ·simp only [Act.put, List.setIfInBounds_toArray, List.set_cons_zero, List.set_cons_succ, i64_w, i32_w]
        rfl
       refine take_ (i := 6) (N := some 95) (v := ?_) (a' := ?_) #[true, true, true, true, true, true, true, true, true, false, true, true, false, false] rfl rfl (take_ofW HT_.out HW_.out (by kernel_rfl)) (fun _ _ _ h => h) (Or.inl ⟨by rfl, ?_⟩) hHeld ?_ ?_
       rotate_left
       ·rintro w' ⟨s0, s1⟩
        go_simp
        with_reducible rfl
       rotate_left
       ·simp only [Act.put, List.setIfInBounds_toArray, List.set_cons_zero, List.set_cons_succ, i64_w, i32_w]
        rfl
       refine one_ (i := 9) (N := some 98) #[true, true, true, true, true, true, true, true, true, true, true, true, false, false] rfl rfl (one_of HT_.out (by kernel_rfl)) (by decide) (fun K hK => ?_)
       refine goes_ Try.func31 (by kernel_rfl) rfl #[.int .u32 (a : Int), .int .i64 mi] (by rfl) rfl rfl (by (try simp only [List.map_toArray, List.map_cons, List.map_nil]); first | done | rfl) ?_
       with_reducible refine (trie_bit.calls _ _ _ _ HBIT.out).mono ?_
       rintro e wz ⟨rfl, hz⟩
       refine ⟨_, rfl, ?_⟩
       have DZ := Aside0.mk hz.below
       clear hz
       have TZ := Aside0.mk (TD.out.below DZ.out)
       have PZ := Aside0.mk (blk_below PD.out DZ.out)
       have RZ := Aside0.mk (Kd.R_below RD.out DZ.out)
       have KZ := Aside0.mk (KD.out.below DZ.out)
       have hr1 : wz.cell? ⟨gp, 0, none⟩ = some (.int .u32 (a : Int)) := (blk_cell PZ.out 0).trans rfl
       have hr2 : wz.cell? (ad.add mi.toNat) = some (.pointer (some ⟨B m (nk a m), 0, none⟩)) := (by rw [HMI.out, Int.toNat_natCast]; exact row_at RZ.out (by have := HIB.out; omega))
       refine hK.out _ _ ⟨hr1, hr2⟩ (fun hHeld => ?_)
       clear hK K
       refine norm_ (a' := ?_) ?_ ?_
       rotate_left
       ·show Act.put _ (some 98) _ = _
        simp only [Act.put, List.setIfInBounds_toArray, List.set_cons_zero, List.set_cons_succ, i64_w, i32_w]
        rfl
       refine pure_ (i := 12) (N := some 101) (v := ?_) (a' := ?_) #[true, true, true, true, true, true, true, true, true, true, true, true, true, false] rfl rfl (any_of HT_.out (by kernel_rfl)) (fun _ _ _ h => h) (Or.inl ⟨by rfl, ?_⟩) ?_ ?_
       rotate_left
       ·intro w'
        go_simp
        with_reducible rfl
       rotate_left
       ·simp only [Act.put, List.setIfInBounds_toArray, List.set_cons_zero, List.set_cons_succ, i64_w, i32_w]
        rfl
       refine one_ (i := 13) (N := none) #[true, true, true, true, true, true, true, true, true, true, true, true, true, true] rfl rfl (one_of HT_.out (by kernel_rfl)) (by decide) (fun K hK => ?_)
       refine Hand.store_one (by rfl) rfl 25 (.tmp 101) (.const (.pointer none)) rfl (.pointer none) rfl rfl (TZ.out.nod _ _ _ FM.out) rfl size25 (Nat.le_trans (by decide) (ncs_size _ _ _ _ _ _)) rfl (fun w9 hw9 => ?_)
       have T9 := Aside0.mk (show Tr w w9 _ tb (upd2 (G l ⟨a, Bt, x⟩ (m + 1)) (m + 1) (2 * nk a m + 0) none) B V9 cc by rw [hw9]; exact TZ.out.cut (i := 0) (by decide) FM.out (by rw [← HNK.out]; exact K0.out) (by rw [← HNK.out]; exact K1.out))
       have P9 := Aside0.mk (show w9.heap[gp]? = some (.cells #[.int .u32 (a : Int), .int .i64 (Bt : Int)] 33 (0, 0)) by rw [hw9]; exact blk_far (p := ⟨B m (nk a m), 1 + 0, none⟩) PZ.out (blk_ne PZ.out (TZ.out.nod _ _ _ FM.out) (ntyB _)) _)
       have R9 := Aside0.mk (show kP.R 25 w9 w1.heap.size (fun k => w1.heap.size ≤ k) (.slice (some ad) (Bt + 1) c0) (wayL B a Bt) by rw [hw9]; exact Kd.R_set RZ.out (TZ.out.nod _ _ _ FM.out) (fun q hq => by have h25 : q = 25 := (by simpa [kP, Kd.scalar] using hq); rw [h25]; exact ntyP _) (1 + 0) _)
       have K9 := Aside0.mk (show Kept wo w9 S by rw [hw9]; exact KZ.out.setCell (p := ⟨B m (nk a m), 1 + 0, none⟩) (.inl (HT0.out.sb _ _ _ (X_get (X_way HE.out (show m ≤ Bt by have := HIB.out; omega)))).1) _)
       have hs1 : w9.cell? ⟨gp, 0, none⟩ = some (.int .u32 (a : Int)) := (blk_cell P9.out 0).trans rfl
       have hs2 : w9.cell? (ad.add mi.toNat) = some (.pointer (some ⟨B m (nk a m), 0, none⟩)) := (by rw [HMI.out, Int.toNat_natCast]; exact row_at R9.out (by have := HIB.out; omega))
       clear hw9
       refine hK.out _ _ ⟨hs1, hs2⟩ (fun hHeld => ?_)
       clear hK K
       refine done_ (done_of HT_.out (by kernel_rfl)) ?_
       go_wp2
       go_roundg m
       case measure => have := HI.out; omega
       case rel => exact ⟨m, mi, V9, rfl, by have := HIB.out; omega, by first | rfl | rw [hw1], HMI, ⟨gone_step RTS.out RTE.out HE.out HIB.out GN.out GV0.out K0.out K1.out⟩, ⟨by
        have h9 := T9.out
        rw [← HNK.out] at h9
        rw [show G l ⟨a, Bt, x⟩ m = upd2 (G l ⟨a, Bt, x⟩ (m + 1)) (m + 1) (nk a (m + 1)) none from by funext b n; rw [G_step (e := ⟨a, Bt, x⟩) HIB.out]; rfl]
        exact h9⟩, P9, R9, K9⟩
      ·rw [hm] at hbit
       have HNK := Aside0.mk hnk
       have HBIT := Aside0.mk hbit
       clear hnk hm hbit
       have TD := Aside0.mk (TL.out.below (below_drew1 (Below.refl _ _)))
       have PD := Aside0.mk (blk_drew PL.out)
       have RD := Aside0.mk (Kd.R_below RL.out (below_drew1 (Below.refl _ _)))
       have KD := Aside0.mk (KL.out.below (below_drew1 (Below.refl _ _)))
       go_wp2
       clear TL PL RL KL
       have hq1 : wr.drew.cell? ⟨gp, 0, none⟩ = some (.int .u32 (a : Int)) := (blk_cell PD.out 0).trans rfl
       have hq2 : wr.drew.cell? (ad.add mi.toNat) = some (.pointer (some ⟨B m (nk a m), 0, none⟩)) := (by rw [HMI.out, Int.toNat_natCast]; exact row_at RD.out (by have := HIB.out; omega))
       refine start_ (n := 14) (S := fun w' => w'.cell? ⟨gp, 0, none⟩ = some (.int .u32 (a : Int)) ∧ w'.cell? (ad.add mi.toNat) = some (.pointer (some ⟨B m (nk a m), 0, none⟩))) (ds := []) #[false, false, false, false, false, false, false, false, false, false, false, false, false, false] (by kernel_rfl) rfl rfl ⟨hq1, hq2⟩ (fun hHeld => ?_)
       refine with_tabW drop_.tab17 drop_.bits17 (fun HT_ HW_ => ?_)
       clear hq1 hq2
       generalize wr.drew = wd at TD PD RD KD hHeld ⊢
       refine pure_ (i := 0) (N := some 89) (v := ?_) (a' := ?_) #[true, false, false, false, false, false, false, false, false, false, false, false, false, false] rfl rfl (any_of HT_.out (by kernel_rfl)) (fun _ _ _ h => h) (Or.inl ⟨by rfl, ?_⟩) ?_ ?_
       rotate_left
       ·intro w'
        go_simp
        with_reducible rfl
       rotate_left
       ·simp only [Act.put, List.setIfInBounds_toArray, List.set_cons_zero, List.set_cons_succ, i64_w, i32_w]
        rfl
       refine pure_ (i := 1) (N := some 90) (v := ?_) (a' := ?_) #[true, true, false, false, false, false, false, false, false, false, false, false, false, false] rfl rfl (any_of HT_.out (by kernel_rfl)) (fun _ _ _ h => h) (Or.inl ⟨by rfl, ?_⟩) ?_ ?_
       rotate_left
       ·intro w'
        go_simp
        with_reducible rfl
       rotate_left
       ·simp only [Act.put, List.setIfInBounds_toArray, List.set_cons_zero, List.set_cons_succ, i64_w, i32_w]
        rfl
       refine pure_ (i := 2) (N := some 91) (v := ?_) (a' := ?_) #[true, true, true, false, false, false, false, false, false, false, false, false, false, false] rfl rfl (any_of HT_.out (by kernel_rfl)) (fun _ _ _ h => h) (Or.inl ⟨by rfl, ?_⟩) ?_ ?_
       rotate_left
       ·intro w'
        go_simp
        with_reducible rfl
       rotate_left
       ·simp only [Act.put, List.setIfInBounds_toArray, List.set_cons_zero, List.set_cons_succ, i64_w, i32_w]
        rfl
       refine pure_ (i := 3) (N := some 92) (v := ?_) (a' := ?_) #[true, true, true, true, false, false, false, false, false, false, false, false, false, false] rfl rfl (any_of HT_.out (by kernel_rfl)) (fun _ _ _ h => h) (Or.inl ⟨by rfl, ?_⟩) ?_ ?_
       rotate_left
       ·intro w'
        go_simp
        with_reducible rfl
       rotate_left
       ·simp only [Act.put, List.setIfInBounds_toArray, List.set_cons_zero, List.set_cons_succ, i64_w, i32_w]
        rfl
       refine pure_ (i := 5) (N := some 94) (v := ?_) (a' := ?_) #[true, true, true, true, false, true, false, false, false, false, false, false, false, false] rfl rfl (any_of HT_.out (by kernel_rfl)) (fun _ _ _ h => h) (Or.inl ⟨by rfl, ?_⟩) ?_ ?_
       rotate_left
       ·intro w'
        go_simp
        with_reducible rfl
       rotate_left
       ·simp only [Act.put, List.setIfInBounds_toArray, List.set_cons_zero, List.set_cons_succ, i64_w, i32_w]
        rfl
       refine pure_ (i := 7) (N := some 96) (v := ?_) (a' := ?_) #[true, true, true, true, false, true, false, true, false, false, false, false, false, false] rfl rfl (any_of HT_.out (by kernel_rfl)) (fun _ _ _ h => h) (Or.inl ⟨by rfl, ?_⟩) ?_ ?_
       rotate_left
       ·intro w'
        go_simp
        with_reducible rfl
       rotate_left
       ·simp only [Act.put, List.setIfInBounds_toArray, List.set_cons_zero, List.set_cons_succ, i64_w, i32_w]
        rfl
       refine pure_ (i := 8) (N := some 97) (v := ?_) (a' := ?_) #[true, true, true, true, false, true, false, true, true, false, false, false, false, false] rfl rfl (any_of HT_.out (by kernel_rfl)) (fun _ _ _ h => h) (Or.inl ⟨by rfl, ?_⟩) ?_ ?_
       rotate_left
       ·intro w'
        go_simp
        with_reducible rfl
       rotate_left
       ·simp only [Act.put, List.setIfInBounds_toArray, List.set_cons_zero, List.set_cons_succ, i64_w, i32_w]
        rfl
       refine take_ (i := 4) (N := some 93) (v := ?_) (a' := ?_) #[true, true, true, true, true, true, false, true, true, false, false, false, false, false] rfl rfl (take_ofW HT_.out HW_.out (by kernel_rfl)) (fun _ _ _ h => h) (Or.inl ⟨by rfl, ?_⟩) hHeld ?_ ?_
       rotate_left
       ·rintro w' ⟨s0, s1⟩
        go_simp
        with_reducible rfl
       rotate_left
       ·simp only [Act.put, List.setIfInBounds_toArray, List.set_cons_zero, List.set_cons_succ, i64_w, i32_w]
        rfl
       refine pure_ (i := 10) (N := some 99) (v := ?_) (a' := ?_) #[true, true, true, true, true, true, false, true, true, false, true, false, false, false] rfl rfl (any_of HT_.out (by kernel_rfl)) (fun _ _ _ h => h) (Or.inl ⟨by rfl, ?_⟩) ?_ ?_
       rotate_left
       ·intro w'
        go_simp
        with_reducible rfl
       rotate_left
       ·simp only [Act.put, List.setIfInBounds_toArray, List.set_cons_zero, List.set_cons_succ, i64_w, i32_w]
        rfl
       refine pure_ (i := 11) (N := some 100) (v := ?_) (a' := ?_) #[true, true, true, true, true, true, false, true, true, false, true, true, false, false] rfl rfl (any_of HT_.out (by kernel_rfl)) (fun _ _ _ h => h) (Or.inl ⟨by rfl, ?_⟩) ?_ ?_
       rotate_left
       ·intro w'
        go_simp
        with_reducible rfl
       rotate_left
       ·simp only [Act.put, List.setIfInBounds_toArray, List.set_cons_zero, List.set_cons_succ, i64_w, i32_w]
        rfl
       refine take_ (i := 6) (N := some 95) (v := ?_) (a' := ?_) #[true, true, true, true, true, true, true, true, true, false, true, true, false, false] rfl rfl (take_ofW HT_.out HW_.out (by kernel_rfl)) (fun _ _ _ h => h) (Or.inl ⟨by rfl, ?_⟩) hHeld ?_ ?_
       rotate_left
       ·rintro w' ⟨s0, s1⟩
        go_simp
        with_reducible rfl
       rotate_left
       ·simp only [Act.put, List.setIfInBounds_toArray, List.set_cons_zero, List.set_cons_succ, i64_w, i32_w]
        rfl
       refine one_ (i := 9) (N := some 98) #[true, true, true, true, true, true, true, true, true, true, true, true, false, false] rfl rfl (one_of HT_.out (by kernel_rfl)) (by decide) (fun K hK => ?_)
       refine goes_ Try.func31 (by kernel_rfl) rfl #[.int .u32 (a : Int), .int .i64 mi] (by rfl) rfl rfl (by (try simp only [List.map_toArray, List.map_cons, List.map_nil]); first | done | rfl) ?_
       with_reducible refine (trie_bit.calls _ _ _ _ HBIT.out).mono ?_
       rintro e wz ⟨rfl, hz⟩
       refine ⟨_, rfl, ?_⟩
       have DZ := Aside0.mk hz.below
       clear hz
       have TZ := Aside0.mk (TD.out.below DZ.out)
       have PZ := Aside0.mk (blk_below PD.out DZ.out)
       have RZ := Aside0.mk (Kd.R_below RD.out DZ.out)
       have KZ := Aside0.mk (KD.out.below DZ.out)
       have hr1 : wz.cell? ⟨gp, 0, none⟩ = some (.int .u32 (a : Int)) := (blk_cell PZ.out 0).trans rfl
       have hr2 : wz.cell? (ad.add mi.toNat) = some (.pointer (some ⟨B m (nk a m), 0, none⟩)) := (by rw [HMI.out, Int.toNat_natCast]; exact row_at RZ.out (by have := HIB.out; omega))
       refine hK.out _ _ ⟨hr1, hr2⟩ (fun hHeld => ?_)
       clear hK K
       refine norm_ (a' := ?_) ?_ ?_
       rotate_left
       ·show Act.put _ (some 98) _ = _
        simp only [Act.put, List.setIfInBounds_toArray, List.set_cons_zero, List.set_cons_succ, i64_w, i32_w]
        rfl
       refine pure_ (i := 12) (N := some 101) (v := ?_) (a' := ?_) #[true, true, true, true, true, true, true, true, true, true, true, true, true, false] rfl rfl (any_of HT_.out (by kernel_rfl)) (fun _ _ _ h => h) (Or.inl ⟨by rfl, ?_⟩) ?_ ?_
       rotate_left
       ·intro w'
        go_simp
        with_reducible rfl
       rotate_left
       ·simp only [Act.put, List.setIfInBounds_toArray, List.set_cons_zero, List.set_cons_succ, i64_w, i32_w]
        rfl
       refine one_ (i := 13) (N := none) #[true, true, true, true, true, true, true, true, true, true, true, true, true, true] rfl rfl (one_of HT_.out (by kernel_rfl)) (by decide) (fun K hK => ?_)
       refine Hand.store_one (by rfl) rfl 25 (.tmp 101) (.const (.pointer none)) rfl (.pointer none) rfl rfl (TZ.out.nod _ _ _ FM.out) rfl size25 (Nat.le_trans (by decide) (ncs_size _ _ _ _ _ _)) rfl (fun w9 hw9 => ?_)
       have T9 := Aside0.mk (show Tr w w9 _ tb (upd2 (G l ⟨a, Bt, x⟩ (m + 1)) (m + 1) (2 * nk a m + 1) none) B V9 cc by rw [hw9]; exact TZ.out.cut (i := 1) (by decide) FM.out (by rw [← HNK.out]; exact K0.out) (by rw [← HNK.out]; exact K1.out))
       have P9 := Aside0.mk (show w9.heap[gp]? = some (.cells #[.int .u32 (a : Int), .int .i64 (Bt : Int)] 33 (0, 0)) by rw [hw9]; exact blk_far (p := ⟨B m (nk a m), 1 + 1, none⟩) PZ.out (blk_ne PZ.out (TZ.out.nod _ _ _ FM.out) (ntyB _)) _)
       have R9 := Aside0.mk (show kP.R 25 w9 w1.heap.size (fun k => w1.heap.size ≤ k) (.slice (some ad) (Bt + 1) c0) (wayL B a Bt) by rw [hw9]; exact Kd.R_set RZ.out (TZ.out.nod _ _ _ FM.out) (fun q hq => by have h25 : q = 25 := (by simpa [kP, Kd.scalar] using hq); rw [h25]; exact ntyP _) (1 + 1) _)
       have K9 := Aside0.mk (show Kept wo w9 S by rw [hw9]; exact KZ.out.setCell (p := ⟨B m (nk a m), 1 + 1, none⟩) (.inl (HT0.out.sb _ _ _ (X_get (X_way HE.out (show m ≤ Bt by have := HIB.out; omega)))).1) _)
       have hs1 : w9.cell? ⟨gp, 0, none⟩ = some (.int .u32 (a : Int)) := (blk_cell P9.out 0).trans rfl
       have hs2 : w9.cell? (ad.add mi.toNat) = some (.pointer (some ⟨B m (nk a m), 0, none⟩)) := (by rw [HMI.out, Int.toNat_natCast]; exact row_at R9.out (by have := HIB.out; omega))
       clear hw9
       refine hK.out _ _ ⟨hs1, hs2⟩ (fun hHeld => ?_)
       clear hK K
       refine done_ (done_of HT_.out (by kernel_rfl)) ?_
       go_wp2
       go_roundg m
       case measure => have := HI.out; omega
       case rel => exact ⟨m, mi, V9, rfl, by have := HIB.out; omega, by first | rfl | rw [hw1], HMI, ⟨gone_step RTS.out RTE.out HE.out HIB.out GN.out GV0.out K0.out K1.out⟩, ⟨by
        have h9 := T9.out
        rw [← HNK.out] at h9
        rw [show G l ⟨a, Bt, x⟩ m = upd2 (G l ⟨a, Bt, x⟩ (m + 1)) (m + 1) (nk a (m + 1)) none from by funext b n; rw [G_step (e := ⟨a, Bt, x⟩) HIB.out]; rfl]
        exact h9⟩, P9, R9, K9⟩


open Go.Proofs.Ytbmibakhpealjaa.TrieP Go.Proofs.Ytbmibakhpealjaa.Facts Go.Proofs.Ytbmibakhpealjaa.Bits
/-! ### Drop, by lists -/
def delL (l : List En) (a : Nat) (b x : Int) : Int × List En := if rightB a b = true then (if (⟨a, b.toNat, x⟩ : En) ∈ l then (0, del ⟨a, b.toNat, x⟩ l) else (3, l)) else (13, l)
theorem delL_len (l : List En) (a : Nat) (b x : Int) : (delL l a b x).2.length ≤ l.length := by
 unfold delL
 split
 ·split
  ·exact List.length_filter_le _ _
  ·exact Nat.le_refl _
 ·exact Nat.le_refl _
theorem drop_.calls {w wo : World} {S : Nat → Prop} {tb : Nat} {l : List En} (h : TrL w wo S tb l) (hl : l.length ≤ 1000) (a : Nat) (ha : a < 4294967296) (b x : Int) :
  Calls Try.prog 14 #[.pointer (some ⟨tb, 0, none⟩), .agg #[.int .u32 (a : Int), .int .i64 b], .int .i64 x] wo fun e w' => e = .returned (.int .i64 (delL l a b x).1) ∧ TrL w w' (fun k => S k ∨ wo.heap.size ≤ k) tb (delL l a b x).2 ∧ Kept wo w' S := by
 unfold delL
 cases hrb : rightB a b with
 | false =>
  refine (drop_bad a b x ha hrb wo tb).mono ?_
  rintro e w' ⟨rfl, hb⟩
  rw [if_neg (by decide)]
  exact ⟨rfl, (h.below hb).mono (fun _ hk => .inl hk), Kept.of_below hb S⟩
 | true =>
  obtain ⟨n, rfl, hn, hz⟩ := right_rt hrb
  have h' := h
  obtain ⟨⟨B, V, ht⟩, hs, hr⟩ := h
  have he : rt ⟨a, n, x⟩ := ⟨hn, ha, hz⟩
  rw [if_pos rfl, Int.toNat_natCast]
  by_cases hx : (⟨a, n, x⟩ : En) ∈ l
  ·rw [if_pos hx]
   refine (drop_found a n x ha hn hz w wo S tb l B V _ ht hs hr hl hx (by omega) (by omega)).mono ?_
   rintro e w' ⟨V2, rfl, h2, hk⟩
   refine ⟨rfl, ⟨⟨B, V2, ?_⟩, del_srt hs, fun y hy => hr y (mem_del.1 hy).1⟩, hk⟩
   have := del_len hs hx
   rw [show ((del ⟨a, n, x⟩ l).length : Int) = (l.length : Int) - 1 by omega]
   exact h2
  ·rw [if_neg hx]
   have hmem := mem_vals hr he
   cases hf : X l n (nk a n) with
   | none =>
    refine (drop_none1 a n x ha hn hz w wo S tb (X l) B V _ ht hf).mono ?_
    rintro e w' ⟨rfl, hb⟩
    exact ⟨rfl, (h'.below hb).mono (fun _ hk => .inl hk), Kept.of_below hb S⟩
   | some vs =>
    have hv := X_some hf
    refine (drop_none2 a n x ha hn hz w wo S tb (X l) B V _ ht vs hf (by rw [hv]; exact vals_srt hs hr n (nk a n)) (X_len hl _ _ _ hf) (by rw [hv]; exact fun hk => hx (hmem.1 hk))).mono ?_
    rintro e w' ⟨rfl, hb⟩
    exact ⟨rfl, (h'.below hb).mono (fun _ hk => .inl hk), Kept.of_below hb S⟩
/-- Drop, with the numbers as letters, at a later world. -/
theorem drop_at {w wo w1 : World} {S : Nat → Prop} {tb : Nat} {l : List En} (h : TrL w wo S tb l) (hb1 : Below wo.heap.size wo w1) (hl : l.length ≤ 1000) {a : Nat} {xa : Int} (ha : a < 4294967296) (hxa : xa = (a : Int)) (b x : Int) :
  Calls Try.prog 14 #[.pointer (some ⟨tb, 0, none⟩), .agg #[.int .u32 xa, .int .i64 b], .int .i64 x] w1 fun e w' => e = .returned (.int .i64 (delL l a b x).1) ∧ TrL w w' (fun k => S k ∨ wo.heap.size ≤ k) tb (delL l a b x).2 ∧ Kept wo w' S := by
 subst hxa
 refine (drop_.calls (h.below hb1) hl a ha b x).mono ?_
 rintro e w' ⟨rfl, h2, hk⟩
 exact ⟨rfl, h2.mono (fun k hk => hk.imp id (fun hk => Nat.le_trans hb1.size hk)), (Kept.of_below hb1 S).then_ hk (fun k hk => .inl hk)⟩


open Go.Proofs.Ytbmibakhpealjaa.TrieP Go.Proofs.Ytbmibakhpealjaa.Facts Go.Proofs.Ytbmibakhpealjaa.Bits
/-- A row of pointers, kept where rows of entries are written. -/
theorem R_far {w w1 : World} {base : Nat} {ok : Nat → Prop} {v : Value} {xs : List Nat} (h : kP.R 25 w base ok v xs) (hf : Far w w1) : kP.R 25 w1 base (fun k => some k = v.ownBlock) v xs := by
 have h' : kP.R 25 w base (fun k => some k = v.ownBlock) v xs := ⟨fun k hk => hk.symm, h.2⟩
 refine Kd.R_step h' (fun k hk hlt => ?_)
 obtain ⟨cells, hc⟩ := Kd.R_typed h k hk.symm
 rw [hc]
 exact hf _ _ _ hc (by decide) (by decide)
theorem nk_lt {a B : Nat} (ha : a < 4294967296) (hB : B ≤ 32) : nk a B < 2 ^ B := by
 unfold nk
 rw [Nat.div_lt_iff_lt_mul (Nat.two_pow_pos _), ← Nat.pow_add, show B + (32 - B) = 32 by omega]
 exact ha
theorem nk_mul {a B : Nat} (h : a % 2 ^ (32 - B) = 0) : nk a B * 2 ^ (32 - B) = a := by
 unfold nk
 have := Nat.div_add_mod a (2 ^ (32 - B))
 rw [h, Nat.add_zero, Nat.mul_comm] at this
 exact this
theorem meet_row {w : World} {base : Nat} {ok : Nat → Prop} {A : Option Addr} {a m c0 i : Nat} {B : Nat → Nat → Nat} (h : kP.R 25 w base ok (.slice A (m + 1) c0) (wayL B a m)) {ji : Int} (hj : ji = (i : Int)) (hi : i ≤ m) : ∃ ad, A = some ad ∧ w.cell? (ad.add ji.toNat) = some (.pointer (some ⟨B i (nk a i), 0, none⟩)) := by
 have hC := (Kd.R_reads' h).2.2
 rw [wayL_len] at hC
 exact at_P hC ji (by omega) (by omega) (g := B i (nk a i)) (by rw [hj, Int.toNat_natCast]; exact (List.getElem?_eq_getElem (by rw [wayL_len]; omega)).trans (congrArg some (wayL_get B a hi)))
/-- The way, not made: its row as an own one. -/
theorem wayN_at3 {a Bt : Nat} (ha : a < 4294967296) (hb : Bt ≤ 32) {w wo w1 : World} {S : Nat → Prop} {tb : Nat} {F : Nat → Nat → Option (List Int)} {B : Nat → Nat → Nat} {V : Nat → Nat → Value} {c : Int} (h : Tr w wo S tb F B V c) (hb1 : Below wo.heap.size wo w1) :
  Calls Try.prog 22 #[.pointer (some ⟨tb, 0, none⟩), .agg #[.int .u32 (a : Int), .int .i64 (Bt : Int)], .bool false] w1 fun e w' => ∃ (A : Option Addr) (cp m : Nat), e = .returned (.slice A (m + 1) cp) ∧ m ≤ Bt ∧ (∀ j, j ≤ m → F j (nk a j) ≠ none) ∧ (m < Bt → F (m + 1) (nk a (m + 1)) = none) ∧ kP.R 25 w' w1.heap.size (fun k => w1.heap.size ≤ k) (.slice A (m + 1) cp) (wayL B a m) ∧ Below wo.heap.size wo w' ∧ Below w1.heap.size w1 w' := by
 refine (wayN_.calls a Bt ha hb w w1 S tb F B V c (h.below hb1)).mono ?_
 rintro e w' ⟨v, m, rfl, h1, h2, h3, ho, hb2⟩
 obtain ⟨A, cp, rfl, hle, hC⟩ := Kd.R_reads ho
 rw [wayL_len] at ho ⊢
 exact ⟨A, cp, m, rfl, h1, h2, h3, ho, below_step hb1 hb2, hb2⟩
def MeetOut (wo : World) (F : Nat → Nat → Option (List Int)) (a Bt : Nat) (e : Ending) (w' : World) : Prop := ∃ (v : Value) (m : Nat), e = .returned v ∧ m ≤ Bt ∧ (∀ j, j ≤ m → F j (nk a j) ≠ none) ∧ (m < Bt → F (m + 1) (nk a (m + 1)) = none) ∧ Kd.R k42 42 w' wo.heap.size (fun _ => True) v (accF F a (min (m + 1) Bt) ++ (if m = Bt then (lst F (32 - Bt) Bt (nk a Bt)).map toS else [])) ∧ Below wo.heap.size wo w'
def meet_.T12 : Bool × List (List Nat × List Nat) := (true, [([], []), ([], []), ([1], [1]), ([], []), ([2, 3], [2, 3]), ([], []), ([4, 5], [4, 5]), ([6], [6]), ([0, 7, 4], [0, 7]), ([8, 8, 0, 1, 2, 3, 4, 5, 6, 7, 8], [8])])
def meet_.B12 : List Nat := [0, 0, 2, 0, 14, 0, 62, 126, 255, 511]
theorem meet_.tab12 : rtab .any (opsOf Try.f12 12) = meet_.T12 := by kernel_rfl
theorem meet_.bits12 : waitsOk meet_.T12.2 meet_.B12 = true := by kernel_rfl
def meet_.T16 : Bool × List (List Nat × List Nat) := (true, [([], []), ([], []), ([1], [1]), ([0, 2], [0, 2]), ([3], [3]), ([], []), ([], []), ([4, 5, 6], [4, 5, 6])])
def meet_.B16 : List Nat := [0, 0, 2, 7, 15, 0, 0, 127]
theorem meet_.tab16 : rtab .any (opsOf Try.f12 16) = meet_.T16 := by kernel_rfl
theorem meet_.bits16 : waitsOk meet_.T16.2 meet_.B16 = true := by kernel_rfl
set_option maxHeartbeats 4000000 in
set_option maxRecDepth 100000 in
theorem meet_bad (a : Nat) (b : Int) (ha : a < 4294967296) (hr : rightB a b = false) (wo : World) (tb : Nat) :
  Calls Try.prog 12 #[.pointer (some ⟨tb, 0, none⟩), .agg #[.int .u32 (a : Int), .int .i64 b]] wo fun e w' => e = .returned (.slice none 0 0) ∧ Below wo.heap.size wo w' := by
 have B0 := Aside0.mk (Below.refl wo.heap.size wo)
 have HRT := Aside0.mk (show cidr_Right.f (a : Int) b = some false from (tright_eq (by omega) (by omega)).trans (congrArg some hr))
 clear ha hr
 go_enter Try.func12, Try.ntmps12
 go_wp2_with (first
  | ((with_reducible refine gate_dst (N := 3) rfl ?_); refine box_event ?hg (N := 3) ?hd (cs := #[.int .u32 (a : Int), .int .i64 b]) (t := 33) ?hr ?_; (case hd => rfl); (case hg => rfl); (case hr => first | (go_simp; done) | (go_simp; rfl)); intro gp hgx wx hbox hb; have PB := Aside0.mk hbox; have B1 := Aside0.mk hb; have z0 : wx.cell? ⟨gp, 0, none⟩ = some (.int .u32 (a : Int)) := (blk_cell hbox 0).trans rfl; have z1 : wx.cell? ⟨gp, 1, none⟩ = some (.int .i64 b) := (blk_cell hbox 1).trans rfl; clear hgx hbox hb)
  | (go_at_call 21; (with_reducible refine (cidr_Right.calls _ _ _ _ HRT.out).mono ?_); rintro e w1 ⟨rfl, hz⟩; have B2 := Aside0.mk (below_step B1.out hz); have PB2 := Aside0.mk (blk_below PB.out hz); clear z0 z1 hz; have z0 : w1.cell? ⟨gp, 0, none⟩ = some (.int .u32 (a : Int)) := (blk_cell PB2.out 0).trans rfl; have z1 : w1.cell? ⟨gp, 1, none⟩ = some (.int .i64 b) := (blk_cell PB2.out 1).trans rfl))
 go_ret
 exact ⟨rfl, by repeat (first | exact B2.out | apply pw_below_drewN | apply below_drew1)⟩
theorem meet_call {w wo wd : World} {S : Nat → Prop} {tb go : Nat} {F : Nat → Nat → Option (List Int)} {B : Nat → Nat → Nat} {V : Nat → Nat → Value} {c : Int} (h : Tr w wo S tb F B V c) {a Bt : Nat} (hf : F Bt (nk a Bt) ≠ none) (ha : a < 4294967296) (hb : Bt ≤ 32) (hr : a % 2 ^ (32 - Bt) = 0) (hB : Below wo.heap.size wo wd) {acc : List S42} (hO : OutV wo wd go acc) (hl : acc.length + (lst F (32 - Bt) Bt (nk a Bt)).length ≤ 100000) :
  Calls Try.prog 25 #[.pointer (some ⟨B Bt (nk a Bt), 0, none⟩), .agg #[.int .u32 (a : Int), .int .i64 (Bt : Int)], .func (.func 29) #[] #[.pointer (some ⟨go, 0, none⟩)]] wd fun e w' => e = .returned (.tuple #[]) ∧ OutV wo w' go (acc ++ (lst F (32 - Bt) Bt (nk a Bt)).map toS) ∧ Below wo.heap.size wo w' ∧ Far wd w' := by
 obtain ⟨vs, hvs⟩ : ∃ vs, F Bt (nk a Bt) = some vs := by
  cases hx : F Bt (nk a Bt) with
  | none => exact (hf hx).elim
  | some x => exact ⟨x, rfl⟩
 rw [← h.kidS hvs]
 exact walk29_.calls (go := go) h (32 - Bt) Bt (nk a Bt) (a : Int) (Bt : Int) acc wd (by omega) (by rw [nk_mul hr]) rfl (nk_lt ha hb) hB hO hl
set_option maxHeartbeats 8000000 in
set_option maxRecDepth 100000 in
theorem meet_walk (a Bt : Nat) (ha : a < 4294967296) (hb : Bt ≤ 32) (hr : a % 2 ^ (32 - Bt) = 0) (w wo : World) (S : Nat → Prop) (tb : Nat) (F : Nat → Nat → Option (List Int)) (B : Nat → Nat → Nat) (V : Nat → Nat → Value) (c : Int) (h : Tr w wo S tb F B V c) (hF : ∀ b n vs, F b n = some vs → vs.length ≤ 1000) (hls : (lst F (32 - Bt) Bt (nk a Bt)).length ≤ 1000) :
  Calls Try.prog 12 #[.pointer (some ⟨tb, 0, none⟩), .agg #[.int .u32 (a : Int), .int .i64 (Bt : Int)]] wo (MeetOut wo F a Bt) := by
 have HT0 := Aside0.mk h
 have A1 := Aside0.mk ha
 have A2 := Aside0.mk hb
 have HRZ := Aside0.mk hr
 have HRT := Aside0.mk (show cidr_Right.f (a : Int) (Bt : Int) = some true from (tright_eq (by omega) (by omega)).trans (congrArg some (rt_right hb hr)))
 have HF := Aside0.mk hF
 have HL0 := Aside0.mk hls
 have hmf : ∀ (fn : Fn) (first cap : Array Value) (w : World), (Instr.makeFunc fn first cap).run Try.prog w = .ok (.func fn first cap) w := fun _ _ _ _ => rfl
 clear h ha hb hr hF hls
 go_enter Try.func12, Try.ntmps12
 go_wp2_with (first
  | ((with_reducible refine gate_dst (N := 3) rfl ?_); refine box_event ?hg (N := 3) ?hd (cs := #[.int .u32 (a : Int), .int .i64 (Bt : Int)]) (t := 33) ?hr ?_; (case hd => rfl); (case hg => rfl); (case hr => first | (go_simp; done) | (go_simp; rfl)); intro gp hgx wx hbox hb; have PB := Aside0.mk hbox; have B1 := Aside0.mk hb; have z0 : wx.cell? ⟨gp, 0, none⟩ = some (.int .u32 (a : Int)) := (blk_cell hbox 0).trans rfl; have z1 : wx.cell? ⟨gp, 1, none⟩ = some (.int .i64 (Bt : Int)) := (blk_cell hbox 1).trans rfl; clear hgx hbox hb)
  | (go_at_call 21; (with_reducible refine (cidr_Right.calls _ _ _ _ HRT.out).mono ?_); rintro e w1 ⟨rfl, hz⟩; have B2 := Aside0.mk (below_step B1.out hz); have PB2 := Aside0.mk (blk_below PB.out hz); clear z0 z1 hz; have z0 : w1.cell? ⟨gp, 0, none⟩ = some (.int .u32 (a : Int)) := (blk_cell PB2.out 0).trans rfl; have z1 : w1.cell? ⟨gp, 1, none⟩ = some (.int .i64 (Bt : Int)) := (blk_cell PB2.out 1).trans rfl)
  | ((with_reducible refine gate_dst (N := 5) rfl ?_); refine box_event ?hg (N := 5) ?hd (cs := #[.slice none 0 0]) (t := 38) ?hr ?_; (case hd => rfl); (case hg => rfl); (case hr => first | (go_simp; done) | (go_simp; rfl)); intro go hgo w3 hbox hb; have HG := Aside0.mk (show wo.heap.size ≤ go by have := B2.out.size; omega); have O1 := Aside0.mk (show OutV wo w3 go [] from ⟨_, hbox, Kd.R_nil _ _ _ _ _, HG.out⟩); have B3 := Aside0.mk (show Below wo.heap.size wo w3 from below_step (by repeat (first | exact B2.out | apply pw_below_drewN | apply below_drew1)) hb); have PB3 := Aside0.mk (show w3.heap[gp]? = _ from blk_below PB2.out (by repeat (first | exact hb | apply pw_below_drewN | apply below_drew1))); clear z0 z1; have z0 : w3.cell? ⟨gp, 0, none⟩ = some (.int .u32 (a : Int)) := (blk_cell PB3.out 0).trans rfl; have z1 : w3.cell? ⟨gp, 1, none⟩ = some (.int .i64 (Bt : Int)) := (blk_cell PB3.out 1).trans rfl; clear hgo hbox hb)
  | (go_at_call 22; (with_reducible refine (wayN_at3 A1.out A2.out HT0.out (by repeat (first | exact B3.out | apply pw_below_drewN | apply below_drew1))).mono ?_); rintro e w2 ⟨A0, c0, m, rfl, h1, h2, h3, hR, hb, hb1⟩; have M1 := Aside0.mk h1; have M2 := Aside0.mk h2; have M3 := Aside0.mk h3; have R2 := Aside0.mk hR; have B4 := Aside0.mk hb; have hb1' : Below w3.heap.size w3 w2 := below_step (by repeat (first | exact Below.refl _ _ | apply pw_below_drewN | apply below_drew1)) hb1; have PB4 := Aside0.mk (blk_below PB3.out hb1'); have O4 := Aside0.mk (O1.out.below hb1'); clear z0 z1 h1 h2 h3 hR hb hb1 hb1'))
 go_loopg [23] (m + 1) (fun kq v23 wl => ∃ (i : Nat) (ji : Int), i + kq = m + 1 ∧ v23 = .int .i64 ji ∧ Aside0 (ji = (i : Int)) ∧ Aside0 (OutV wo wl go (accF F a (min i Bt))) ∧ Aside0 (Below wo.heap.size wo wl) ∧ Aside0 (Far w2 wl))
 case atStart => exact ⟨0, 0, by omega, rfl, ⟨rfl⟩, ⟨by rw [Nat.zero_min]; exact O4.out⟩, B4, ⟨fun g cs e hb _ _ => hb⟩⟩
 case round =>
  clear O1 B1 B2 B3 O4
  obtain ⟨i, ji, hi, rfl, HJ, OL, BL, FL⟩ := hrel
  have HI := Aside0.mk hi
  have PL := Aside0.mk (FL.out _ _ _ PB4.out (by decide) (by decide))
  have RL := Aside0.mk (R_far R2.out FL.out)
  by_cases hlt : i < m + 1
  ·have hcn : decide (ji < (m : Int) + 1) = true := decide_eq_true (by have := HJ.out; omega)
   have HLT := Aside0.mk hlt
   have p : 0 ≤ ji := by have := HJ.out; omega
   have q : ji < (m : Int) + 1 := by have := HJ.out; omega
   obtain ⟨ad, ee, hx⟩ := meet_row RL.out HJ.out (Nat.le_of_lt_succ hlt)
   cases ee
   have z1 : wr.cell? ⟨gp, 1, none⟩ = some (.int .i64 (Bt : Int)) := (blk_cell PL.out 1).trans rfl
   replace p := eq_true p
   replace q := eq_true q
   clear hi hlt
   by_cases hib : i < Bt
   ·have hcb : decide (ji < (Bt : Int)) = true := decide_eq_true (by have := HJ.out; omega)
    have HIB := Aside0.mk hib
    obtain ⟨vs, hfi⟩ : ∃ vs, F i (nk a i) = some vs := by
     cases hx : F i (nk a i) with
     | none => exact (M2.out i (by have := HLT.out; omega) hx).elim
     | some x => exact ⟨x, rfl⟩
    have TL := Aside0.mk (HT0.out.below BL.out)
    obtain ⟨A1', c1, hV2, hle, hCV, hz0⟩ := TL.out.vals hfi
    have HV2 := Aside0.mk hV2
    have FI := Aside0.mk hfi
    obtain ⟨xi, hxi⟩ : ∃ xi : Int, xi = ((nk a i * 2 ^ (32 - i) : Nat) : Int) := ⟨_, rfl⟩
    have XI := Aside0.mk hxi
    have HOF := Aside0.mk (show cidr_Of.f (a : Int) ji = some (xi, (i : Int)) by rw [HJ.out, hxi]; exact of_f A1.out (by have := HIB.out; have := A2.out; omega))
    have OL' := Aside0.mk (show OutV wo wr go (accF F a i) by have := OL.out; rwa [Nat.min_eq_left (Nat.le_of_lt hib)] at this)
    clear hxi hib hV2 hle hCV hfi OL
    go_wp2
    go_loopg [37] vs.length (fun kq v37 wl' => ∃ (j : Nat) (jj : Int), j + kq = vs.length ∧ v37 = .int .i64 jj ∧ Aside0 (jj = (j : Int)) ∧ Aside0 (OutV wo wl' go (accF F a i ++ (vs.take j).map (eS i (nk a i)))) ∧ Aside0 (Below wo.heap.size wo wl') ∧ Aside0 (Far w2 wl'))
    case atStart => exact ⟨0, 0, by omega, rfl, ⟨rfl⟩, ⟨by simpa using OL'.out⟩, BL, FL⟩
    case round =>
     clear OL' BL FL PL RL z1 hz0 hx TL
     obtain ⟨j, jj, hj, rfl, HJJ, OJ, BJ, FJ⟩ := hrel
     have HIJ := Aside0.mk hj
     by_cases hlj : j < vs.length
     ·have hcj : decide (jj < (vs.length : Int)) = true := decide_eq_true (by have := HJJ.out; omega)
      have HLJ := Aside0.mk hlj
      have p2 : 0 ≤ jj := by have := HJJ.out; omega
      have q2 : jj < (vs.length : Int) := by have := HJJ.out; omega
      obtain ⟨ad2, ee, hx2⟩ := Kd.at_int ((HT0.out.below BJ.out).valsC FI.out HV2.out) jj p2 q2
      cases ee
      replace p2 := eq_true p2
      replace q2 := eq_true q2
      have HAL := Aside0.mk (show (accF F a i ++ (vs.take j).map (eS i (nk a i))).length ≤ 100000 by
       have h1 := accF_len HF.out a i
       have h2 := HF.out _ _ _ FI.out
       have h3 := HIB.out
       have h4 := A2.out
       rw [List.length_append, List.length_map, List.length_take]
       omega)
      obtain ⟨u, hu1, hu2, hu3⟩ := OJ.out
      have UD := Aside0.mk (blk_drew hu1)
      have HRD := Aside0.mk (Kd.R_below hu2 (below_drew1 (Below.refl _ _)))
      have BD := Aside0.mk (below_drew1 BJ.out)
      have FD := Aside0.mk (FJ.out.trans (Far.of_below (below_drew1 (Below.refl _ _))))
      have PD := Aside0.mk (FD.out _ _ _ PB4.out (by decide) (by decide))
      clear hj hlj hu1 hu2 hu3
      go_wp2
      have hq1 : wr.drew.cell? ⟨go, 0, none⟩ = some u := (blk_cell UD.out 0).trans rfl
      have hq2 : wr.drew.cell? ⟨gp, 0, none⟩ = some (.int .u32 (a : Int)) := (blk_cell PD.out 0).trans rfl
      refine start_ (n := 10) (S := fun w' => w'.cell? ⟨go, 0, none⟩ = some u ∧ w'.cell? ⟨gp, 0, none⟩ = some (.int .u32 (a : Int))) (ds := [9]) #[false, false, false, false, false, false, false, false, false, false] (by kernel_rfl) rfl rfl ⟨hq1, hq2⟩ (fun hHeld => ?_)
      refine with_tabW meet_.tab12 meet_.bits12 (fun HT_ HW_ => ?_)
      clear hq1 hq2
      generalize wr.drew = wd at BD FD UD HRD PD hHeld ⊢
      refine pure_ (i := 1) (N := some 42) (v := ?_) (a' := ?_) #[false, true, false, false, false, false, false, false, false, false] rfl rfl (any_of HT_.out (by kernel_rfl)) (fun _ _ _ h => h) (Or.inl ⟨by rfl, ?_⟩) ?_ ?_
      rotate_left
      ·intro w'
       go_simp
       with_reducible rfl
      rotate_left
      ·simp only [Act.put, List.setIfInBounds_toArray, List.set_cons_zero, List.set_cons_succ, i64_w, i32_w]
       rfl
      refine pure_ (i := 3) (N := some 44) (v := ?_) (a' := ?_) #[false, true, false, true, false, false, false, false, false, false] rfl rfl (any_of HT_.out (by kernel_rfl)) (fun _ _ _ h => h) (Or.inl ⟨by rfl, ?_⟩) ?_ ?_
      rotate_left
      ·intro w'
       go_simp
       with_reducible rfl
      rotate_left
      ·simp only [Act.put, List.setIfInBounds_toArray, List.set_cons_zero, List.set_cons_succ, i64_w, i32_w]
       rfl
      refine pure_ (i := 5) (N := some 46) (v := ?_) (a' := ?_) #[false, true, false, true, false, true, false, false, false, false] rfl rfl (any_of HT_.out (by kernel_rfl)) (fun _ _ _ h => h) (Or.inl ⟨by rfl, ?_⟩) ?_ ?_
      rotate_left
      ·intro w'
       go_simp
       with_reducible rfl
      rotate_left
      ·simp only [Act.put, List.setIfInBounds_toArray, List.set_cons_zero, List.set_cons_succ, i64_w, i32_w]
       rfl
      refine take_ (i := 0) (N := some 41) (v := ?_) (a' := ?_) #[true, true, false, true, false, true, false, false, false, false] rfl rfl (take_ofW HT_.out HW_.out (by kernel_rfl)) (fun _ _ _ h => h) (Or.inl ⟨by rfl, ?_⟩) hHeld ?_ ?_
      rotate_left
      ·rintro w' ⟨s0, s1⟩
       go_simp
       with_reducible rfl
      rotate_left
      ·simp only [Act.put, List.setIfInBounds_toArray, List.set_cons_zero, List.set_cons_succ, i64_w, i32_w]
       rfl
      refine take_ (i := 2) (N := some 43) (v := ?_) (a' := ?_) #[true, true, true, true, false, true, false, false, false, false] rfl rfl (take_ofW HT_.out HW_.out (by kernel_rfl)) (fun _ _ _ h => h) (Or.inl ⟨by rfl, ?_⟩) hHeld ?_ ?_
      rotate_left
      ·rintro w' ⟨s0, s1⟩
       go_simp
       with_reducible rfl
      rotate_left
      ·simp only [Act.put, List.setIfInBounds_toArray, List.set_cons_zero, List.set_cons_succ, i64_w, i32_w]
       rfl
      refine one_ (i := 4) (N := some 45) #[true, true, true, true, true, true, false, false, false, false] rfl rfl (one_of HT_.out (by kernel_rfl)) (by decide) (fun K hK => ?_)
      refine goes_ Try.func28 (by kernel_rfl) rfl #[.int .u32 (a : Int), .int .i64 ji] (by rfl) rfl rfl (by (try simp only [List.map_toArray, List.map_cons, List.map_nil]); first | done | rfl) ?_
      with_reducible refine (cidr_Of.calls _ _ _ _ _ HOF.out).mono ?_
      rintro e wz ⟨rfl, hz⟩
      refine ⟨_, rfl, ?_⟩
      have BZ := Aside0.mk (below_step BD.out hz)
      have FZ := Aside0.mk (FD.out.trans (Far.of_below hz))
      have UZ := Aside0.mk (blk_below UD.out hz)
      have HRZ := Aside0.mk (Kd.R_below HRD.out hz)
      have PZ := Aside0.mk (blk_below PD.out hz)
      clear hz
      have hr1 : wz.cell? ⟨go, 0, none⟩ = some u := (blk_cell UZ.out 0).trans rfl
      have hr2 : wz.cell? ⟨gp, 0, none⟩ = some (.int .u32 (a : Int)) := (blk_cell PZ.out 0).trans rfl
      refine hK.out _ _ ⟨hr1, hr2⟩ (fun hHeld => ?_)
      clear hK K
      refine norm_ (a' := ?_) ?_ ?_
      rotate_left
      ·show Act.put _ (some 45) _ = _
       simp only [Act.put, List.setIfInBounds_toArray, List.set_cons_zero, List.set_cons_succ, i64_w, i32_w]
       rfl
      refine pure_ (i := 6) (N := some 47) (v := ?_) (a' := ?_) #[true, true, true, true, true, true, true, false, false, false] rfl rfl (any_of HT_.out (by kernel_rfl)) (fun _ _ _ h => h) (Or.inl ⟨by rfl, ?_⟩) ?_ ?_
      rotate_left
      ·intro w'
       go_simp
       with_reducible rfl
      rotate_left
      ·simp only [Act.put, List.setIfInBounds_toArray, List.set_cons_zero, List.set_cons_succ, i64_w, i32_w]
       rfl
      refine one_ (i := 7) (N := some 48) #[true, true, true, true, true, true, true, true, false, false] rfl rfl (one_of HT_.out (by kernel_rfl)) (by decide) (fun K hK => ?_)
      refine value_ (w1 := ?_) (v := ?_) (by rfl) rfl ?_ ?_
      rotate_left 2
      ·go_simp
       constructor
       ·rfl
       ·rfl
      refine hK.out _ _ ⟨((blk_cell (blk_below UZ.out (below_alloc (Below.refl _ _) _)) 0).trans rfl), ((blk_cell (blk_below PZ.out (below_alloc (Below.refl _ _) _)) 0).trans rfl)⟩ (fun hHeld => ?_)
      clear hK K
      refine norm_ (a' := ?_) ?_ ?_
      rotate_left
      ·show Act.put _ (some 48) _ = _
       simp only [Act.put, List.setIfInBounds_toArray, List.set_cons_zero, List.set_cons_succ, i64_w, i32_w]
       rfl
      refine one_ (i := 8) (N := some 49) #[true, true, true, true, true, true, true, true, true, false] rfl rfl (one_of HT_.out (by kernel_rfl)) (by decide) (fun K hK => ?_)
      refine Kd.R_append_step k42 (w0 := wo) wo.heap.size (by rfl) (.tmp 41) (.tmp 48) 38 42 (.agg #[.int .u32 0, .int .i64 0, .int .i64 0]) 24 rfl Try.underlying38 info42 rfl (by decide) (by omega) u (accF F a i ++ (vs.take j).map (eS i (nk a i))) ⟨⟨xi, (i : Int)⟩, rd vs jj⟩ [.int .u32 xi, .int .i64 (i : Int), .int .i64 (rd vs jj)] (fun _ => True) (fun _ => False) rfl rfl ?aP (fun _ hk => hk.elim) ?aF ?aO ?aB ?aS ?aL ?_
      case aP => exact k42_mkM _ _ _ ⟨⟨xi, (i : Int)⟩, rd vs jj⟩
      case aF => exact (fun k hk => trivial)
      case aO => exact HRZ.out
      case aB => exact BZ.out
      case aS => exact BZ.out.size
      case aL => have := HAL.out; omega
      intro v9 w9 ho hb9 hg9 hat9
      obtain ⟨A9, c9, e9⟩ := Kd.R_slice ho
      rw [List.length_append, List.length_singleton] at e9
      subst e9
      have HO9 := Aside0.mk ho
      have HB9 := Aside0.mk hb9
      have F9 := Aside0.mk (FZ.out.trans (fun g cs e hb h1 h2 => blk_grown hb hg9 (Kd.R_ne HRZ.out hb (fun e' => h2 e'.symm))))
      have UX9 := Aside0.mk (blk_grown UZ.out hg9 (Kd.R_ne HRZ.out UZ.out (by decide)))
      have P9 := Aside0.mk (blk_grown PZ.out hg9 (Kd.R_ne HRZ.out PZ.out (by decide)))
      clear ho hb9 hg9 hat9
      have hs1 : w9.cell? ⟨go, 0, none⟩ = some u := (blk_cell UX9.out 0).trans rfl
      have hs2 : w9.cell? ⟨gp, 0, none⟩ = some (.int .u32 (a : Int)) := (blk_cell P9.out 0).trans rfl
      refine hK.out _ _ ⟨hs1, hs2⟩ (fun hHeld => ?_)
      clear hK K
      refine norm_ (a' := ?_) ?_ ?_
      rotate_left
      ·show Act.put _ (some 49) _ = _
       simp only [Act.put, List.setIfInBounds_toArray, List.set_cons_zero, List.set_cons_succ, i64_w, i32_w]
       rfl
      refine last_ (i := 9) (N := none) #[true, true, true, true, true, true, true, true, true, true] rfl rfl (one_of HT_.out (by kernel_rfl)) (by decide) (fun K hK => ?_)
      refine Hand.store_one (by rfl) rfl 38 (.tmp 5) (.tmp 49) rfl (.slice A9 ((accF F a i ++ (vs.take j).map (eS i (nk a i))).length + 1) c9) rfl rfl UX9.out rfl size38 (Nat.le_refl 1) rfl (fun w7 hw7 => ?_)
      have T7 := Aside0.mk (show OutV wo w7 go ((accF F a i ++ (vs.take j).map (eS i (nk a i))) ++ [⟨⟨xi, (i : Int)⟩, rd vs jj⟩]) by rw [hw7]; exact ⟨_, blk_put UX9.out 0 _ rfl, Kd.R_set HO9.out UX9.out (by decide) 0 _, HG.out⟩)
      have F7 := Aside0.mk (show Far w2 w7 by rw [hw7]; exact F9.out.trans (fun g cs e hb h1 h2 => blk_far (p := ⟨go, 0, none⟩) hb (blk_ne hb UX9.out h1) _))
      have B7 := Aside0.mk (show Below wo.heap.size wo w7 by rw [hw7]; exact below_set HB9.out HG.out)
      clear hw7
      refine hK.out _ _ ?_
      clear hK K
      refine done_ (done_of HT_.out (by kernel_rfl)) ?_
      clear hx2 OJ BJ FJ BD FD UD HRD PD
      go_wp2
      go_roundg (vs.length - (j + 1))
      case measure => have := HIJ.out; have := HLJ.out; omega
      case rel => exact ⟨j + 1, jj + 1, by have := HLJ.out; omega, by rw [wrap64_id _ (by have := HJJ.out; omega) (by have := HJJ.out; have := HLJ.out; have := HF.out _ _ _ FI.out; omega)], ⟨by have := HJJ.out; omega⟩, ⟨by
       have h9 := T7.out
       rw [XI.out, HJJ.out, show (⟨⟨((nk a i * 2 ^ (32 - i) : Nat) : Int), (i : Int)⟩, rd vs (j : Int)⟩ : S42) = eS i (nk a i) (rd vs (j : Int)) from rfl, take_rd HLJ.out] at h9
       exact h9⟩, B7, F7⟩
     ·have hcj : decide (jj < (vs.length : Int)) = false := decide_eq_false (by have := HJJ.out; omega)
      obtain rfl : j = vs.length := by omega
      clear hj hlj
      go_wp2
      go_roundg (m + 1 - (i + 1))
      case measure => have := HI.out; have := HLT.out; omega
      case rel => exact ⟨i + 1, ji + 1, by have := HLT.out; omega, by rw [wrap64_id _ (by have := HJ.out; omega) (by have := HJ.out; have := HLT.out; have := M1.out; have := A2.out; omega)], ⟨by have := HJ.out; omega⟩, ⟨by
       have h9 := OJ.out
       rw [List.take_length] at h9
       rw [Nat.min_eq_left (show i + 1 ≤ Bt from HIB.out), accF, FI.out]
       exact h9⟩, BJ, FJ⟩
   ·have hcb : decide (ji < (Bt : Int)) = false := decide_eq_false (by have := HJ.out; omega)
    have HIB := Aside0.mk hib
    clear hib
    go_wp2
    go_roundg (m + 1 - (i + 1))
    case measure => have := HI.out; have := HLT.out; omega
    case rel => exact ⟨i + 1, ji + 1, by have := HLT.out; omega, by rw [wrap64_id _ (by have := HJ.out; omega) (by have := HJ.out; have := HLT.out; have := M1.out; have := A2.out; omega)], ⟨by have := HJ.out; omega⟩, ⟨by
     have h9 := OL.out
     have h8 := HIB.out
     rw [Nat.min_eq_right (by omega)] at h9 ⊢
     exact h9⟩, BL, FL⟩
  ·have hcn : decide (ji < (m : Int) + 1) = false := decide_eq_false (by have := HJ.out; omega)
   obtain rfl : i = m + 1 := by omega
   have z1 : wr.cell? ⟨gp, 1, none⟩ = some (.int .i64 (Bt : Int)) := (blk_cell PL.out 1).trans rfl
   clear hi hlt
   by_cases hmb : m = Bt
   ·have hcb : decide ((Bt : Int) < (m : Int) + 1) = true := decide_eq_true (by omega)
    have hcb2 : decide (Bt < m + 1) = true := decide_eq_true (by omega)
    have hcb3 : (Bt : Int) < (m : Int) + 1 := by omega
    have hcb4 : 0 ≤ (Bt : Int) := by omega
    have hcb3 := eq_true hcb3
    have hcb4 := eq_true hcb4
    have HFB := Aside0.mk (show F Bt (nk a Bt) ≠ none from M2.out Bt (by omega))
    have OB := Aside0.mk (show OutV wo wr go (accF F a Bt) by have := OL.out; rwa [Nat.min_eq_right (by omega)] at this)
    have HLS := Aside0.mk (show (accF F a Bt).length + (lst F (32 - Bt) Bt (nk a Bt)).length ≤ 100000 by
     have h1 := accF_len HF.out a Bt
     have h2 := HL0.out
     have h3 := A2.out
     omega)
    have HMB := Aside0.mk hmb
    have OD := Aside0.mk (OB.out.below (below_drew1 (Below.refl _ _)))
    have BD := Aside0.mk (below_drew1 BL.out)
    have PD := Aside0.mk (blk_drew PL.out)
    have RD := Aside0.mk (Kd.R_below RL.out (below_drew1 (Below.refl _ _)))
    obtain ⟨ad, ee, hq3⟩ := meet_row RD.out (rfl : (Bt : Int) = (Bt : Int)) (by omega)
    cases ee
    rw [Int.toNat_natCast] at hq3
    clear hmb OL
    go_wp2
    have hq1 : wr.drew.cell? ⟨gp, 0, none⟩ = some (.int .u32 (a : Int)) := (blk_cell PD.out 0).trans rfl
    have hq2 : wr.drew.cell? ⟨gp, 1, none⟩ = some (.int .i64 (Bt : Int)) := (blk_cell PD.out 1).trans rfl
    refine start_ (n := 8) (S := fun w' => w'.cell? ⟨gp, 0, none⟩ = some (.int .u32 (a : Int)) ∧ w'.cell? ⟨gp, 1, none⟩ = some (.int .i64 (Bt : Int)) ∧ w'.cell? (ad.add Bt) = some (.pointer (some ⟨B Bt (nk a Bt), 0, none⟩))) (ds := []) #[false, false, false, false, false, false, false, false] (by kernel_rfl) rfl rfl ⟨hq1, hq2, hq3⟩ (fun hHeld => ?_)
    refine with_tabW meet_.tab16 meet_.bits16 (fun HT_ HW_ => ?_)
    clear hq1 hq2 hq3
    generalize wr.drew = wd at BD OD PD RD hHeld ⊢
    refine pure_ (i := 0) (N := some 57) (v := ?_) (a' := ?_) #[true, false, false, false, false, false, false, false] rfl rfl (any_of HT_.out (by kernel_rfl)) (fun _ _ _ h => h) (Or.inl ⟨by rfl, ?_⟩) ?_ ?_
    rotate_left
    ·intro w'
     go_simp
     with_reducible rfl
    rotate_left
    ·simp only [Act.put, List.setIfInBounds_toArray, List.set_cons_zero, List.set_cons_succ, i64_w, i32_w]
     rfl
    refine pure_ (i := 1) (N := some 58) (v := ?_) (a' := ?_) #[true, true, false, false, false, false, false, false] rfl rfl (any_of HT_.out (by kernel_rfl)) (fun _ _ _ h => h) (Or.inl ⟨by rfl, ?_⟩) ?_ ?_
    rotate_left
    ·intro w'
     go_simp
     with_reducible rfl
    rotate_left
    ·simp only [Act.put, List.setIfInBounds_toArray, List.set_cons_zero, List.set_cons_succ, i64_w, i32_w]
     rfl
    refine pure_ (i := 6) (N := some 63) (v := ?_) (a' := ?_) #[true, true, false, false, false, false, true, false] rfl rfl (any_of HT_.out (by kernel_rfl)) (fun _ _ _ h => h) (Or.inl ⟨by rfl, ?_⟩) ?_ ?_
    rotate_left
    ·intro w'
     go_simp
     with_reducible rfl
    rotate_left
    ·simp only [Act.put, List.setIfInBounds_toArray, List.set_cons_zero, List.set_cons_succ, i64_w, i32_w]
     rfl
    refine take_ (i := 2) (N := some 59) (v := ?_) (a' := ?_) #[true, true, true, false, false, false, true, false] rfl rfl (take_ofW HT_.out HW_.out (by kernel_rfl)) (fun _ _ _ h => h) (Or.inl ⟨by rfl, ?_⟩) hHeld ?_ ?_
    rotate_left
    ·rintro w' ⟨s0, s1, s2⟩
     go_simp
     with_reducible rfl
    rotate_left
    ·simp only [Act.put, List.setIfInBounds_toArray, List.set_cons_zero, List.set_cons_succ, i64_w, i32_w]
     rfl
    refine pure_ (i := 3) (N := some 60) (v := ?_) (a' := ?_) #[true, true, true, true, false, false, true, false] rfl rfl (any_of HT_.out (by kernel_rfl)) (fun _ _ _ h => h) (Or.inl ⟨by rfl, ?_⟩) ?_ ?_
    rotate_left
    ·intro w'
     go_simp
     with_reducible rfl
    rotate_left
    ·simp only [Act.put, List.setIfInBounds_toArray, List.set_cons_zero, List.set_cons_succ, i64_w, i32_w]
     rfl
    refine take_ (i := 4) (N := some 61) (v := ?_) (a' := ?_) #[true, true, true, true, true, false, true, false] rfl rfl (take_ofW HT_.out HW_.out (by kernel_rfl)) (fun _ _ _ h => h) (Or.inl ⟨by rfl, ?_⟩) hHeld ?_ ?_
    rotate_left
    ·rintro w' ⟨s0, s1, s2⟩
     go_simp
     with_reducible rfl
    rotate_left
    ·simp only [Act.put, List.setIfInBounds_toArray, List.set_cons_zero, List.set_cons_succ, i64_w, i32_w]
     rfl
    refine take_ (i := 5) (N := some 62) (v := ?_) (a' := ?_) #[true, true, true, true, true, true, true, false] rfl rfl (take_ofW HT_.out HW_.out (by kernel_rfl)) (fun _ _ _ h => h) (Or.inl ⟨by rfl, ?_⟩) hHeld ?_ ?_
    rotate_left
    ·rintro w' ⟨s0, s1, s2⟩
     go_simp
     with_reducible rfl
    rotate_left
    ·simp only [Act.put, List.setIfInBounds_toArray, List.set_cons_zero, List.set_cons_succ, i64_w, i32_w]
     rfl
    refine one_ (i := 7) (N := some 64) #[true, true, true, true, true, true, true, true] rfl rfl (one_of HT_.out (by kernel_rfl)) (by decide) (fun K hK => ?_)
    refine goes_ Try.func25 (by kernel_rfl) rfl #[.pointer (some ⟨B Bt (nk a Bt), 0, none⟩), .agg #[.int .u32 (a : Int), .int .i64 (Bt : Int)], .func (.func 29) #[] #[.pointer (some ⟨go, 0, none⟩)]] (by rfl) rfl rfl (by (try simp only [List.map_toArray, List.map_cons, List.map_nil]); first | done | rfl) ?_
    with_reducible refine (meet_call HT0.out HFB.out A1.out A2.out HRZ.out BD.out OD.out HLS.out).mono ?_
    rintro e wz ⟨rfl, ho, hz, hf⟩
    refine ⟨_, rfl, ?_⟩
    have OZ := Aside0.mk ho
    have BZ := Aside0.mk hz
    clear ho hz
    have PZ := Aside0.mk (hf _ _ _ PD.out (by decide) (by decide))
    have RZ := Aside0.mk (R_far RD.out hf)
    clear hf
    have hr1 : wz.cell? ⟨gp, 0, none⟩ = some (.int .u32 (a : Int)) := (blk_cell PZ.out 0).trans rfl
    have hr2 : wz.cell? ⟨gp, 1, none⟩ = some (.int .i64 (Bt : Int)) := (blk_cell PZ.out 1).trans rfl
    obtain ⟨ad', ee, hr3⟩ := meet_row RZ.out (rfl : (Bt : Int) = (Bt : Int)) (by have := HMB.out; omega)
    cases ee
    rw [Int.toNat_natCast] at hr3
    refine hK.out _ _ ⟨hr1, hr2, hr3⟩ (fun hHeld => ?_)
    clear hK K
    refine norm_ (a' := ?_) ?_ ?_
    rotate_left
    ·show Act.put _ (some 64) _ = _
     simp only [Act.put, List.setIfInBounds_toArray, List.set_cons_zero, List.set_cons_succ, i64_w, i32_w]
     rfl
    refine done_ (done_of HT_.out (by kernel_rfl)) ?_
    obtain ⟨u, hu1, hu2, hu3⟩ := OZ.out
    have hz : wz.cell? ⟨go, 0, none⟩ = some u := (blk_cell hu1 0).trans rfl
    have U2 := Aside0.mk hu2
    clear hu1 hu2 hu3
    go_wp2
    go_ret
    exact ⟨_, m, rfl, M1.out, M2.out, M3.out, by rw [if_pos HMB.out, Nat.min_eq_right (by have := HMB.out; omega)]; exact U2.out, BZ.out⟩
   ·have hcb : decide ((Bt : Int) < (m : Int) + 1) = false := decide_eq_false (by have := M1.out; omega)
    have hcb2 : decide (Bt < m + 1) = false := decide_eq_false (by have := M1.out; omega)
    obtain ⟨u, hu1, hu2, hu3⟩ := OL.out
    have hz : wr.cell? ⟨go, 0, none⟩ = some u := (blk_cell hu1 0).trans rfl
    have U2 := Aside0.mk hu2
    have HMB := Aside0.mk hmb
    clear hu1 hu2 hu3 hmb
    go_wp2
    go_ret
    exact ⟨_, m, rfl, M1.out, M2.out, M3.out, by rw [if_neg HMB.out, List.append_nil]; exact U2.out, BL.out⟩


open Go.Proofs.Ytbmibakhpealjaa.TrieP Go.Proofs.Ytbmibakhpealjaa.Facts Go.Proofs.Ytbmibakhpealjaa.Bits
/-! ### Meeting, by lists -/
theorem ofE_range (l : List En) (a : Nat) : ∀ B, ofE l a B = (List.range B).flatMap (fun i => l.filter (atN i (nk a i)))
 | 0 => rfl
 | B + 1 => by rw [ofE, List.range_succ, List.flatMap_append, ← ofE_range l a B]; simp
def meetL (l : List En) (a : Nat) (b : Int) : List En := if rightB a b = true then l.filter (mt a b.toNat) else []
theorem meetL_len (l : List En) (a : Nat) (b : Int) : (meetL l a b).length ≤ l.length := by
 unfold meetL
 split
 ·exact List.length_filter_le _ _
 ·exact Nat.zero_le _
theorem meeting_.calls {w wo : World} {S : Nat → Prop} {tb : Nat} {l : List En} (h : TrL w wo S tb l) (hl : l.length ≤ 1000) (a : Nat) (ha : a < 4294967296) (b : Int) :
  Calls Try.prog 12 #[.pointer (some ⟨tb, 0, none⟩), .agg #[.int .u32 (a : Int), .int .i64 b]] wo fun e w' => ∃ v : Value, e = .returned v ∧ Kd.R k42 42 w' wo.heap.size (fun _ => True) v ((meetL l a b).map toS) ∧ Below wo.heap.size wo w' := by
 unfold meetL
 cases hrb : rightB a b with
 | false =>
  refine (meet_bad a b ha hrb wo tb).mono ?_
  rintro e w' ⟨rfl, hb⟩
  rw [if_neg (by decide)]
  exact ⟨_, rfl, Kd.R_nil _ _ _ _ _, hb⟩
 | true =>
  obtain ⟨n, rfl, hn, hz⟩ := right_rt hrb
  obtain ⟨⟨B, V, ht⟩, hs, hr⟩ := h
  have hlst := lst_eq hs hr (32 - n) n (nk a n) (by omega)
  rw [if_pos rfl, Int.toNat_natCast]
  refine (meet_walk a n ha hn hz w wo S tb (X l) B V _ ht (X_len hl) (by rw [hlst]; exact Nat.le_trans (List.length_filter_le _ _) hl)).mono ?_
  rintro e w' ⟨v, m, rfl, h1, h2, h3, ho, hb⟩
  refine ⟨v, rfl, ?_, hb⟩
  rw [hlst, accF_of hr] at ho
  rw [← meet_eq hs hr a n hn, ← ofE_range, List.map_append]
  by_cases hm : m = n
  ·rw [if_pos hm, Nat.min_eq_right (by omega)] at ho
   exact ho
  ·rw [if_neg hm, List.append_nil, Nat.min_eq_left (by omega)] at ho
   have hx := h3 (by omega)
   have h4 := ofE_stop hr a (m := m) (by omega) (fun _ => hx) (n - (m + 1)) (by omega)
   rw [show m + 1 + (n - (m + 1)) = n by omega] at h4
   rw [h4, X_none (X_none_up hr a hx n (by omega) hn), List.map_nil, List.append_nil]
   exact ho
theorem meet_at {w wo w1 : World} {S : Nat → Prop} {tb : Nat} {l : List En} (h : TrL w wo S tb l) (hb1 : Below wo.heap.size wo w1) (hl : l.length ≤ 1000) {a : Nat} {xa : Int} (ha : a < 4294967296) (hxa : xa = (a : Int)) (b : Int) :
  Calls Try.prog 12 #[.pointer (some ⟨tb, 0, none⟩), .agg #[.int .u32 xa, .int .i64 b]] w1 fun e w' => ∃ v : Value, e = .returned v ∧ Kd.R k42 42 w' w1.heap.size (fun _ => True) v ((meetL l a b).map toS) ∧ Below w1.heap.size w1 w' := by
 subst hxa
 exact meeting_.calls (h.below hb1) hl a ha b


open Go.Proofs.Ytbmibakhpealjaa.TrieP Go.Proofs.Ytbmibakhpealjaa.Facts Go.Proofs.Ytbmibakhpealjaa.Bits
theorem size42 : (Try.prog.info? 42).map (·.size) = some 3 := by kernel_rfl
theorem size35 : (Try.prog.info? 35).map (·.size) = some 4 := by kernel_rfl
theorem eqA42 (d : Nat) (w : World) (x0 y0 : Int) (x1 y1 : Int) (x2 y2 : Int) :
  (Op.equalIn (d + 3) 42 (.agg #[.int .u32 x0, .int .i64 x1, .int .i64 x2]) (.agg #[.int .u32 y0, .int .i64 y1, .int .i64 y2])).run Try.prog w = .ok ((x0 == y0 && (x1 == y1)) && (x2 == y2)) w := by
 refine eqA_of Try.underlying42 (by kernel_rfl) ?_
 refine eqf_cons (by rfl) (by go_simp) (by go_simp) (eqA33 (d + 0) w _ _ _ _) ?_
 exact eqf_last (by rfl) (by go_simp; rfl) (by go_simp; rfl) (by go_simp)
def eqS (x y : S42) : Bool := (y.f0.f0 == x.f0.f0 && y.f0.f1 == x.f0.f1) && y.f1 == x.f1
theorem any_eqS {x : S42} {rows : List S42} (h : x ∈ rows) : rows.any (eqS x) = true := List.any_eq_true.2 ⟨x, h, by simp [eqS]⟩
theorem take_any (rows : List S42) (f : S42 → Bool) {m : Nat} (hm : m < rows.length) : (rows.take (m + 1)).any f = ((rows.take m).any f || f rows[m]) := by
 rw [List.take_succ_eq_append_getElem hm, List.any_append]
 simp
theorem ofE_len (l : List En) (a : Nat) : ∀ i, (ofE l a i).length ≤ i * l.length
 | 0 => Nat.zero_le _
 | i + 1 => by
  rw [ofE, List.length_append, Nat.add_mul, Nat.one_mul]
  exact Nat.add_le_add (ofE_len l a i) (List.length_filter_le _ _)
theorem take_puts {os : List S35} {i : Nat} (hi : i < os.length) : putO (puts (os.take i)) (rd_T35 os (i : Int)) = puts (os.take (i + 1)) := by
 rw [List.take_succ_eq_append_getElem hi, puts_snoc]
 congr 1
 simp [rd_T35, List.getD, hi]
theorem rd_mem {os : List S35} {i : Nat} (hi : i < os.length) : rd_T35 os (i : Int) ∈ os := by
 have : rd_T35 os (i : Int) = os[i] := by simp [rd_T35, List.getD, hi]
 rw [this]
 exact List.getElem_mem hi
theorem k35_mk (w : World) (x : S35) : k35.K w x [.bool x.f0, .int .u32 x.f1.f0, .int .i64 x.f1.f1, .int .i64 x.f2] := ⟨[.bool x.f0], [.int .u32 x.f1.f0, .int .i64 x.f1.f1, .int .i64 x.f2], rfl, rfl, ⟨[.int .u32 x.f1.f0, .int .i64 x.f1.f1], [.int .i64 x.f2], rfl, k33_mk w x.f1, rfl⟩⟩
/-! #### one tree -/
structure One (w wl : World) (g : Nat) (l : List En) : Prop where
 mk :: (out : ∃ S : Nat → Prop, TrL w wl S g l)
section
variable {w wl w1 : World} {g : Nat} {l : List En}
theorem One.bl (h : One w wl g l) : Below w.heap.size w wl := h.out.choose_spec.bl
theorem One.below (h : One w wl g l) (hb : Below wl.heap.size wl w1) : One w w1 g l := ⟨_, h.out.choose_spec.below hb⟩
theorem One.rts (h : One w wl g l) : Rts l := h.out.choose_spec.rts
theorem One.srt (h : One w wl g l) : Srt l := h.out.choose_spec.srt
theorem One.add (h : One w wl g l) (hb : Below wl.heap.size wl w1) (hl : l.length ≤ 1000) {xa : Int} (h0 : 0 ≤ xa) (h1 : xa < 4294967296) (b x : Int) :
  Calls Try.prog 8 #[.pointer (some ⟨g, 0, none⟩), .agg #[.int .u32 xa, .int .i64 b], .int .i64 x] w1 fun e w' => e = .returned (.int .i64 (addL l xa.toNat b x).1) ∧ One w w' g (addL l xa.toNat b x).2 := by
 obtain ⟨S, ha⟩ := h.out
 refine (add_at (ha.below hb) (Below.refl _ _) hl (a := xa.toNat) (by omega) (by omega) b x).mono ?_
 rintro e w' ⟨rfl, h2, hk⟩
 exact ⟨rfl, _, h2⟩
theorem One.drop (h : One w wl g l) (hb : Below wl.heap.size wl w1) (hl : l.length ≤ 1000) {xa : Int} (h0 : 0 ≤ xa) (h1 : xa < 4294967296) (b x : Int) :
  Calls Try.prog 14 #[.pointer (some ⟨g, 0, none⟩), .agg #[.int .u32 xa, .int .i64 b], .int .i64 x] w1 fun e w' => e = .returned (.int .i64 (delL l xa.toNat b x).1) ∧ One w w' g (delL l xa.toNat b x).2 := by
 obtain ⟨S, ha⟩ := h.out
 refine (drop_at (ha.below hb) (Below.refl _ _) hl (a := xa.toNat) (by omega) (by omega) b x).mono ?_
 rintro e w' ⟨rfl, h2, hk⟩
 exact ⟨rfl, _, h2⟩
theorem One.of (h : One w wl g l) (hb : Below wl.heap.size wl w1) (hl : l.length ≤ 1000) {xa : Int} (h0 : 0 ≤ xa) (h1 : xa < 4294967296) :
  Calls Try.prog 11 #[.pointer (some ⟨g, 0, none⟩), .int .u32 xa] w1 fun e w' => ∃ v : Value, e = .returned v ∧ Kd.R k42 42 w' w1.heap.size (fun _ => True) v ((ofE l xa.toNat 33).map toS) ∧ Below w1.heap.size w1 w' := by
 obtain ⟨S, ha⟩ := h.out
 exact of_at (ha.below hb) (Below.refl _ _) hl (a := xa.toNat) (by omega) (by omega)
theorem One.meet (h : One w wl g l) (hb : Below wl.heap.size wl w1) (hl : l.length ≤ 1000) {xa : Int} (h0 : 0 ≤ xa) (h1 : xa < 4294967296) (b : Int) :
  Calls Try.prog 12 #[.pointer (some ⟨g, 0, none⟩), .agg #[.int .u32 xa, .int .i64 b]] w1 fun e w' => ∃ v : Value, e = .returned v ∧ Kd.R k42 42 w' w1.heap.size (fun _ => True) v ((meetL l xa.toNat b).map toS) ∧ Below w1.heap.size w1 w' := by
 obtain ⟨S, ha⟩ := h.out
 exact meet_at (ha.below hb) (Below.refl _ _) hl (a := xa.toNat) (by omega) (by omega) b
theorem One.all (h : One w wl g l) (hb : Below wl.heap.size wl w1) (hl : l.length ≤ 1000) :
  Calls Try.prog 9 #[.pointer (some ⟨g, 0, none⟩)] w1 fun e w' => ∃ v : Value, e = .returned v ∧ Kd.R k42 42 w' w1.heap.size (fun _ => True) v (l.map toS) ∧ Below w1.heap.size w1 w' := by
 obtain ⟨S, ha⟩ := h.out
 exact all_.calls (ha.below hb) hl
theorem One.size (h : One w wl g l) (hb : Below wl.heap.size wl w1) :
  Calls Try.prog 10 #[.pointer (some ⟨g, 0, none⟩)] w1 fun e w' => e = .returned (.int .i64 ((TrieP.sz (X l) 32 0 0 : Nat) : Int)) ∧ Below w1.heap.size w1 w' := by
 obtain ⟨S, ha⟩ := h.out
 exact tsize_.calls (ha.below hb)
theorem One.len (h : One w wl g l) (hb : Below wl.heap.size wl w1) :
  Calls Try.prog 13 #[.pointer (some ⟨g, 0, none⟩)] w1 fun e w' => e = .returned (.int .i64 (l.length : Int)) ∧ Below w1.heap.size w1 w' := by
 obtain ⟨S, ha⟩ := h.out
 exact len_.calls (ha.below hb)
end
/-! #### what an address has, and what it meets -/
theorem meet_of {l : List En} (hs : Srt l) (hr : Rts l) {a : Nat} (ha : a < 4294967296) : meetL l a 32 = ofE l a 33 := by
 have hrb : rightB (a : Int) 32 = true := rt_right (b := 32) (Nat.le_refl _) (by rw [Nat.sub_self, Nat.pow_zero, Nat.mod_one])
 unfold meetL
 rw [if_pos hrb, show (32 : Int).toNat = 32 from rfl, ← meet_eq hs hr a 32 (Nat.le_refl _), ← ofE_range]
 show _ = ofE l a 32 ++ _
 congr 1
 refine List.filter_congr (fun e he => ?_)
 rw [Bool.eq_iff_iff, win_iff, atN_iff]
 exact ⟨fun h => ⟨Nat.le_antisymm (hr e he).1 h.1, h.2⟩, fun h => ⟨Nat.le_of_eq h.1.symm, h.2⟩⟩
theorem of_filter {l : List En} (hs : Srt l) (hr : Rts l) {a : Nat} (ha : a < 4294967296) : ofE l a 33 = l.filter (fun e => decide (nk e.a e.b = nk a e.b)) := by
 have hrb : rightB (a : Int) 32 = true := rt_right (b := 32) (Nat.le_refl _) (by rw [Nat.sub_self, Nat.pow_zero, Nat.mod_one])
 rw [← meet_of hs hr ha]
 unfold meetL
 rw [if_pos hrb, show (32 : Int).toNat = 32 from rfl]
 refine List.filter_congr (fun e he => ?_)
 rw [Bool.eq_iff_iff]
 unfold TrieP.mt
 simp only [Bool.or_eq_true, Bool.and_eq_true, decide_eq_true_eq, win_iff]
 have := (hr e he).1
 constructor
 ·rintro (⟨_, h⟩ | ⟨h1, h2⟩)
  ·exact h
  ·rw [show e.b = 32 by omega]; exact h2
 ·intro h
  by_cases hb : e.b < 32
  ·exact .inl ⟨hb, h⟩
  ·refine .inr ⟨by omega, ?_⟩
   rw [show e.b = 32 by omega] at h
   exact h
theorem meet_whole {l : List En} (hr : Rts l) : meetL l 0 0 = l := by
 have hrb : rightB ((0 : Nat) : Int) 0 = true := rt_right (a := 0) (b := 0) (by decide) (by decide)
 unfold meetL
 rw [if_pos hrb, List.filter_eq_self]
 intro e he
 unfold TrieP.mt
 simp only [Bool.or_eq_true, Bool.and_eq_true, decide_eq_true_eq, win_iff]
 refine .inr ⟨Nat.zero_le _, ?_⟩
 show nk e.a 0 = nk 0 0
 rw [nk_zero (hr e he).2.1, nk_zero (by decide)]
theorem nk_addr {e : En} (he : rt e) : e.a = nk e.a e.b * 2 ^ (32 - e.b) := by
 have h := at_addr (b := e.b) (n := nk e.a e.b) (e := e) (atN_iff.2 ⟨rfl, rfl⟩) he
 exact congrArg En.a h
theorem of_le {e : En} (he : rt e) {a : Nat} (h : nk e.a e.b = nk a e.b) : e.a ≤ a := by
 rw [nk_addr he, h]
 exact Nat.div_mul_le_self _ _
theorem of_wider {x y : En} (hx : rt x) (hy : rt y) {a : Nat} (h1 : nk x.a x.b = nk a x.b) (h2 : nk y.a y.b = nk a y.b) (h : bef x y = true) : x.b ≤ y.b := by
 apply Classical.byContradiction
 intro hc
 have h3 : nk x.a y.b = nk a y.b := nk_le (show y.b ≤ x.b by omega) hx.1 h1
 have h4 : y.a ≤ x.a := by
  rw [nk_addr hy, h2, ← h3]
  exact Nat.div_mul_le_self _ _
 rw [bef_iff] at h
 omega
theorem of_next {l : List En} (hs : Srt l) (hr : Rts l) {a : Nat} (ha : a < 4294967296) {i : Nat} (hi : i + 1 < (ofE l a 33).length) :
  ((ofE l a 33)[i]).b ≤ ((ofE l a 33)[i + 1]).b ∧ (((ofE l a 33)[i]).a = ((ofE l a 33)[i + 1]).a → ((ofE l a 33)[i]).b = ((ofE l a 33)[i + 1]).b → ((ofE l a 33)[i]).v < ((ofE l a 33)[i + 1]).v) := by
 have hm : ∀ x ∈ ofE l a 33, rt x ∧ nk x.a x.b = nk a x.b := fun x hx => by
  rw [of_filter hs hr ha, List.mem_filter] at hx
  exact ⟨hr x hx.1, by simpa using hx.2⟩
 have hp : (ofE l a 33).Pairwise (fun x y => bef x y = true) := by
  rw [of_filter hs hr ha]
  exact List.Pairwise.filter _ hs
 have hb := List.pairwise_iff_getElem.1 hp i (i + 1) (by omega) hi (by omega)
 have m1 := hm _ (List.getElem_mem (show i < (ofE l a 33).length by omega))
 have m2 := hm _ (List.getElem_mem hi)
 refine ⟨of_wider m1.1 m2.1 m1.2 m2.2 hb, fun e1 e2 => ?_⟩
 rw [bef_iff] at hb
 omega
theorem of_mem {l : List En} (hs : Srt l) (hr : Rts l) {a : Nat} (ha : a < 4294967296) {x : En} (hx : x ∈ ofE l a 33) : rt x ∧ x.a ≤ a := by
 rw [of_filter hs hr ha, List.mem_filter] at hx
 exact ⟨hr x hx.1, of_le (hr x hx.1) (by simpa using hx.2)⟩


open Go.Proofs.Ytbmibakhpealjaa.TrieP Go.Proofs.Ytbmibakhpealjaa.Facts Go.Proofs.Ytbmibakhpealjaa.Bits
/-! ### The document's own list, in plain words -/
def toR (e : En) : S70 := ⟨⟨(e.a : Int), (e.b : Int)⟩, e.v⟩
theorem rd70 {l : List En} {i : Nat} (hi : i < l.length) : rd_T70 (l.map toR) (i : Int) = toR l[i] := by simp [rd_T70, List.getD, hi]
theorem right_ev {a : Nat} (ha : a < 4294967296) (b : Int) : Ev (fun k => crossbuckref03_Right.f k (a : Int) b) (rightB a b) := ⟨33, fun k hk => refRight_eq hk (by omega) (by omega)⟩
theorem has_ev {x : En} (hx : rt x) {a : Nat} (ha : a < 4294967296) : Ev (fun k => crossbuckref03_Has.f k (x.a : Int) (x.b : Int) (a : Int)) (decide (nk a x.b = nk x.a x.b)) := by
 refine ⟨33, fun k hk => ?_⟩
 have h1 := hx.1
 have h2 := hx.2.1
 show crossbuckref03_Has.f k (x.a : Int) (x.b : Int) (a : Int) = _
 rw [refHas_eq hk (by omega) (by omega) (by omega) (by omega) (by omega) (by omega)]
 congr 1
 rw [Bool.eq_iff_iff, hasB_iff, decide_eq_true_eq]
 unfold Facts.sz nk
 rw [show (32 - (x.b : Int)).toNat = 32 - x.b by omega]
 have e : (2 : Int) ^ (32 - x.b) = ((2 ^ (32 - x.b) : Nat) : Int) := by simp
 rw [e]
 constructor
 ·intro h; exact_mod_cast h
 ·intro h; exact_mod_cast h
theorem before_eq (x y : En) : crossbuckref10_before.f (x.a : Int) (x.b : Int) x.v (y.a : Int) (y.b : Int) y.v = some (bef x y) := by
 unfold crossbuckref10_before.f
 by_cases h1 : (x.a : Int) = y.a
 ·rw [if_pos h1]
  by_cases h2 : (x.b : Int) = y.b
  ·rw [if_pos h2]
   congr 1
   rw [Bool.eq_iff_iff, bef_iff, decide_eq_true_eq]
   omega
  ·rw [if_neg h2]
   congr 1
   rw [Bool.eq_iff_iff, bef_iff, decide_eq_true_eq]
   omega
 ·rw [if_neg h1]
  congr 1
  rw [Bool.eq_iff_iff, bef_iff, decide_eq_true_eq]
  omega
theorem same_en (x y : En) : ((((x.a : Int) == (y.a : Int) && ((x.b : Int) == (y.b : Int))) && (x.v == y.v)) = true) ↔ x = y := by
 simp only [Bool.and_eq_true, beq_iff_eq]
 constructor
 ·rintro ⟨⟨h1, h2⟩, h3⟩
  exact En.ext_ (by omega) (by omega) h3
 ·rintro rfl
  exact ⟨⟨rfl, rfl⟩, rfl⟩
/-! #### Drop -/
theorem del_succ (e : En) {l : List En} {i : Nat} (hi : i < l.length) : del e (l.take (i + 1)) = if l[i] = e then del e (l.take i) else del e (l.take i) ++ [l[i]] := by
 unfold del
 rw [List.take_succ_eq_append_getElem hi, List.filter_append]
 split
 ·rename_i h
  rw [List.filter_cons, if_neg (by simpa using h)]
  simp
 ·rename_i h
  rw [List.filter_cons, if_pos (by simpa using h)]
  simp
theorem drop_l (e : En) {l : List En} (hl : l.length ≤ 1000) : ∀ d i, i + d = l.length →
  Ev (fun k => crossbuckref10_Drop.l0 k (l.map toR) e.v ((del e (l.take i)).map toR) (i : Int) (e.a : Int) (e.b : Int)) (if (del e l).length = l.length then (l.map toR, 3) else ((del e l).map toR, 0)) := by
 intro d
 induction d with
 | zero =>
  intro i hi
  obtain rfl : i = l.length := by omega
  rw [List.take_length]
  refine Ev.step (fun k => ?_) (Ev.now _)
  rw [crossbuckref10_Drop.l0, if_neg (by rw [List.length_map]; omega)]
  by_cases h : (del e l).length = l.length
  ·rw [if_pos (by rw [List.length_map, List.length_map, h]), if_pos h]
  ·rw [if_neg (by rw [List.length_map, List.length_map]; omega), if_neg h]
 | succ d ih =>
  intro i hi
  have hlt : i < l.length := by omega
  have ih' := ih (i + 1) (by omega)
  have ew : wrap64 ((i : Int) + 1) = ((i + 1 : Nat) : Int) := wS (by omega)
  have hdl : (del e (l.take i)).length ≤ 1000 := Nat.le_trans (List.length_filter_le _ _) (by rw [List.length_take]; omega)
  by_cases he : l[i] = e
  ·refine Ev.step (fun k => ?_) ih'
   rw [crossbuckref10_Drop.l0, if_pos (by rw [List.length_map]; omega), if_pos (by omega), rd70 hlt, he, if_neg (by simp [toR]), ew, del_succ e hlt, if_pos he]
  ·refine Ev.step (fun k => ?_) ih'
   have hne : ((!((toR l[i]).f0.f0 == (e.a : Int)) || (!((toR l[i]).f0.f1 == (e.b : Int)))) || (!((toR l[i]).f1 == e.v))) = true := by
    rw [← Bool.not_and, ← Bool.not_and, Bool.not_eq_true']
    rw [Bool.eq_false_iff]
    exact fun h => he ((same_en _ _).1 h)
   rw [crossbuckref10_Drop.l0, if_pos (by rw [List.length_map]; omega), if_pos (by omega), rd70 hlt, if_pos hne, if_pos (by rw [List.length_map]; omega), ew, del_succ e hlt, if_neg he, List.map_append]
   rfl
theorem refdrop_ev {l : List En} (hs : Srt l) (hl : l.length ≤ 1000) {a : Nat} (ha : a < 4294967296) (b v : Int) : Ev (fun k => crossbuckref10_Drop.f k (l.map toR) (a : Int) b v) ((delL l a b v).2.map toR, (delL l a b v).1) := by
 unfold delL
 refine Ev.bind (right_ev ha b) ?_
 by_cases hr : rightB (a : Int) b = true
 ·rw [if_pos hr]
  obtain ⟨n, rfl, hn, hz⟩ := right_rt hr
  have h := drop_l ⟨a, n, v⟩ hl l.length 0 (by omega)
  rw [Int.toNat_natCast]
  simp only [hr, if_true]
  by_cases hm : (⟨a, n, v⟩ : En) ∈ l
  ·rw [if_pos hm]
   have := del_len hs hm
   rw [if_neg (by omega)] at h
   exact h
  ·rw [if_neg hm]
   rw [del_not hm, if_pos rfl] at h
   exact h
 ·rw [if_neg hr]
  simp only [hr]
  exact Ev.now _
/-! #### Add -/
theorem ins_at {e : En} : ∀ {l : List En} {i : Nat}, i ≤ l.length → (∀ j (hj : j < l.length), j < i → bef l[j] e = true) → (∀ h : i < l.length, bef l[i] e = false) → ins e l = l.take i ++ (e :: l.drop i)
 | [], i, hi, _, _ => by
  obtain rfl : i = 0 := by simpa using hi
  rfl
 | x :: l, 0, _, _, h => by
  have := h (by simp)
  rw [ins, if_neg (by rw [List.getElem_cons_zero] at this; rw [this]; decide)]
  rfl
 | x :: l, i + 1, hi, h1, h2 => by
  have := h1 0 (by simp) (by omega)
  rw [ins, if_pos (by simpa using this), ins_at (by simpa using hi) (fun j hj hji => h1 (j + 1) (by simpa using hj) (by omega)) (fun h => h2 (by simpa using h))]
  rfl
theorem add_l (e : En) {l : List En} (hs : Srt l) (hl : l.length ≤ 1000) : ∀ d i, i + d = l.length → (∀ j (hj : j < l.length), j < i → bef l[j] e = true) →
  Ev (fun k => crossbuckref10_Add.l0 k (l.map toR) (i : Int) (e.a : Int) (e.b : Int) e.v) (if e ∈ l then (l.map toR, 4) else ((ins e l).map toR, 0)) := by
 have hend : ∀ i, i ≤ l.length → ((l.map toR).take i ++ [toR e]) ++ (l.map toR).drop i = (l.take i ++ (e :: l.drop i)).map toR := fun i hi => by
  rw [List.map_append, List.map_cons, List.map_take, List.map_drop]
  simp
 intro d
 induction d with
 | zero =>
  intro i hi hb
  obtain rfl : i = l.length := by omega
  have hn : e ∉ l := fun hm => by
   obtain ⟨j, hj, he⟩ := List.getElem_of_mem hm
   have := hb j hj hj
   rw [he] at this
   exact bef_asymm this this
  refine Ev.step (fun k => ?_) (Ev.now _)
  rw [if_neg hn, ins_at (Nat.le_refl _) hb (fun h => by omega), ← hend _ (Nat.le_refl _)]
  rw [crossbuckref10_Add.l0, if_neg (by rw [List.length_map]; omega), if_pos (by omega), if_pos (by rw [List.length_map]; omega)]
  simp only [Option.bind_some, Int.toNat_natCast, List.nil_append, List.length_nil, Nat.zero_add]
  have h1 : ((l.map toR).take l.length).length ≤ 1000 := by rw [List.length_take, List.length_map]; omega
  have h2 : ((l.map toR).drop l.length).length ≤ 1000 := by rw [List.length_drop, List.length_map]; omega
  rw [if_pos (by omega), if_pos (by omega), if_pos (by rw [List.length_append]; simp only [List.length_cons, List.length_nil]; omega)]
  rfl
 | succ d ih =>
  intro i hi hb
  have hlt : i < l.length := by omega
  have ew : wrap64 ((i : Int) + 1) = ((i + 1 : Nat) : Int) := wS (by omega)
  cases hc : bef l[i] e with
  | true =>
   refine Ev.step (fun k => ?_) (ih (i + 1) (by omega) (fun j hj hji => by
    by_cases e1 : j = i
    ·subst e1; exact hc
    ·exact hb j hj (by omega)))
   rw [crossbuckref10_Add.l0, if_pos (by rw [List.length_map]; omega), if_pos (by omega), rd70 hlt]
   show (crossbuckref10_before.f (l[i].a : Int) (l[i].b : Int) l[i].v (e.a : Int) (e.b : Int) e.v).bind _ = _
   rw [before_eq, Option.bind_some, hc, if_pos rfl, ew]
  | false =>
   have hmem : e ∈ l ↔ l[i] = e := by
    constructor
    ·intro hm
     obtain ⟨j, hj, he⟩ := List.getElem_of_mem hm
     rcases Nat.lt_trichotomy j i with h | h | h
     ·have := hb j hj h
      rw [he] at this
      exact (bef_asymm this this).elim
     ·subst h; exact he
     ·have := List.pairwise_iff_getElem.1 hs i j hlt hj h
      rw [he, hc] at this
      cases this
    ·intro he
     rw [← he]
     exact List.getElem_mem hlt
   refine Ev.step (fun k => ?_) (Ev.now _)
   rw [crossbuckref10_Add.l0, if_pos (by rw [List.length_map]; omega), if_pos (by omega), rd70 hlt]
   show (crossbuckref10_before.f (l[i].a : Int) (l[i].b : Int) l[i].v (e.a : Int) (e.b : Int) e.v).bind _ = _
   rw [before_eq, Option.bind_some, hc, if_neg (by decide)]
   by_cases hm : l[i] = e
   ·have hyes : ((((toR l[i]).f0.f0 == (e.a : Int) && ((toR l[i]).f0.f1 == (e.b : Int))) && ((toR l[i]).f1 == e.v)) = true) := (same_en _ _).2 hm
    rw [if_pos hyes, if_pos (hmem.2 hm)]
   ·have hne : ¬ ((((toR l[i]).f0.f0 == (e.a : Int) && ((toR l[i]).f0.f1 == (e.b : Int))) && ((toR l[i]).f1 == e.v)) = true) := fun h => hm ((same_en _ _).1 h)
    rw [if_neg hne, if_neg (fun h => hm (hmem.1 h)), ins_at (Nat.le_of_lt hlt) hb (fun _ => hc), ← hend _ (Nat.le_of_lt hlt), if_pos (by rw [List.length_map]; omega)]
    simp only [Option.bind_some, Int.toNat_natCast, List.nil_append, List.length_nil, Nat.zero_add]
    have h1 : ((l.map toR).take i).length ≤ 1000 := by rw [List.length_take, List.length_map]; omega
    have h2 : ((l.map toR).drop i).length ≤ 1000 := by rw [List.length_drop, List.length_map]; omega
    rw [if_pos (by omega), if_pos (by omega), if_pos (by rw [List.length_append]; simp only [List.length_cons, List.length_nil]; omega)]
    rfl
theorem refadd_ev {l : List En} (hs : Srt l) (hl : l.length ≤ 1000) {a : Nat} (ha : a < 4294967296) (b v : Int) : Ev (fun k => crossbuckref10_Add.f k (l.map toR) (a : Int) b v) ((addL l a b v).2.map toR, (addL l a b v).1) := by
 unfold addL
 refine Ev.bind (right_ev ha b) ?_
 by_cases hr : rightB (a : Int) b = true
 ·rw [if_pos hr]
  obtain ⟨n, rfl, hn, hz⟩ := right_rt hr
  have h := add_l ⟨a, n, v⟩ hs hl l.length 0 (by omega) (fun j hj h => by omega)
  rw [Int.toNat_natCast]
  simp only [hr, if_true]
  by_cases hm : (⟨a, n, v⟩ : En) ∈ l
  ·rw [if_pos hm]
   rw [if_pos hm] at h
   exact h
  ·rw [if_neg hm]
   rw [if_neg hm] at h
   exact h
 ·rw [if_neg hr]
  simp only [hr]
  exact Ev.now _
/-! #### Of, Meeting, same -/
theorem filter_succ (p : En → Bool) {l : List En} {i : Nat} (hi : i < l.length) : (l.take (i + 1)).filter p = if p l[i] = true then (l.take i).filter p ++ [l[i]] else (l.take i).filter p := by
 rw [List.take_succ_eq_append_getElem hi, List.filter_append]
 split
 ·rename_i h
  rw [List.filter_cons, if_pos h]
  rfl
 ·rename_i h
  rw [List.filter_cons, if_neg h]
  simp
theorem of_l1 {l : List En} (hr : Rts l) (hl : l.length ≤ 1000) {a : Nat} (ha : a < 4294967296) (n : Nat) (hn : n ≤ 32) {r : List S70} (hc : Ev (fun k => crossbuckref10_Of.l0 k (l.map toR) (a : Int) ((ofE l a (n + 1)).map toR) ((n + 1 : Nat) : Int)) r) : ∀ d i, i + d = l.length →
  Ev (fun k => crossbuckref10_Of.l1 k (l.map toR) (a : Int) ((ofE l a n ++ (l.take i).filter (atN n (nk a n))).map toR) (n : Int) (i : Int)) r := by
 intro d
 induction d with
 | zero =>
  intro i hi
  obtain rfl : i = l.length := by omega
  rw [List.take_length]
  refine Ev.step (fun k => ?_) hc
  rw [crossbuckref10_Of.l1, if_neg (by rw [List.length_map]; omega), wS (by omega)]
  rfl
 | succ d ih =>
  intro i hi
  have hlt : i < l.length := by omega
  have ih' := ih (i + 1) (by omega)
  have ew : wrap64 ((i : Int) + 1) = ((i + 1 : Nat) : Int) := wS (by omega)
  have hx := hr _ (List.getElem_mem hlt)
  have hlen : (ofE l a n ++ (l.take i).filter (atN n (nk a n))).length ≤ 100000 := by
   have h1 := ofE_len l a n
   have h2 : n * l.length ≤ 32 * 1000 := Nat.mul_le_mul hn hl
   have h3 := List.length_filter_le (atN n (nk a n)) (l.take i)
   rw [List.length_take] at h3
   rw [List.length_append]
   omega
  by_cases hb : l[i].b = n
  ·have hat : atN n (nk a n) l[i] = decide (nk a l[i].b = nk l[i].a l[i].b) := by
    rw [Bool.eq_iff_iff, atN_iff, decide_eq_true_eq, hb]
    exact ⟨fun h => h.2.symm, fun h => ⟨rfl, h.symm⟩⟩
   refine Ev.step (f := fun k => (crossbuckref03_Has.f k (l[i].a : Int) (l[i].b : Int) (a : Int)).bind fun t194 => (if t194 = true then (if ((ofE l a n ++ (l.take i).filter (atN n (nk a n))).map toR).length < 5864062014805 then (crossbuckref10_Of.l1 k (l.map toR) (a : Int) ((ofE l a n ++ (l.take i).filter (atN n (nk a n))).map toR ++ [toR l[i]]) (n : Int) (((i + 1 : Nat) : Int))) else none) else (crossbuckref10_Of.l1 k (l.map toR) (a : Int) ((ofE l a n ++ (l.take i).filter (atN n (nk a n))).map toR) (n : Int) (((i + 1 : Nat) : Int))))) (fun k => ?_) (Ev.bind (has_ev hx ha) ?_)
   ·rw [crossbuckref10_Of.l1, if_pos (by rw [List.length_map]; omega), if_pos (by omega), rd70 hlt, if_pos (by show (l[i].b : Int) = n; omega), ew]
    rfl
   ·rw [← hat]
    rw [filter_succ _ hlt] at ih'
    cases hp : atN n (nk a n) l[i] with
    | true =>
     rw [hp, if_pos rfl] at ih'
     simp only [if_true]
     simp only [if_pos (show ((ofE l a n ++ (l.take i).filter (atN n (nk a n))).map toR).length < 5864062014805 by rw [List.length_map]; omega)]
     rw [← List.append_assoc, List.map_append] at ih'
     exact ih'
    | false =>
     rw [hp, if_neg (by decide)] at ih'
     simp only [Bool.false_eq_true, if_false]
     exact ih'
  ·refine Ev.step (fun k => ?_) ih'
   rw [crossbuckref10_Of.l1, if_pos (by rw [List.length_map]; omega), if_pos (by omega), rd70 hlt, if_neg (by show ¬ (l[i].b : Int) = n; omega), ew, filter_succ _ hlt, if_neg]
   rw [atN_iff]
   exact fun h => hb h.1
theorem refof_ev {l : List En} (hr : Rts l) (hl : l.length ≤ 1000) {a : Nat} (ha : a < 4294967296) : Ev (fun k => crossbuckref10_Of.f k (l.map toR) (a : Int)) ((ofE l a 33).map toR) := by
 have h : ∀ d n, n + d = 33 → Ev (fun k => crossbuckref10_Of.l0 k (l.map toR) (a : Int) ((ofE l a n).map toR) (n : Int)) ((ofE l a 33).map toR) := by
  intro d
  induction d with
  | zero =>
   intro n hn
   obtain rfl : n = 33 := by omega
   exact Ev.step (fun k => by rw [crossbuckref10_Of.l0, if_neg (by omega)]) (Ev.now _)
  | succ d ih =>
   intro n hn
   have h1 := of_l1 hr hl ha n (by omega) (ih (n + 1) (by omega)) l.length 0 (by omega)
   refine Ev.step (fun k => by rw [crossbuckref10_Of.l0, if_pos (by omega)]) ?_
   simpa using h1
 exact h 33 0 (by omega)
theorem meet_test {n a : Nat} (hn : n ≤ 32) (hz : a % 2 ^ (32 - n) = 0) (ha : a < 4294967296) {q : En} (hq : rt q) : (q.b ≤ n ∧ nk a q.b = nk q.a q.b) ∨ (n ≤ q.b ∧ nk q.a n = nk a n) ↔ TrieP.mt a n q = true := by
 unfold TrieP.mt
 simp only [Bool.or_eq_true, Bool.and_eq_true, decide_eq_true_eq, win_iff]
 constructor
 ·rintro (⟨h1, h2⟩ | h)
  ·by_cases e : q.b = n
   ·exact .inr ⟨by omega, by rw [← e]; exact h2.symm⟩
   ·exact .inl ⟨by omega, h2.symm⟩
  ·exact .inr h
 ·rintro (⟨h1, h2⟩ | h)
  ·exact .inl ⟨by omega, h2.symm⟩
  ·exact .inr h
theorem meet_l {l : List En} (hr : Rts l) (hl : l.length ≤ 1000) {a : Nat} (ha : a < 4294967296) (b : Int) : ∀ d i, i + d = l.length →
  Ev (fun k => crossbuckref10_Meeting.l0 k (l.map toR) ((meetL (l.take i) a b).map toR) (i : Int) (a : Int) b) ((meetL l a b).map toR) := by
 intro d
 induction d with
 | zero =>
  intro i hi
  obtain rfl : i = l.length := by omega
  rw [List.take_length]
  exact Ev.step (fun k => by rw [crossbuckref10_Meeting.l0, if_neg (by rw [List.length_map]; omega)]) (Ev.now _)
 | succ d ih =>
  intro i hi
  have hlt : i < l.length := by omega
  have ih' := ih (i + 1) (by omega)
  have ew : wrap64 ((i : Int) + 1) = ((i + 1 : Nat) : Int) := wS (by omega)
  have hx := hr _ (List.getElem_mem hlt)
  have hlen : (meetL (l.take i) a b).length ≤ 1000 := by
   have := meetL_len (l.take i) a b
   rw [List.length_take] at this
   omega
  by_cases hrb : rightB (a : Int) b = true
  ·obtain ⟨n, rfl, hn, hz⟩ := right_rt hrb
   have hp : rt ⟨a, n, 0⟩ := ⟨hn, ha, hz⟩
   have ht := meet_test hn hz ha hx
   have e0 : ∀ j, meetL (l.take j) a (n : Int) = (l.take j).filter (TrieP.mt a n) := fun j => by unfold meetL; rw [if_pos hrb, Int.toNat_natCast]
   have yes : TrieP.mt a n l[i] = true → Ev (fun k => crossbuckref10_Meeting.l0 k (l.map toR) ((meetL (l.take i) a (n : Int)).map toR ++ [toR l[i]]) (((i + 1 : Nat) : Int)) (a : Int) (n : Int)) ((meetL l a n).map toR) := fun hm => by
    rw [e0, filter_succ _ hlt, if_pos hm, ← e0, List.map_append] at ih'
    exact ih'
   have no : ¬ TrieP.mt a n l[i] = true → Ev (fun k => crossbuckref10_Meeting.l0 k (l.map toR) ((meetL (l.take i) a (n : Int)).map toR) (((i + 1 : Nat) : Int)) (a : Int) (n : Int)) ((meetL l a n).map toR) := fun hm => by
    rw [e0, filter_succ _ hlt, if_neg hm, ← e0] at ih'
    exact ih'
   refine Ev.step (fun k => by rw [crossbuckref10_Meeting.l0, if_pos (by rw [List.length_map]; omega), if_pos (by omega), rd70 hlt, ew]) (Ev.bind (right_ev ha _) ?_)
   simp only [hrb, if_true]
   by_cases h1 : l[i].b ≤ n
   ·simp only [if_pos (show (toR l[i]).f0.f1 ≤ (n : Int) from by show (l[i].b : Int) ≤ n; omega)]
    refine Ev.bind (has_ev hx ha) ?_
    by_cases h2 : nk a l[i].b = nk l[i].a l[i].b
    ·simp only [decide_eq_true h2, if_true]
     simp only [if_pos (show ((meetL (l.take i) a (n : Int)).map toR).length < 5864062014805 by rw [List.length_map]; omega)]
     exact yes (ht.1 (.inl ⟨h1, h2⟩))
    ·simp only [decide_eq_false h2, Bool.false_eq_true, if_false]
     by_cases h3 : n ≤ l[i].b
     ·simp only [if_pos (show (n : Int) ≤ (toR l[i]).f0.f1 from by show (n : Int) ≤ (l[i].b : Int); omega)]
      refine Ev.bind (has_ev hp hx.2.1) ?_
      by_cases h4 : nk l[i].a n = nk a n
      ·simp only [decide_eq_true h4, if_true]
       simp only [if_pos (show ((meetL (l.take i) a (n : Int)).map toR).length < 5864062014805 by rw [List.length_map]; omega)]
       exact yes (ht.1 (.inr ⟨h3, h4⟩))
      ·simp only [decide_eq_false h4, Bool.false_eq_true, if_false]
       exact no (fun hm => (ht.2 hm).elim (fun h => h2 h.2) (fun h => h4 h.2))
     ·simp only [if_neg (show ¬ (n : Int) ≤ (toR l[i]).f0.f1 from by show ¬ (n : Int) ≤ (l[i].b : Int); omega)]
      exact no (fun hm => (ht.2 hm).elim (fun h => h2 h.2) (fun h => h3 h.1))
   ·simp only [if_neg (show ¬ (toR l[i]).f0.f1 ≤ (n : Int) from by show ¬ (l[i].b : Int) ≤ n; omega)]
    simp only [if_pos (show (n : Int) ≤ (toR l[i]).f0.f1 from by show (n : Int) ≤ (l[i].b : Int); omega)]
    refine Ev.bind (has_ev hp hx.2.1) ?_
    by_cases h4 : nk l[i].a n = nk a n
    ·simp only [decide_eq_true h4, if_true]
     simp only [if_pos (show ((meetL (l.take i) a (n : Int)).map toR).length < 5864062014805 by rw [List.length_map]; omega)]
     exact yes (ht.1 (.inr ⟨by omega, h4⟩))
    ·simp only [decide_eq_false h4, Bool.false_eq_true, if_false]
     exact no (fun hm => (ht.2 hm).elim (fun h => h1 h.1) (fun h => h4 h.2))
  ·have e0 : ∀ m, meetL m a b = [] := fun m => by unfold meetL; rw [if_neg hrb]
   rw [e0] at ih' ⊢
   refine Ev.step (fun k => by rw [crossbuckref10_Meeting.l0, if_pos (by rw [List.length_map]; omega), if_pos (by omega), ew]) (Ev.bind (right_ev ha _) ?_)
   simp only [hrb, Bool.false_eq_true, if_false]
   exact ih'
theorem refmeet_ev {l : List En} (hr : Rts l) (hl : l.length ≤ 1000) {a : Nat} (ha : a < 4294967296) (b : Int) : Ev (fun k => crossbuckref10_Meeting.f k (l.map toR) (a : Int) b) ((meetL l a b).map toR) := by
 have h := meet_l hr hl ha b l.length 0 (by omega)
 have e : meetL (l.take 0) a b = [] := by unfold meetL; simp
 rw [e] at h
 exact h
theorem same_ev {l : List En} (hl : l.length ≤ 1000000) : Ev (fun k => crossbucklaw10_same.f k (l.map toS) (l.map toR)) true := by
 have h : ∀ d i, i + d = l.length → Ev (fun k => crossbucklaw10_same.l0 k (l.map toS) (l.map toR) (l.length : Int) (i : Int)) true := by
  intro d
  induction d with
  | zero =>
   intro i hi
   exact Ev.step (fun k => by rw [crossbucklaw10_same.l0, if_neg (by omega)]) (Ev.now _)
  | succ d ih =>
   intro i hi
   have hlt : i < l.length := by omega
   have hrd : rd_T42 (l.map toS) (i : Int) = toS l[i] := by simp [rd_T42, List.getD, hlt]
   refine Ev.step (fun k => ?_) (ih (i + 1) (by omega))
   rw [crossbucklaw10_same.l0, if_pos (by omega), if_pos (by omega), if_pos (by rw [List.length_map]; omega), if_pos (by rw [List.length_map]; omega), rd70 hlt, hrd, if_neg (by simp [toS, toR]), if_pos (show (toS l[i]).f1 = (toR l[i]).f1 from rfl), wS (by omega)]
 have h0 := h l.length 0 (by omega)
 refine Ev.congr (fun k => ?_) h0
 unfold crossbucklaw10_same.f
 rw [if_pos (by rw [List.length_map, List.length_map]), List.length_map]
 rfl


open Go.Proofs.Ytbmibakhpealjaa.TrieP Go.Proofs.Ytbmibakhpealjaa.Facts Go.Proofs.Ytbmibakhpealjaa.Bits
/-! #### Size -/
def seenF : List Nat → List Nat → List Nat
 | s, [] => s
 | s, x :: xs => seenF (if x ∈ s then s else s ++ [x]) xs
theorem seenF_inv : ∀ (xs s : List Nat), s.Nodup → (seenF s xs).Nodup ∧ (∀ y, y ∈ seenF s xs ↔ y ∈ s ∨ y ∈ xs) ∧ (seenF s xs).length ≤ s.length + xs.length
 | [], s, h => ⟨h, fun y => by simp [seenF], by simp [seenF]⟩
 | x :: xs, s, h => by
  rw [seenF]
  by_cases hx : x ∈ s
  ·rw [if_pos hx]
   obtain ⟨h1, h2, h3⟩ := seenF_inv xs s h
   refine ⟨h1, fun y => ?_, by rw [List.length_cons]; omega⟩
   rw [h2, List.mem_cons]
   constructor
   ·rintro (h | h)
    ·exact .inl h
    ·exact .inr (.inr h)
   ·rintro (h | h | h)
    ·exact .inl h
    ·exact .inl (h ▸ hx)
    ·exact .inr h
  ·rw [if_neg hx]
   have hn : (s ++ [x]).Nodup := by
    rw [List.nodup_append]
    exact ⟨h, by simp, fun a ha b hb e => hx (by rw [List.mem_singleton.1 hb] at e; rw [← e]; exact ha)⟩
   obtain ⟨h1, h2, h3⟩ := seenF_inv xs (s ++ [x]) hn
   refine ⟨h1, fun y => ?_, by rw [List.length_cons]; rw [List.length_append, List.length_singleton] at h3; omega⟩
   rw [h2, List.mem_cons, List.mem_append, List.mem_singleton, or_assoc]
theorem seenF_snoc (x : Nat) : ∀ (xs s : List Nat), seenF s (xs ++ [x]) = (if x ∈ seenF s xs then seenF s xs else seenF s xs ++ [x])
 | [], s => rfl
 | y :: xs, s => by
  rw [List.cons_append, seenF, seenF_snoc x xs, seenF]
theorem dc_nodup : ∀ (xs s : List Nat), s.Nodup → (∀ y, y ∈ s ↔ y ∈ xs) → s.length = dc xs
 | [], s, _, h => by
  have : s = [] := List.eq_nil_iff_forall_not_mem.2 (fun y hy => by have := (h y).1 hy; cases this)
  rw [this]
  rfl
 | x :: xs, s, hn, h => by
  rw [dc]
  by_cases hx : x ∈ xs
  ·rw [if_pos hx, Nat.zero_add]
   refine dc_nodup xs s hn (fun y => ?_)
   rw [h, List.mem_cons]
   exact ⟨fun h => h.elim (fun e => e ▸ hx) id, .inr⟩
  ·rw [if_neg hx]
   have hs : x ∈ s := (h x).2 List.mem_cons_self
   have h1 := dc_nodup xs (s.erase x) (hn.erase x) (fun y => by
    rw [hn.mem_erase_iff, h, List.mem_cons]
    constructor
    ·rintro ⟨h1, h2 | h2⟩
     ·exact (h1 h2).elim
     ·exact h2
    ·intro h1
     exact ⟨fun e => hx (e ▸ h1), .inr h1⟩)
   rw [List.length_erase_of_mem hs] at h1
   have := List.length_pos_of_mem hs
   omega
theorem seen_dc (xs : List Nat) : (seenF [] xs).length = dc xs := by
 obtain ⟨h1, h2, _⟩ := seenF_inv xs [] List.nodup_nil
 exact dc_nodup xs _ h1 (fun y => by rw [h2]; simp)
def castL (s : List Nat) : List Int := s.map Int.ofNat
theorem castL_snoc (s : List Nat) (x : Nat) : castL (s ++ [x]) = castL s ++ [(x : Int)] := by simp [castL]
theorem rd_cast {s : List Nat} {j : Nat} (hj : j < s.length) : rd (castL s) (j : Int) = (s[j] : Int) := by simp [rd, castL, List.getD, hj]
theorem shr_u64 (x s : Nat) (hs : s ≤ 64) : shr .u64 (x : Int) (s : Int) = ((x / 2 ^ s : Nat) : Int) := by
 unfold shr
 have e : (64 : Nat) = IntKind.bits .u64 := rfl
 rw [← e, Int.toNat_natCast, Nat.min_eq_left (by omega)]
 simp
theorem heads_take {l : List En} {c i : Nat} (hi : i < l.length) : heads (l.take (i + 1)) c = if c ≤ l[i].b then heads (l.take i) c ++ [nk l[i].a c] else heads (l.take i) c := by
 unfold heads
 rw [filter_succ _ hi]
 by_cases h : c ≤ l[i].b
 ·rw [if_pos (by simpa using h), if_pos h, List.map_append]
  rfl
 ·rw [if_neg (by simpa using h), if_neg h]
theorem size_l2 {l : List En} (x3 : Int) (c i x : Nat) (s : List Nat) (hs : s.length ≤ 100000) {r : Int} (hi : i ≤ 100000)
  (hc : Ev (fun k => crossbuckref10_Size.l1 k (l.map toR) x3 (c : Int) (castL (if x ∈ s then s else s ++ [x])) ((i + 1 : Nat) : Int)) r) : ∀ d j, j + d = s.length →
  Ev (fun k => crossbuckref10_Size.l2 k (l.map toR) x3 (c : Int) (castL s) (i : Int) (x : Int) (decide (x ∈ s.take j)) (j : Int)) r := by
 have hlen : (castL s).length = s.length := by simp [castL]
 intro d
 induction d with
 | zero =>
  intro j hj
  obtain rfl : j = s.length := by omega
  rw [List.take_length]
  by_cases hx : x ∈ s
  ·rw [if_pos hx] at hc
   refine Ev.step (fun k => ?_) hc
   rw [crossbuckref10_Size.l2, if_neg (by omega), decide_eq_true hx, if_pos rfl, wS (by omega)]
  ·rw [if_neg hx] at hc
   refine Ev.step (fun k => ?_) hc
   rw [crossbuckref10_Size.l2, if_neg (by omega), decide_eq_false hx, if_neg (by decide), if_pos (by omega), wS (by omega), castL_snoc]
 | succ d ih =>
  intro j hj
  have hlt : j < s.length := by omega
  have ih' := ih (j + 1) (by omega)
  have ew : wrap64 ((j : Int) + 1) = ((j + 1 : Nat) : Int) := wS (by omega)
  have et : (x ∈ s.take (j + 1)) ↔ x ∈ s.take j ∨ x = s[j] := by rw [List.take_succ_eq_append_getElem hlt, List.mem_append, List.mem_singleton]
  by_cases hx : x ∈ s.take j
  ·refine Ev.step (fun k => ?_) ih'
   rw [crossbuckref10_Size.l2, if_pos (by omega), decide_eq_true hx, if_pos rfl, ew, decide_eq_true (et.2 (.inl hx))]
  ·refine Ev.step (fun k => ?_) ih'
   rw [crossbuckref10_Size.l2, if_pos (by omega), decide_eq_false hx, if_neg (by decide), if_pos (by omega), ew, rd_cast hlt]
   congr 1
   rw [Bool.eq_iff_iff, decide_eq_true_eq, beq_iff_eq, et]
   constructor
   ·intro h
    exact .inr (by omega)
   ·rintro (h | h)
    ·exact (hx h).elim
    ·omega
theorem size_l1 {l : List En} (hr : Rts l) (hl : l.length ≤ 1000) (x3 : Int) (c : Nat) (hc0 : 1 ≤ c) (hc1 : c ≤ 32) {r : Int}
  (hc : Ev (fun k => crossbuckref10_Size.l0 k (l.map toR) (wrap64 (x3 + (dc (heads l c) : Nat))) ((c + 1 : Nat) : Int)) r) : ∀ d i, i + d = l.length →
  Ev (fun k => crossbuckref10_Size.l1 k (l.map toR) x3 (c : Int) (castL (seenF [] (heads (l.take i) c))) (i : Int)) r := by
 have hsl : ∀ i, (seenF [] (heads (l.take i) c)).length ≤ 1000 := fun i => by
  obtain ⟨_, _, h3⟩ := seenF_inv (heads (l.take i) c) [] List.nodup_nil
  have h4 : (heads (l.take i) c).length ≤ 1000 := by
   unfold heads
   rw [List.length_map]
   exact Nat.le_trans (List.length_filter_le _ _) (by rw [List.length_take]; omega)
  simp only [List.length_nil] at h3
  omega
 intro d
 induction d with
 | zero =>
  intro i hi
  obtain rfl : i = l.length := by omega
  rw [List.take_length]
  refine Ev.step (fun k => ?_) hc
  rw [crossbuckref10_Size.l1, if_neg (by rw [List.length_map]; omega), wS (by omega)]
  rw [show (castL (seenF [] (heads l c))).length = dc (heads l c) by unfold castL; rw [List.length_map, seen_dc]]
 | succ d ih =>
  intro i hi
  have hlt : i < l.length := by omega
  have ih' := ih (i + 1) (by omega)
  have ew : wrap64 ((i : Int) + 1) = ((i + 1 : Nat) : Int) := wS (by omega)
  have hx := hr _ (List.getElem_mem hlt)
  rw [heads_take hlt] at ih'
  by_cases hb : c ≤ l[i].b
  ·rw [if_pos hb, seenF_snoc] at ih'
   have h2 := size_l2 (l := l) x3 c i (nk l[i].a c) (seenF [] (heads (l.take i) c)) (by have := hsl i; omega) (by omega) ih' _ 0 (Nat.zero_add _)
   refine Ev.step (fun k => ?_) h2
   have e32 : wrap64 (32 - (c : Int)) = ((32 - c : Nat) : Int) := by rw [wrap64_id _ (by omega) (by omega)]; omega
   have ha := hx.2.1
   have eu : IntKind.u64.wrap ((l[i].a : Nat) : Int) = ((l[i].a : Nat) : Int) := by rw [wrap_u64]; omega
   have ed : ((l[i].a / 2 ^ (32 - c) : Nat) : Int) % 4294967296 = ((nk l[i].a c : Nat) : Int) := by
    have hle : l[i].a / 2 ^ (32 - c) ≤ l[i].a := Nat.div_le_self _ _
    unfold nk
    generalize l[i].a / 2 ^ (32 - c) = y at hle ⊢
    omega
   rw [crossbuckref10_Size.l1, if_pos (by rw [List.length_map]; omega), if_pos (by omega), rd70 hlt, if_neg (by show ¬ (l[i].b : Int) < c; omega), e32, if_pos (by omega)]
   show crossbuckref10_Size.l2 k _ _ _ _ _ (shr .u64 (IntKind.u64.wrap ((l[i].a : Nat) : Int)) ((32 - c : Nat) : Int) % 4294967296) false 0 = _
   rw [eu, shr_u64 _ _ (by omega), ed]
   rfl
  ·rw [if_neg hb] at ih'
   refine Ev.step (fun k => ?_) ih'
   rw [crossbuckref10_Size.l1, if_pos (by rw [List.length_map]; omega), if_pos (by omega), rd70 hlt, if_pos (by show (l[i].b : Int) < c; omega), ew]
def psum (f : Nat → Nat) : Nat → Nat
 | 0 => 0
 | n + 1 => psum f n + f n
theorem psum_sumTo (f : Nat → Nat) : ∀ n, psum f (n + 1) = sumTo f n
 | 0 => by simp [psum, sumTo]
 | n + 1 => by rw [psum, psum_sumTo f n, sumTo]
theorem dc_le : ∀ xs : List Nat, dc xs ≤ xs.length
 | [] => Nat.le_refl _
 | x :: xs => by
  rw [dc, List.length_cons]
  have := dc_le xs
  split <;> omega
theorem heads_len (l : List En) (c : Nat) : (heads l c).length ≤ l.length := by
 unfold heads
 rw [List.length_map]
 exact List.length_filter_le _ _
theorem psum_le {l : List En} (hl : l.length ≤ 1000) : ∀ n, psum (fun j => dc (heads l (j + 1))) n ≤ n * 1000
 | 0 => Nat.le_refl _
 | n + 1 => by
  rw [psum]
  have h1 := psum_le hl n
  have h2 := dc_le (heads l (n + 1))
  have h3 := heads_len l (n + 1)
  omega
theorem refsize_ev {l : List En} (hr : Rts l) (hl : l.length ≤ 1000) : Ev (fun k => crossbuckref10_Size.f k (l.map toR)) ((TrieP.sz (X l) 32 0 0 : Nat) : Int) := by
 have h : ∀ d n, n + d = 32 → Ev (fun k => crossbuckref10_Size.l0 k (l.map toR) ((1 + psum (fun j => dc (heads l (j + 1))) n : Nat) : Int) ((n + 1 : Nat) : Int)) ((TrieP.sz (X l) 32 0 0 : Nat) : Int) := by
  intro d
  induction d with
  | zero =>
   intro n hn
   obtain rfl : n = 32 := by omega
   rw [sz_all hr, ← psum_sumTo]
   exact Ev.step (fun k => by rw [crossbuckref10_Size.l0, if_neg (by omega)]) (Ev.now _)
  | succ d ih =>
   intro n hn
   have h1 := ih (n + 1) (by omega)
   have hp := psum_le hl n
   have h2 := dc_le (heads l (n + 1))
   have h3 := heads_len l (n + 1)
   have h4 : n * 1000 ≤ 32000 := by omega
   have e : wrap64 (((1 + psum (fun j => dc (heads l (j + 1))) n : Nat) : Int) + (dc (heads l (n + 1)) : Nat)) = ((1 + psum (fun j => dc (heads l (j + 1))) (n + 1) : Nat) : Int) := by
    rw [wrap64_id _ (by omega) (by omega), psum]
    omega
   have h5 := size_l1 hr hl ((1 + psum (fun j => dc (heads l (j + 1))) n : Nat) : Int) (n + 1) (by omega) (by omega) (r := ((TrieP.sz (X l) 32 0 0 : Nat) : Int)) (by rw [e]; exact h1) l.length 0 (by omega)
   have e0 : castL (seenF [] (heads (l.take 0) (n + 1))) = [] := rfl
   rw [e0] at h5
   refine Ev.step (fun k => by rw [crossbuckref10_Size.l0, if_pos (by omega)]) ?_
   exact h5
 exact h 32 0 (by omega)


open Go.Proofs.Ytbmibakhpealjaa.TrieP Go.Proofs.Ytbmibakhpealjaa.Facts Go.Proofs.Ytbmibakhpealjaa.Bits
/-! #### the tree beside the document's list, and a prefix in a variable -/
structure Pz (w wl : World) (g : Nat) (l : List En) (v : Value) (m : List S70) (gp : Nat) (pa pb : Int) : Prop where
 mk :: (out : ∃ S : Nat → Prop, TrL w wl S g l ∧ (∀ k, S k → k < wl.heap.size) ∧ Kd.R k70 70 wl w.heap.size (fun k => ¬ S k) v m ∧ ¬ S gp ∧ wl.heap[gp]? = some (.cells #[.int .u32 pa, .int .i64 pb] 33 (0, 0)))
section
variable {w wl w1 : World} {g gp : Nat} {l : List En} {v : Value} {m : List S70} {pa pb : Int}
theorem Pz.bl (h : Pz w wl g l v m gp pa pb) : Below w.heap.size w wl := h.out.choose_spec.1.bl
theorem Pz.srt (h : Pz w wl g l v m gp pa pb) : Srt l := h.out.choose_spec.1.srt
theorem Pz.rts (h : Pz w wl g l v m gp pa pb) : Rts l := h.out.choose_spec.1.rts
theorem Pz.row (h : Pz w wl g l v m gp pa pb) : Kd.R k70 70 wl w.heap.size (fun _ => True) v m := Kd.R_mono h.out.choose_spec.2.2.1 (fun _ _ => trivial)
theorem Pz.box (h : Pz w wl g l v m gp pa pb) : wl.heap[gp]? = some (.cells #[.int .u32 pa, .int .i64 pb] 33 (0, 0)) := h.out.choose_spec.2.2.2.2
theorem Pz.below (h : Pz w wl g l v m gp pa pb) (hb : Below wl.heap.size wl w1) : Pz w w1 g l v m gp pa pb := by
 obtain ⟨S, h1, h2, h3, h4, h5⟩ := h.out
 exact ⟨S, h1.below hb, fun k hk => Nat.lt_of_lt_of_le (h2 k hk) hb.size, Kd.R_below h3 hb, h4, blk_below h5 hb⟩
theorem Pz.new {S : Nat → Prop} (h : TrL w wl S g l) (hS : ∀ k, S k → k < wl.heap.size) (hg : ¬ S gp) (hb : wl.heap[gp]? = some (.cells #[.int .u32 pa, .int .i64 pb] 33 (0, 0))) : Pz w wl g l (.slice none 0 0) [] gp pa pb := ⟨S, h, hS, Kd.R_nil _ _ _ _ _, hg, hb⟩
theorem Pz.tree (h : Pz w wl g l v m gp pa pb) {S : Nat → Prop} (h3 : Kd.R k70 70 wl w.heap.size (fun k => ¬ S k) v m) (h4 : ¬ S gp) (h5 : wl.heap[gp]? = some (.cells #[.int .u32 pa, .int .i64 pb] 33 (0, 0))) {l2 : List En} (ht : TrL w w1 (fun k => S k ∨ wl.heap.size ≤ k) g l2) (hk : Kept wl w1 S) : Pz w w1 g l2 v m gp pa pb := by
 refine ⟨_, ht.bound, fun k hk => hk.2, ?_, fun hS => hS.1.elim h4 (fun h6 => by have := blk_lt h5; omega), blk_kept h5 hk h4⟩
 exact Kd.R_mono (Kd.R_kept (Kd.R_bound h3) hk (fun k hk => hk.1)) (fun k hk hk2 => hk2.1.elim hk.1 (fun hk3 => by have := hk.2.2.1; omega))
theorem Pz.add (h : Pz w wl g l v m gp pa pb) (hb : Below wl.heap.size wl w1) (hl : l.length ≤ 1000) {xa : Int} (h0 : 0 ≤ xa) (h1 : xa < 4294967296) (b x : Int) :
  Calls Try.prog 8 #[.pointer (some ⟨g, 0, none⟩), .agg #[.int .u32 xa, .int .i64 b], .int .i64 x] w1 fun e w' => e = .returned (.int .i64 (addL l xa.toNat b x).1) ∧ Pz w w' g (addL l xa.toNat b x).2 v m gp pa pb ∧ ∀ k, wl.heap.size ≤ k → k < w1.heap.size → w'.heap[k]? = w1.heap[k]? := by
 have h' := h.below hb
 obtain ⟨S, a1, a2, a3, a4, a5⟩ := h.out
 refine (add_at (a1.below hb) (Below.refl _ _) hl (a := xa.toNat) (by omega) (by omega) b x).mono ?_
 rintro e w' ⟨rfl, ht, hk⟩
 exact ⟨rfl, h'.tree (Kd.R_below a3 hb) a4 (blk_below a5 hb) ht hk, fun k hk1 hk2 => hk.2 k hk2 (fun hS => by have := a2 k hS; omega)⟩
theorem Pz.drop (h : Pz w wl g l v m gp pa pb) (hb : Below wl.heap.size wl w1) (hl : l.length ≤ 1000) {xa : Int} (h0 : 0 ≤ xa) (h1 : xa < 4294967296) (b x : Int) :
  Calls Try.prog 14 #[.pointer (some ⟨g, 0, none⟩), .agg #[.int .u32 xa, .int .i64 b], .int .i64 x] w1 fun e w' => e = .returned (.int .i64 (delL l xa.toNat b x).1) ∧ Pz w w' g (delL l xa.toNat b x).2 v m gp pa pb ∧ ∀ k, wl.heap.size ≤ k → k < w1.heap.size → w'.heap[k]? = w1.heap[k]? := by
 have h' := h.below hb
 obtain ⟨S, a1, a2, a3, a4, a5⟩ := h.out
 refine (drop_at (a1.below hb) (Below.refl _ _) hl (a := xa.toNat) (by omega) (by omega) b x).mono ?_
 rintro e w' ⟨rfl, ht, hk⟩
 exact ⟨rfl, h'.tree (Kd.R_below a3 hb) a4 (blk_below a5 hb) ht hk, fun k hk1 hk2 => hk.2 k hk2 (fun hS => by have := a2 k hS; omega)⟩
theorem R70_tight {base : Nat} {ok : Nat → Prop} {xs : List S70} (h : Kd.R k70 70 wl base ok v xs) : Kd.R k70 70 wl base (fun k => some k = v.ownBlock) v xs := ⟨fun k hk => hk.symm, h.2⟩
theorem Pz.rowStep (h : Pz w wl g l v m gp pa pb) {v2 : Value} {m2 : List S70} (ho : Kd.R k70 70 w1 w.heap.size (fun k => some k = v.ownBlock ∨ wl.heap.size ≤ k) v2 m2) (hb : Below w.heap.size w w1) (hk : Kept wl w1 (fun k => some k = v.ownBlock)) : Pz w w1 g l v2 m2 gp pa pb := by
 obtain ⟨S, h1, h2, h3, h4, h5⟩ := h.out
 refine ⟨S, h1.kept hk (fun k hS hk2 => h3.1 k hk2.symm hS) hb, fun k hS => Nat.lt_of_lt_of_le (h2 k hS) hk.1, Kd.R_mono ho (fun k hk2 hS => hk2.elim (fun hk3 => h3.1 k hk3.symm hS) (fun hk3 => by have := h2 k hS; omega)), h4, blk_kept h5 hk (Kd.R_ne h3 h5 (by decide))⟩
theorem Pz.refadd (h : Pz w wl g l v m gp pa pb) {L : List En} (hm : m = L.map toR) (hs : Srt L) (hl : L.length ≤ 1000) {xa : Int} (h0 : 0 ≤ xa) (h1 : xa < 4294967296) (b x : Int) :
  Calls Try.prog 16 #[v, .agg #[.int .u32 xa, .int .i64 b], .int .i64 x] wl fun e w' => ∃ v2 : Value, e = .returned (.tuple #[v2, .int .i64 (addL L xa.toNat b x).1]) ∧ Pz w w' g l v2 ((addL L xa.toNat b x).2.map toR) gp pa pb := by
 subst hm
 have hev := refadd_ev hs hl (a := xa.toNat) (by omega) b x
 rw [show ((xa.toNat : Nat) : Int) = xa by omega] at hev
 obtain ⟨k, hk⟩ := hev.rounds
 refine (crossbuckref10_Add.calls k (fun k => some k = v.ownBlock) v _ xa b x _ _ w wl h.bl (R70_tight h.row) hk).mono ?_
 rintro e w' ⟨v2, rfl, ho, hb, hkp⟩
 exact ⟨v2, rfl, h.rowStep ho hb hkp⟩
theorem Pz.refdrop (h : Pz w wl g l v m gp pa pb) {L : List En} (hm : m = L.map toR) (hs : Srt L) (hl : L.length ≤ 1000) {xa : Int} (h0 : 0 ≤ xa) (h1 : xa < 4294967296) (b x : Int) :
  Calls Try.prog 15 #[v, .agg #[.int .u32 xa, .int .i64 b], .int .i64 x] wl fun e w' => ∃ v2 : Value, e = .returned (.tuple #[v2, .int .i64 (delL L xa.toNat b x).1]) ∧ Pz w w' g l v2 ((delL L xa.toNat b x).2.map toR) gp pa pb := by
 subst hm
 have hev := refdrop_ev hs hl (a := xa.toNat) (by omega) b x
 rw [show ((xa.toNat : Nat) : Int) = xa by omega] at hev
 obtain ⟨k, hk⟩ := hev.rounds
 refine (crossbuckref10_Drop.calls k (fun k => some k = v.ownBlock) v _ xa b x _ _ w wl h.bl (R70_tight h.row) hk).mono ?_
 rintro e w' ⟨v2, rfl, ho, hb, hkp⟩
 exact ⟨v2, rfl, h.rowStep ho hb hkp⟩
theorem Pz.len (h : Pz w wl g l v m gp pa pb) (hb : Below wl.heap.size wl w1) :
  Calls Try.prog 13 #[.pointer (some ⟨g, 0, none⟩)] w1 fun e w' => e = .returned (.int .i64 (l.length : Int)) ∧ Pz w w' g l v m gp pa pb := by
 have h' := h.below hb
 obtain ⟨S, h1, _⟩ := h'.out
 exact (len_.calls h1).mono (fun e w' hh => ⟨hh.1, h'.below hh.2⟩)
theorem Pz.size (h : Pz w wl g l v m gp pa pb) (hb : Below wl.heap.size wl w1) :
  Calls Try.prog 10 #[.pointer (some ⟨g, 0, none⟩)] w1 fun e w' => e = .returned (.int .i64 ((TrieP.sz (X l) 32 0 0 : Nat) : Int)) ∧ Pz w w' g l v m gp pa pb := by
 have h' := h.below hb
 obtain ⟨S, h1, _⟩ := h'.out
 exact (tsize_.calls h1).mono (fun e w' hh => ⟨hh.1, h'.below hh.2⟩)
theorem Pz.refsize {A : Option Addr} {c n : Nat} (h : Pz w wl g l (.slice A n c) (l.map toR) gp pa pb) (hl : l.length ≤ 1000) (hb : Below wl.heap.size wl w1) :
  Calls Try.prog 17 #[.slice A n c] w1 fun e w' => e = .returned (.int .i64 ((TrieP.sz (X l) 32 0 0 : Nat) : Int)) ∧ Pz w w' g l (.slice A n c) (l.map toR) gp pa pb := by
 have h' := h.below hb
 obtain ⟨hn, hc, hC⟩ := Kd.R_reads' h'.row
 obtain ⟨k, hk⟩ := (refsize_ev h.rts hl).rounds
 subst hn
 exact (crossbuckref10_Size.calls k A c _ _ w1 hC hc hk).mono (fun e w' hh => ⟨hh.1, h'.below hh.2⟩)
theorem Pz.all (h : Pz w wl g l v m gp pa pb) (hb : Below wl.heap.size wl w1) (hl : l.length ≤ 1000) :
  Calls Try.prog 9 #[.pointer (some ⟨g, 0, none⟩)] w1 fun e w' => ∃ X x, e = .returned (.slice X l.length x) ∧ Kd.R k42 42 w' w1.heap.size (fun _ => True) (.slice X l.length x) (l.map toS) ∧ Pz w w' g l v m gp pa pb := by
 have h' := h.below hb
 obtain ⟨S, h1, _⟩ := h'.out
 refine (all_.calls h1 hl).mono ?_
 rintro e w' ⟨u, rfl, ho, hb⟩
 obtain ⟨X, x, rfl⟩ := Kd.R_slice ho
 rw [List.length_map] at ho ⊢
 exact ⟨X, x, rfl, ho, h'.below hb⟩
theorem Pz.of (h : Pz w wl g l v m gp pa pb) (hb : Below wl.heap.size wl w1) (hl : l.length ≤ 1000) {xa : Int} (h0 : 0 ≤ xa) (h1 : xa < 4294967296) :
  Calls Try.prog 11 #[.pointer (some ⟨g, 0, none⟩), .int .u32 xa] w1 fun e w' => ∃ X x, e = .returned (.slice X (ofE l xa.toNat 33).length x) ∧ Kd.R k42 42 w' w1.heap.size (fun _ => True) (.slice X (ofE l xa.toNat 33).length x) ((ofE l xa.toNat 33).map toS) ∧ Pz w w' g l v m gp pa pb := by
 have h' := h.below hb
 obtain ⟨S, a1, _⟩ := h'.out
 refine (of_at a1 (Below.refl _ _) hl (a := xa.toNat) (by omega) (by omega)).mono ?_
 rintro e w' ⟨u, rfl, ho, hb⟩
 obtain ⟨X, x, rfl⟩ := Kd.R_slice ho
 rw [List.length_map] at ho ⊢
 exact ⟨X, x, rfl, ho, h'.below hb⟩
theorem Pz.meet (h : Pz w wl g l v m gp pa pb) (hb : Below wl.heap.size wl w1) (hl : l.length ≤ 1000) {xa : Int} (h0 : 0 ≤ xa) (h1 : xa < 4294967296) (b : Int) :
  Calls Try.prog 12 #[.pointer (some ⟨g, 0, none⟩), .agg #[.int .u32 xa, .int .i64 b]] w1 fun e w' => ∃ X x, e = .returned (.slice X (meetL l xa.toNat b).length x) ∧ Kd.R k42 42 w' w1.heap.size (fun _ => True) (.slice X (meetL l xa.toNat b).length x) ((meetL l xa.toNat b).map toS) ∧ Pz w w' g l v m gp pa pb := by
 have h' := h.below hb
 obtain ⟨S, a1, _⟩ := h'.out
 refine (meet_at a1 (Below.refl _ _) hl (a := xa.toNat) (by omega) (by omega) b).mono ?_
 rintro e w' ⟨u, rfl, ho, hb⟩
 obtain ⟨X, x, rfl⟩ := Kd.R_slice ho
 rw [List.length_map] at ho ⊢
 exact ⟨X, x, rfl, ho, h'.below hb⟩
theorem Pz.refof {A : Option Addr} {c n : Nat} (h : Pz w wl g l (.slice A n c) (l.map toR) gp pa pb) (hl : l.length ≤ 1000) (hb : Below wl.heap.size wl w1) {xa : Int} (h0 : 0 ≤ xa) (h1 : xa < 4294967296) :
  Calls Try.prog 19 #[.slice A n c, .int .u32 xa] w1 fun e w' => ∃ X x, e = .returned (.slice X (ofE l xa.toNat 33).length x) ∧ Kd.R k70 70 w' w1.heap.size (fun _ => True) (.slice X (ofE l xa.toNat 33).length x) ((ofE l xa.toNat 33).map toR) ∧ Below w1.heap.size w1 w' := by
 have h' := h.below hb
 obtain ⟨hn, hc, hC⟩ := Kd.R_reads' h'.row
 have hev := refof_ev h.rts hl (a := xa.toNat) (by omega)
 rw [show ((xa.toNat : Nat) : Int) = xa by omega] at hev
 obtain ⟨k, hk⟩ := hev.rounds
 subst hn
 refine (crossbuckref10_Of.calls k A c _ xa _ w1 hC hc hk).mono ?_
 rintro e w' ⟨u, rfl, ho, hb⟩
 obtain ⟨X, x, rfl⟩ := Kd.R_slice ho
 rw [List.length_map] at ho ⊢
 exact ⟨X, x, rfl, ho, hb⟩
theorem Pz.refmeet {A : Option Addr} {c n : Nat} (h : Pz w wl g l (.slice A n c) (l.map toR) gp pa pb) (hl : l.length ≤ 1000) (hb : Below wl.heap.size wl w1) {xa : Int} (h0 : 0 ≤ xa) (h1 : xa < 4294967296) (b : Int) :
  Calls Try.prog 20 #[.slice A n c, .agg #[.int .u32 xa, .int .i64 b]] w1 fun e w' => ∃ X x, e = .returned (.slice X (meetL l xa.toNat b).length x) ∧ Kd.R k70 70 w' w1.heap.size (fun _ => True) (.slice X (meetL l xa.toNat b).length x) ((meetL l xa.toNat b).map toR) ∧ Below w1.heap.size w1 w' := by
 have h' := h.below hb
 obtain ⟨hn, hc, hC⟩ := Kd.R_reads' h'.row
 have hev := refmeet_ev h.rts hl (a := xa.toNat) (by omega) b
 rw [show ((xa.toNat : Nat) : Int) = xa by omega] at hev
 obtain ⟨k, hk⟩ := hev.rounds
 subst hn
 refine (crossbuckref10_Meeting.calls k A c _ xa b _ w1 hC hc hk).mono ?_
 rintro e w' ⟨u, rfl, ho, hb⟩
 obtain ⟨X, x, rfl⟩ := Kd.R_slice ho
 rw [List.length_map] at ho ⊢
 exact ⟨X, x, rfl, ho, hb⟩
end
theorem same_call {w : World} {b1 b2 : Nat} {o1 o2 : Nat → Prop} {X A : Option Addr} {x c n m : Nat} {l : List En} (hl : l.length ≤ 1000000) (h1 : Kd.R k42 42 w b1 o1 (.slice X n x) (l.map toS)) (h2 : Kd.R k70 70 w b2 o2 (.slice A m c) (l.map toR)) :
  Calls Try.prog 18 #[.slice X n x, .slice A m c] w fun e w' => e = .returned (.bool true) ∧ Below w.heap.size w w' := by
 obtain ⟨rfl, c1, C1⟩ := Kd.R_reads' h1
 obtain ⟨rfl, c2, C2⟩ := Kd.R_reads' h2
 obtain ⟨k, hk⟩ := (same_ev hl).rounds
 exact (crossbucklaw10_same.calls k X x _ A c _ _ w C1 c1 C2 c2 hk).mono (fun e w' h => ⟨h.1, h.2.below⟩)
/-! #### what is put and taken -/
def plO (l : List En) (o : S35) : List En := if o.f0 = true then (delL l o.f1.f0.toNat o.f1.f1 o.f2).2 else (addL l o.f1.f0.toNat o.f1.f1 o.f2).2
def pls (os : List S35) : List En := os.foldl plO []
theorem pls_snoc (os : List S35) (o : S35) : pls (os ++ [o]) = plO (pls os) o := by simp [pls]
theorem take_pls {os : List S35} {i : Nat} (hi : i < os.length) : plO (pls (os.take i)) (rd_T35 os (i : Int)) = pls (os.take (i + 1)) := by
 rw [List.take_succ_eq_append_getElem hi, pls_snoc]
 congr 1
 simp [rd_T35, List.getD, hi]
theorem pls_len (os : List S35) : (pls os).length ≤ os.length := by
 have h : ∀ (os : List S35) (l : List En), (os.foldl plO l).length ≤ l.length + os.length := by
  intro os
  induction os with
  | nil => intro l; exact Nat.le_refl _
  | cons o os ih =>
   intro l
   have h1 := ih (plO l o)
   have h2 : (plO l o).length ≤ l.length + 1 := by
    unfold plO
    split
    ·have := delL_len l o.f1.f0.toNat o.f1.f1 o.f2; omega
    ·exact addL_len l o.f1.f0.toNat o.f1.f1 o.f2
   simp only [List.foldl_cons, List.length_cons]
   omega
 have := h os []
 simpa [pls] using this


open Go.Proofs.Ytbmibakhpealjaa.TrieP Go.Proofs.Ytbmibakhpealjaa.Facts Go.Proofs.Ytbmibakhpealjaa.Bits
def plays_.T19 : Bool × List (List Nat × List Nat) := (true, [([], []), ([0, 0], [0]), ([1, 1], [1]), ([1], [1]), ([2, 3, 2, 1], [1, 2, 3]), ([1, 4], [1, 4]), ([5, 4], [5]), ([6], [6]), ([7, 6, 6], [6, 7]), ([6], [6]), ([6], [6]), ([9, 10, 8, 6], [6, 9, 10]), ([8, 11, 11, 6], [6, 8, 11]), ([6, 12], [6, 12]), ([13, 12], [13]), ([14], [14]), ([15, 14, 14], [14, 15]), ([14], [14]), ([14], [14]), ([17, 18, 16, 14], [14, 17, 18]), ([16, 19, 19, 14], [14, 16, 19]), ([14, 20], [14, 20]), ([21, 20], [21]), ([22], [22]), ([22], [22]), ([23, 24, 22, 22], [22, 23, 24]), ([25, 22], [22, 25]), ([22, 26], [22, 26]), ([27, 25], [27]), ([28], [28]), ([28], [28]), ([29, 30, 28, 28], [28, 29, 30]), ([31, 28], [28, 31]), ([28, 32], [28, 32]), ([33, 31], [33]), ([34], [34]), ([35, 34, 34], [34, 35]), ([36, 34], [34, 36]), ([34, 37], [34, 37]), ([38, 36], [38]), ([39], [39]), ([40, 39, 39], [39, 40]), ([41, 39], [39, 41]), ([39, 42], [39, 42]), ([43, 41], [43]), ([44], [44]), ([44], [44]), ([45, 46, 44, 44], [44, 45, 46]), ([47, 44], [44, 47]), ([48, 44], [44, 48]), ([44, 49], [44, 49]), ([50, 47], [50]), ([51], [51]), ([52, 51, 51], [51, 52]), ([53, 51], [51, 53]), ([54, 51], [51, 54]), ([51, 55], [51, 55]), ([56, 53], [56]), ([57], [57]), ([57], [57]), ([58, 59, 57, 57], [57, 58, 59]), ([60, 57], [57, 60]), ([61, 57], [57, 61]), ([57, 62], [57, 62]), ([63, 60, 0, 1, 2, 3, 4, 5, 6, 7, 8, 9, 10, 11, 12, 13, 14, 15, 16, 17, 18, 19, 20, 21, 22, 23, 24, 25, 26, 27, 28, 29, 30, 31, 32, 33, 34, 35, 36, 37, 38, 39, 40, 41, 42, 43, 44, 45, 46, 47, 48, 49, 50, 51, 52, 53, 54, 55, 56, 57, 58, 59, 60, 61, 62, 63], [63])])
def plays_.B19 : List Nat := [0, 1, 3, 3, 15, 31, 63, 127, 255, 127, 127, 2047, 4095, 8191, 16383, 32767, 65535, 32767, 32767, 524287, 1048575, 2097151, 4194303, 8388607, 8388607, 33554431, 67108863, 134217727, 268435455, 536870911, 536870911, 2147483647, 4294967295, 8589934591, 17179869183, 34359738367, 68719476735, 137438953471, 274877906943, 549755813887, 1099511627775, 2199023255551, 4398046511103, 8796093022207, 17592186044415, 35184372088831, 35184372088831, 140737488355327, 281474976710655, 562949953421311, 1125899906842623, 2251799813685247, 4503599627370495, 9007199254740991, 18014398509481983, 36028797018963967, 72057594037927935, 144115188075855871, 288230376151711743, 288230376151711743, 1152921504606846975, 2305843009213693951, 4611686018427387903, 9223372036854775807, 18446744073709551615]
theorem plays_.tab19 : rtab .any (opsOf Try.f6 19) = plays_.T19 := by kernel_rfl
theorem plays_.bits19 : waitsOk plays_.T19.2 plays_.B19 = true := by kernel_rfl
set_option maxHeartbeats 8000000 in
set_option maxRecDepth 100000 in
theorem plays_walk (A0 : Option Addr) (c0 : Nat) (l0 : List S35) (a1 pa pb : Int) (w : World) (hr0 : Kd.C k35 w A0 l0.length l0) (hl : l0.length ≤ 60) (hok : ∀ o ∈ l0, okO o) (h0 : 0 ≤ a1) (h1 : a1 < 4294967296) (h2 : 0 ≤ pa) (h3 : pa < 4294967296) :
  Calls Try.prog 6 #[.slice A0 l0.length c0, .int .u32 a1, .agg #[.int .u32 pa, .int .i64 pb]] w fun e w' => e = .returned (.bool true) ∧ Below w.heap.size w w' := by
 have HR0 := Aside0.mk hr0
 have HL0 := Aside0.mk hl
 have HOK := Aside0.mk hok
 have HA := Aside0.mk (And.intro h0 h1)
 have HP := Aside0.mk (And.intro h2 h3)
 have q1 : decide (60 < l0.length) = false := decide_eq_false (by omega)
 have q3 : decide ((60 : Int) < (l0.length : Int)) = false := decide_eq_false (by omega)
 clear hr0 hl hok h0 h1 h2 h3
 go_enter Try.func6, Try.ntmps6
 go_wp2_with (first
  | ((with_reducible refine gate_dst (N := 5) rfl ?_); refine box_event ?hg (N := 5) ?hd (cs := #[.int .u32 pa, .int .i64 pb]) (t := 33) ?hr ?_; (case hd => rfl); (case hg => rfl); (case hr => first | (go_simp; done) | (go_simp; rfl)); intro gp hgp w1 hbox hb; have PB := Aside0.mk hbox; have B1 := Aside0.mk hb; have GP := Aside0.mk hgp; clear hgp hbox hb)
  | ((with_reducible refine gate_dst (N := 7) rfl ?_); refine box_event ?hg (N := 7) ?hd (cs := #[.slice none 0 0, .pointer none, .pointer none, .int .i64 0]) (t := 30) ?hr ?_; (case hd => rfl); (case hg => rfl); (case hr => first | (go_simp; done) | (go_simp; rfl)); intro ga hga w2 hbox hb; have TA := Aside0.mk (show Pz w w2 ga [] (.slice none 0 0) [] gp pa pb from Pz.new (TrL.new (w0 := w) hbox (below_step B1.out hb) (by have := B1.out.size; omega)) (fun k hk => by have e : k = ga := hk; rw [e]; exact blk_lt hbox) (fun hk => by have e : gp = ga := hk; have := blk_lt PB.out; omega) (blk_below PB.out hb)); clear hga hbox hb))
 clear q1 q3
 go_loopg [8, 20] l0.length (fun kq v8 v20 wl => ∃ (i : Nat) (ii : Int) (A : Option Addr) (c : Nat), i + kq = l0.length ∧ v20 = .int .i64 ii ∧ v8 = .slice A (pls (l0.take i)).length c ∧ Aside0 (ii = (i : Int)) ∧ Aside0 (Pz w wl ga (pls (l0.take i)) (.slice A (pls (l0.take i)).length c) ((pls (l0.take i)).map toR) gp pa pb))
 case atStart => exact ⟨0, 0, none, 0, by omega, rfl, rfl, ⟨rfl⟩, ⟨by simpa [pls] using TA.out⟩⟩
 case round =>
  clear TA PB B1 GP
  obtain ⟨i, ii, A8, c8, hi, rfl, rfl, HII, TL⟩ := hrel
  have HI := Aside0.mk hi
  by_cases hlt : i < l0.length
  ·have hcn : decide (ii < (l0.length : Int)) = true := decide_eq_true (by have := HII.out; omega)
   have p : 0 ≤ ii := by have := HII.out; omega
   have q : ii < (l0.length : Int) := by have := HII.out; omega
   obtain ⟨ad, e1, hx0, hx1, hx2, hx3⟩ := at_T35 (Kd.C_below HR0.out TL.out.bl) ii p q
   cases e1
   have OKQ := Aside0.mk (show okO (rd_T35 l0 ii) by rw [HII.out]; exact HOK.out _ (rd_mem hlt))
   have TK := Aside0.mk (show plO (pls (l0.take i)) (rd_T35 l0 ii) = pls (l0.take (i + 1)) by rw [HII.out]; exact take_pls hlt)
   have LK := Aside0.mk (show (pls (l0.take (i + 1))).length ≤ 1000 by have h1 := pls_len (l0.take (i + 1)); have := HL0.out; rw [List.length_take] at h1; omega)
   have LN := Aside0.mk (show (pls (l0.take i)).length ≤ 1000 by have h1 := pls_len (l0.take i); have := HL0.out; rw [List.length_take] at h1; omega)
   have LS := Aside0.mk TL.out.srt
   have HLT := Aside0.mk hlt
   generalize pls (l0.take i) = l at TL TK LN LS
   generalize rd_T35 l0 ii = q at hx0 hx1 hx2 hx3 OKQ TK
   obtain ⟨qd, ⟨qa, qb⟩, qv⟩ := q
   dsimp only at hx0 hx1 hx2 hx3
   replace OKQ : Aside0 (0 ≤ qa ∧ qa < 4294967296) := OKQ
   replace p := eq_true p
   clear hi hlt
   cases qd with
   | true =>
    have TK2 := Aside0.mk (show (delL l qa.toNat qb qv).2 = pls (l0.take (i + 1)) from TK.out)
    have LN2 := Aside0.mk (show (delL l qa.toNat qb qv).2.length ≤ 1000 by rw [TK2.out]; exact LK.out)
    clear TK
    go_wp2_with (first
     | ((with_reducible refine gate_dst (N := 10) rfl ?_); refine box_event ?hg (N := 10) ?hd (cs := #[.bool false, .int .u32 0, .int .i64 0, .int .i64 0]) (t := 35) ?hr ?_; (case hd => rfl); (case hg => rfl); (case hr => first | (go_simp; done) | (go_simp; rfl)); intro g1 hg1 w5 hbox hb; have BO := Aside0.mk hbox; have HB5 := Aside0.mk hb; have HG1 := Aside0.mk hg1; clear hg1 hbox hb)
     | ((with_reducible refine gate_ (.store 35 (.tmp 10) (.tmp 23)) rfl ?_); refine Hand.wpList_store_blk rfl rfl 35 (.tmp 10) (.tmp 23) rfl [.bool true, .int .u32 qa, .int .i64 qb, .int .i64 qv] #[.bool true, .int .u32 qa, .int .i64 qb, .int .i64 qv] rfl rfl BO.out rfl size35 (Nat.le_refl 4) (fun u hu => by simp at hu; rcases hu with rfl | rfl | rfl | rfl <;> rfl) rfl (fun w6 hp => ?_); have BP := Aside0.mk hp.box; have HB6 := Aside0.mk (hp.bl _ HB5.out (Nat.le_of_eq HG1.out.symm)); have z0 : w6.cell? ⟨g1, 0, none⟩ = some (.bool true) := (blk_cell BP.out 0).trans rfl; have z1 : w6.cell? ⟨g1, 1, none⟩ = some (.int .u32 qa) := (blk_cell BP.out 1).trans rfl; have z2 : w6.cell? ⟨g1, 2, none⟩ = some (.int .i64 qb) := (blk_cell BP.out 2).trans rfl; have z3 : w6.cell? ⟨g1, 3, none⟩ = some (.int .i64 qv) := (blk_cell BP.out 3).trans rfl; clear hp)
     | (go_at_call 14; (with_reducible refine (TL.out.drop HB6.out LN.out OKQ.out.1 OKQ.out.2 _ _).mono ?_); rintro e w7 ⟨rfl, h7, hk7⟩; have T7 := Aside0.mk h7; have BP7 := Aside0.mk ((hk7 g1 (Nat.le_of_eq HG1.out.symm) (blk_lt BP.out)).trans BP.out); clear z0 z1 z2 z3; have z1 : w7.cell? ⟨g1, 1, none⟩ = some (.int .u32 qa) := (blk_cell BP7.out 1).trans rfl; have z2 : w7.cell? ⟨g1, 2, none⟩ = some (.int .i64 qb) := (blk_cell BP7.out 2).trans rfl; have z3 : w7.cell? ⟨g1, 3, none⟩ = some (.int .i64 qv) := (blk_cell BP7.out 3).trans rfl; clear h7 hk7)
     | (go_at_call 15; (with_reducible refine (T7.out.refdrop rfl LS.out LN.out OKQ.out.1 OKQ.out.2 _ _).mono ?_); rintro e w8 ⟨v2, rfl, h8⟩; obtain ⟨A2, c2, ee⟩ := Kd.R_slice h8.row; rw [List.length_map] at ee; subst ee; have T8 := Aside0.mk h8; clear h8 z1 z2 z3)
     | (go_at_call 13; (with_reducible refine (T8.out.len (Below.refl _ _)).mono ?_); rintro e w9 ⟨rfl, h9⟩; have T9 := Aside0.mk h9; clear h9)
     | (go_at_call 10; (with_reducible refine (T9.out.size (Below.refl _ _)).mono ?_); rintro e w10 ⟨rfl, h10⟩; have T10 := Aside0.mk h10; clear h10)
     | (go_at_call 17; (with_reducible refine (T10.out.refsize LN2.out (Below.refl _ _)).mono ?_); rintro e w11 ⟨rfl, h11⟩; have T11 := Aside0.mk h11; clear h11))
    go_roundg (l0.length - (i + 1))
    case measure => have := HI.out; have := HLT.out; omega
    case rel => exact ⟨i + 1, ii + 1, A2, c2, by have := HLT.out; omega, by rw [wrap64_id _ (by have := HII.out; omega) (by have := HII.out; have := HLT.out; have := HL0.out; omega)], by rw [← TK2.out], ⟨by have := HII.out; omega⟩, ⟨by rw [← TK2.out]; exact T11.out⟩⟩
   | false =>
    have TK2 := Aside0.mk (show (addL l qa.toNat qb qv).2 = pls (l0.take (i + 1)) from TK.out)
    have LN2 := Aside0.mk (show (addL l qa.toNat qb qv).2.length ≤ 1000 by rw [TK2.out]; exact LK.out)
    clear TK
    go_wp2_with (first
     | ((with_reducible refine gate_dst (N := 10) rfl ?_); refine box_event ?hg (N := 10) ?hd (cs := #[.bool false, .int .u32 0, .int .i64 0, .int .i64 0]) (t := 35) ?hr ?_; (case hd => rfl); (case hg => rfl); (case hr => first | (go_simp; done) | (go_simp; rfl)); intro g1 hg1 w5 hbox hb; have BO := Aside0.mk hbox; have HB5 := Aside0.mk hb; have HG1 := Aside0.mk hg1; clear hg1 hbox hb)
     | ((with_reducible refine gate_ (.store 35 (.tmp 10) (.tmp 23)) rfl ?_); refine Hand.wpList_store_blk rfl rfl 35 (.tmp 10) (.tmp 23) rfl [.bool false, .int .u32 qa, .int .i64 qb, .int .i64 qv] #[.bool false, .int .u32 qa, .int .i64 qb, .int .i64 qv] rfl rfl BO.out rfl size35 (Nat.le_refl 4) (fun u hu => by simp at hu; rcases hu with rfl | rfl | rfl | rfl <;> rfl) rfl (fun w6 hp => ?_); have BP := Aside0.mk hp.box; have HB6 := Aside0.mk (hp.bl _ HB5.out (Nat.le_of_eq HG1.out.symm)); have z0 : w6.cell? ⟨g1, 0, none⟩ = some (.bool false) := (blk_cell BP.out 0).trans rfl; have z1 : w6.cell? ⟨g1, 1, none⟩ = some (.int .u32 qa) := (blk_cell BP.out 1).trans rfl; have z2 : w6.cell? ⟨g1, 2, none⟩ = some (.int .i64 qb) := (blk_cell BP.out 2).trans rfl; have z3 : w6.cell? ⟨g1, 3, none⟩ = some (.int .i64 qv) := (blk_cell BP.out 3).trans rfl; clear hp)
     | (go_at_call 8; (with_reducible refine (TL.out.add HB6.out LN.out OKQ.out.1 OKQ.out.2 _ _).mono ?_); rintro e w7 ⟨rfl, h7, hk7⟩; have T7 := Aside0.mk h7; have BP7 := Aside0.mk ((hk7 g1 (Nat.le_of_eq HG1.out.symm) (blk_lt BP.out)).trans BP.out); clear z0 z1 z2 z3; have z1 : w7.cell? ⟨g1, 1, none⟩ = some (.int .u32 qa) := (blk_cell BP7.out 1).trans rfl; have z2 : w7.cell? ⟨g1, 2, none⟩ = some (.int .i64 qb) := (blk_cell BP7.out 2).trans rfl; have z3 : w7.cell? ⟨g1, 3, none⟩ = some (.int .i64 qv) := (blk_cell BP7.out 3).trans rfl; clear h7 hk7)
     | (go_at_call 16; (with_reducible refine (T7.out.refadd rfl LS.out LN.out OKQ.out.1 OKQ.out.2 _ _).mono ?_); rintro e w8 ⟨v2, rfl, h8⟩; obtain ⟨A2, c2, ee⟩ := Kd.R_slice h8.row; rw [List.length_map] at ee; subst ee; have T8 := Aside0.mk h8; clear h8 z1 z2 z3)
     | (go_at_call 13; (with_reducible refine (T8.out.len (Below.refl _ _)).mono ?_); rintro e w9 ⟨rfl, h9⟩; have T9 := Aside0.mk h9; clear h9)
     | (go_at_call 10; (with_reducible refine (T9.out.size (Below.refl _ _)).mono ?_); rintro e w10 ⟨rfl, h10⟩; have T10 := Aside0.mk h10; clear h10)
     | (go_at_call 17; (with_reducible refine (T10.out.refsize LN2.out (Below.refl _ _)).mono ?_); rintro e w11 ⟨rfl, h11⟩; have T11 := Aside0.mk h11; clear h11))
    go_roundg (l0.length - (i + 1))
    case measure => have := HI.out; have := HLT.out; omega
    case rel => exact ⟨i + 1, ii + 1, A2, c2, by have := HLT.out; omega, by rw [wrap64_id _ (by have := HII.out; omega) (by have := HII.out; have := HLT.out; have := HL0.out; omega)], by rw [← TK2.out], ⟨by have := HII.out; omega⟩, ⟨by rw [← TK2.out]; exact T11.out⟩⟩
  ·have hcn : decide (ii < (l0.length : Int)) = false := decide_eq_false (by have := HII.out; omega)
   obtain rfl : i = l0.length := by omega
   rw [List.take_length] at TL ⊢
   have LN2 := Aside0.mk (show (pls l0).length ≤ 1000 by have h1 := pls_len l0; have := HL0.out; omega)
   clear hi hlt
   generalize pls l0 = l at TL LN2 ⊢
   have HOL := Aside0.mk (show (ofE l a1.toNat 33).length ≤ 1000000 by have h1 := ofE_len l a1.toNat 33; have := LN2.out; omega)
   have HML := Aside0.mk (show (meetL l pa.toNat pb).length ≤ 1000000 by have h1 := meetL_len l pa.toNat pb; have := LN2.out; omega)
   have TD := Aside0.mk (TL.out.below (below_drew1 (Below.refl _ _)))
   clear TL
   go_wp2
   have hq0 : wr.drew.cell? ⟨gp, 0, none⟩ = some (.int .u32 pa) := (blk_cell TD.out.box 0).trans rfl
   have hq1 : wr.drew.cell? ⟨gp, 1, none⟩ = some (.int .i64 pb) := (blk_cell TD.out.box 1).trans rfl
   refine start_ (n := 65) (S := fun w' => w'.cell? ⟨gp, 0, none⟩ = some (.int .u32 pa) ∧ w'.cell? ⟨gp, 1, none⟩ = some (.int .i64 pb)) (ds := []) #[false, false, false, false, false, false, false, false, false, false, false, false, false, false, false, false, false, false, false, false, false, false, false, false, false, false, false, false, false, false, false, false, false, false, false, false, false, false, false, false, false, false, false, false, false, false, false, false, false, false, false, false, false, false, false, false, false, false, false, false, false, false, false, false, false] (by kernel_rfl) rfl rfl ⟨hq0, hq1⟩ (fun hHeld => ?_)
   refine with_tabW plays_.tab19 plays_.bits19 (fun HT_ HW_ => ?_)
   clear hq0 hq1
   generalize wr.drew = wd at TD hHeld ⊢
   refine one_ (i := 0) (N := some 70) #[true, false, false, false, false, false, false, false, false, false, false, false, false, false, false, false, false, false, false, false, false, false, false, false, false, false, false, false, false, false, false, false, false, false, false, false, false, false, false, false, false, false, false, false, false, false, false, false, false, false, false, false, false, false, false, false, false, false, false, false, false, false, false, false, false] rfl rfl (one_of HT_.out (by kernel_rfl)) (by decide) (fun K hK => ?_)
   refine goes_ Try.func7 (by kernel_rfl) rfl #[] (by rfl) rfl rfl (by (try simp only [List.map_toArray, List.map_cons, List.map_nil]); first | done | rfl) ?_
   with_reducible refine (awake_.calls _).mono ?_
   rintro e v1 ⟨rfl, hb⟩
   refine ⟨_, rfl, ?_⟩
   have Tv1 := Aside0.mk (TD.out.below hb)
   clear hb
   have hgv10 : v1.cell? ⟨gp, 0, none⟩ = some (.int .u32 pa) := (blk_cell Tv1.out.box 0).trans rfl
   have hgv11 : v1.cell? ⟨gp, 1, none⟩ = some (.int .i64 pb) := (blk_cell Tv1.out.box 1).trans rfl
   refine hK.out _ _ ⟨hgv10, hgv11⟩ (fun hHeld => ?_)
   clear hK K
   refine norm_ (a' := ?_) ?_ ?_
   rotate_left
   ·show Act.put _ (some 70) _ = _
    simp only [Act.put, List.setIfInBounds_toArray, List.set_cons_zero, List.set_cons_succ, i64_w, i32_w]
    rfl
   refine pure_ (i := 1) (N := some 71) (v := ?_) (a' := ?_) #[true, true, false, false, false, false, false, false, false, false, false, false, false, false, false, false, false, false, false, false, false, false, false, false, false, false, false, false, false, false, false, false, false, false, false, false, false, false, false, false, false, false, false, false, false, false, false, false, false, false, false, false, false, false, false, false, false, false, false, false, false, false, false, false, false] rfl rfl (any_of HT_.out (by kernel_rfl)) (fun _ _ _ h => h) (Or.inl ⟨by rfl, ?_⟩) ?_ ?_
   rotate_left
   ·intro w'
    go_simp
    with_reducible rfl
   rotate_left
   ·simp only [Act.put, List.setIfInBounds_toArray, List.set_cons_zero, List.set_cons_succ, i64_w, i32_w]
    rfl
   refine pure_ (i := 3) (N := some 73) (v := ?_) (a' := ?_) #[true, true, false, true, false, false, false, false, false, false, false, false, false, false, false, false, false, false, false, false, false, false, false, false, false, false, false, false, false, false, false, false, false, false, false, false, false, false, false, false, false, false, false, false, false, false, false, false, false, false, false, false, false, false, false, false, false, false, false, false, false, false, false, false, false] rfl rfl (any_of HT_.out (by kernel_rfl)) (fun _ _ _ h => h) (Or.inl ⟨by rfl, ?_⟩) ?_ ?_
   rotate_left
   ·intro w'
    go_simp
    with_reducible rfl
   rotate_left
   ·simp only [Act.put, List.setIfInBounds_toArray, List.set_cons_zero, List.set_cons_succ, i64_w, i32_w]
    rfl
   refine one_ (i := 2) (N := some 72) #[true, true, true, true, false, false, false, false, false, false, false, false, false, false, false, false, false, false, false, false, false, false, false, false, false, false, false, false, false, false, false, false, false, false, false, false, false, false, false, false, false, false, false, false, false, false, false, false, false, false, false, false, false, false, false, false, false, false, false, false, false, false, false, false, false] rfl rfl (one_of HT_.out (by kernel_rfl)) (by decide) (fun K hK => ?_)
   refine goes_ Try.func9 (by kernel_rfl) rfl #[.pointer (some ⟨ga, 0, none⟩)] (by rfl) rfl rfl (by (try simp only [List.map_toArray, List.map_cons, List.map_nil]); first | done | rfl) ?_
   with_reducible refine (Tv1.out.all (Below.refl _ _) LN2.out).mono ?_
   rintro e v2 ⟨X2, x2, rfl, h, ht⟩
   refine ⟨_, rfl, ?_⟩
   have Tv2 := Aside0.mk ht
   have R2 := Aside0.mk h
   clear h ht
   have hgv20 : v2.cell? ⟨gp, 0, none⟩ = some (.int .u32 pa) := (blk_cell Tv2.out.box 0).trans rfl
   have hgv21 : v2.cell? ⟨gp, 1, none⟩ = some (.int .i64 pb) := (blk_cell Tv2.out.box 1).trans rfl
   refine hK.out _ _ ⟨hgv20, hgv21⟩ (fun hHeld => ?_)
   clear hK K
   refine norm_ (a' := ?_) ?_ ?_
   rotate_left
   ·show Act.put _ (some 72) _ = _
    simp only [Act.put, List.setIfInBounds_toArray, List.set_cons_zero, List.set_cons_succ, i64_w, i32_w]
    rfl
   refine one_ (i := 4) (N := some 74) #[true, true, true, true, true, false, false, false, false, false, false, false, false, false, false, false, false, false, false, false, false, false, false, false, false, false, false, false, false, false, false, false, false, false, false, false, false, false, false, false, false, false, false, false, false, false, false, false, false, false, false, false, false, false, false, false, false, false, false, false, false, false, false, false, false] rfl rfl (one_of HT_.out (by kernel_rfl)) (by decide) (fun K hK => ?_)
   refine goes_ Try.func18 (by kernel_rfl) rfl #[.slice X2 l.length x2, .slice A8 l.length c8] (by rfl) rfl rfl (by (try simp only [List.map_toArray, List.map_cons, List.map_nil]); first | done | rfl) ?_
   with_reducible refine (same_call (by have := LN2.out; omega) R2.out Tv2.out.row).mono ?_
   rintro e v3 ⟨rfl, hb⟩
   refine ⟨_, rfl, ?_⟩
   have Tv3 := Aside0.mk (Tv2.out.below hb)
   clear hb
   have hgv30 : v3.cell? ⟨gp, 0, none⟩ = some (.int .u32 pa) := (blk_cell Tv3.out.box 0).trans rfl
   have hgv31 : v3.cell? ⟨gp, 1, none⟩ = some (.int .i64 pb) := (blk_cell Tv3.out.box 1).trans rfl
   refine hK.out _ _ ⟨hgv30, hgv31⟩ (fun hHeld => ?_)
   clear hK K
   refine norm_ (a' := ?_) ?_ ?_
   rotate_left
   ·show Act.put _ (some 74) _ = _
    simp only [Act.put, List.setIfInBounds_toArray, List.set_cons_zero, List.set_cons_succ, i64_w, i32_w]
    rfl
   refine pure_ (i := 5) (N := some 75) (v := ?_) (a' := ?_) #[true, true, true, true, true, true, false, false, false, false, false, false, false, false, false, false, false, false, false, false, false, false, false, false, false, false, false, false, false, false, false, false, false, false, false, false, false, false, false, false, false, false, false, false, false, false, false, false, false, false, false, false, false, false, false, false, false, false, false, false, false, false, false, false, false] rfl rfl (any_of HT_.out (by kernel_rfl)) (fun _ _ _ h => h) (Or.inl ⟨by rfl, ?_⟩) ?_ ?_
   rotate_left
   ·intro w'
    go_simp
    with_reducible rfl
   rotate_left
   ·simp only [Act.put, List.setIfInBounds_toArray, List.set_cons_zero, List.set_cons_succ, i64_w, i32_w]
    rfl
   refine pure_ (i := 6) (N := some 76) (v := ?_) (a' := ?_) #[true, true, true, true, true, true, true, false, false, false, false, false, false, false, false, false, false, false, false, false, false, false, false, false, false, false, false, false, false, false, false, false, false, false, false, false, false, false, false, false, false, false, false, false, false, false, false, false, false, false, false, false, false, false, false, false, false, false, false, false, false, false, false, false, false] rfl rfl (any_of HT_.out (by kernel_rfl)) (fun _ _ _ h => h) (Or.inl ⟨by rfl, ?_⟩) ?_ ?_
   rotate_left
   ·intro w'
    go_simp
    with_reducible rfl
   rotate_left
   ·simp only [Act.put, List.setIfInBounds_toArray, List.set_cons_zero, List.set_cons_succ, i64_w, i32_w]
    rfl
   refine pure_ (i := 7) (N := some 77) (v := ?_) (a' := ?_) #[true, true, true, true, true, true, true, true, false, false, false, false, false, false, false, false, false, false, false, false, false, false, false, false, false, false, false, false, false, false, false, false, false, false, false, false, false, false, false, false, false, false, false, false, false, false, false, false, false, false, false, false, false, false, false, false, false, false, false, false, false, false, false, false, false] rfl rfl (any_of HT_.out (by kernel_rfl)) (fun _ _ _ h => h) (Or.inl ⟨by rfl, ?_⟩) ?_ ?_
   rotate_left
   ·intro w'
    go_simp
    with_reducible rfl
   rotate_left
   ·simp only [Act.put, List.setIfInBounds_toArray, List.set_cons_zero, List.set_cons_succ, i64_w, i32_w]
    rfl
   refine pure_ (i := 9) (N := some 79) (v := ?_) (a' := ?_) #[true, true, true, true, true, true, true, true, false, true, false, false, false, false, false, false, false, false, false, false, false, false, false, false, false, false, false, false, false, false, false, false, false, false, false, false, false, false, false, false, false, false, false, false, false, false, false, false, false, false, false, false, false, false, false, false, false, false, false, false, false, false, false, false, false] rfl rfl (any_of HT_.out (by kernel_rfl)) (fun _ _ _ h => h) (Or.inl ⟨by rfl, ?_⟩) ?_ ?_
   rotate_left
   ·intro w'
    go_simp
    with_reducible rfl
   rotate_left
   ·simp only [Act.put, List.setIfInBounds_toArray, List.set_cons_zero, List.set_cons_succ, i64_w, i32_w]
    rfl
   refine pure_ (i := 10) (N := some 80) (v := ?_) (a' := ?_) #[true, true, true, true, true, true, true, true, false, true, true, false, false, false, false, false, false, false, false, false, false, false, false, false, false, false, false, false, false, false, false, false, false, false, false, false, false, false, false, false, false, false, false, false, false, false, false, false, false, false, false, false, false, false, false, false, false, false, false, false, false, false, false, false, false] rfl rfl (any_of HT_.out (by kernel_rfl)) (fun _ _ _ h => h) (Or.inl ⟨by rfl, ?_⟩) ?_ ?_
   rotate_left
   ·intro w'
    go_simp
    with_reducible rfl
   rotate_left
   ·simp only [Act.put, List.setIfInBounds_toArray, List.set_cons_zero, List.set_cons_succ, i64_w, i32_w]
    rfl
   refine one_ (i := 8) (N := some 78) #[true, true, true, true, true, true, true, true, true, true, true, false, false, false, false, false, false, false, false, false, false, false, false, false, false, false, false, false, false, false, false, false, false, false, false, false, false, false, false, false, false, false, false, false, false, false, false, false, false, false, false, false, false, false, false, false, false, false, false, false, false, false, false, false, false] rfl rfl (one_of HT_.out (by kernel_rfl)) (by decide) (fun K hK => ?_)
   refine goes_ Try.func11 (by kernel_rfl) rfl #[.pointer (some ⟨ga, 0, none⟩), .int .u32 a1] (by rfl) rfl rfl (by (try simp only [List.map_toArray, List.map_cons, List.map_nil]); first | done | rfl) ?_
   with_reducible refine (Tv3.out.of (Below.refl _ _) LN2.out HA.out.1 HA.out.2).mono ?_
   rintro e v4 ⟨X4, x4, rfl, h, ht⟩
   refine ⟨_, rfl, ?_⟩
   have Tv4 := Aside0.mk ht
   have R4 := Aside0.mk h
   clear h ht
   have hgv40 : v4.cell? ⟨gp, 0, none⟩ = some (.int .u32 pa) := (blk_cell Tv4.out.box 0).trans rfl
   have hgv41 : v4.cell? ⟨gp, 1, none⟩ = some (.int .i64 pb) := (blk_cell Tv4.out.box 1).trans rfl
   refine hK.out _ _ ⟨hgv40, hgv41⟩ (fun hHeld => ?_)
   clear hK K
   refine norm_ (a' := ?_) ?_ ?_
   rotate_left
   ·show Act.put _ (some 78) _ = _
    simp only [Act.put, List.setIfInBounds_toArray, List.set_cons_zero, List.set_cons_succ, i64_w, i32_w]
    rfl
   refine one_ (i := 11) (N := some 81) #[true, true, true, true, true, true, true, true, true, true, true, true, false, false, false, false, false, false, false, false, false, false, false, false, false, false, false, false, false, false, false, false, false, false, false, false, false, false, false, false, false, false, false, false, false, false, false, false, false, false, false, false, false, false, false, false, false, false, false, false, false, false, false, false, false] rfl rfl (one_of HT_.out (by kernel_rfl)) (by decide) (fun K hK => ?_)
   refine goes_ Try.func19 (by kernel_rfl) rfl #[.slice A8 l.length c8, .int .u32 a1] (by rfl) rfl rfl (by (try simp only [List.map_toArray, List.map_cons, List.map_nil]); first | done | rfl) ?_
   with_reducible refine (Tv4.out.refof LN2.out (Below.refl _ _) HA.out.1 HA.out.2).mono ?_
   rintro e v5 ⟨X5, x5, rfl, h, hb⟩
   refine ⟨_, rfl, ?_⟩
   have Tv5 := Aside0.mk (Tv4.out.below hb)
   have R5 := Aside0.mk h
   have R4b := Aside0.mk (Kd.R_below R4.out hb)
   clear h hb
   have hgv50 : v5.cell? ⟨gp, 0, none⟩ = some (.int .u32 pa) := (blk_cell Tv5.out.box 0).trans rfl
   have hgv51 : v5.cell? ⟨gp, 1, none⟩ = some (.int .i64 pb) := (blk_cell Tv5.out.box 1).trans rfl
   refine hK.out _ _ ⟨hgv50, hgv51⟩ (fun hHeld => ?_)
   clear hK K
   refine norm_ (a' := ?_) ?_ ?_
   rotate_left
   ·show Act.put _ (some 81) _ = _
    simp only [Act.put, List.setIfInBounds_toArray, List.set_cons_zero, List.set_cons_succ, i64_w, i32_w]
    rfl
   refine one_ (i := 12) (N := some 82) #[true, true, true, true, true, true, true, true, true, true, true, true, true, false, false, false, false, false, false, false, false, false, false, false, false, false, false, false, false, false, false, false, false, false, false, false, false, false, false, false, false, false, false, false, false, false, false, false, false, false, false, false, false, false, false, false, false, false, false, false, false, false, false, false, false] rfl rfl (one_of HT_.out (by kernel_rfl)) (by decide) (fun K hK => ?_)
   refine goes_ Try.func18 (by kernel_rfl) rfl #[.slice X4 (ofE l a1.toNat 33).length x4, .slice X5 (ofE l a1.toNat 33).length x5] (by rfl) rfl rfl (by (try simp only [List.map_toArray, List.map_cons, List.map_nil]); first | done | rfl) ?_
   with_reducible refine (same_call HOL.out R4b.out R5.out).mono ?_
   rintro e v6 ⟨rfl, hb⟩
   refine ⟨_, rfl, ?_⟩
   have Tv6 := Aside0.mk (Tv5.out.below hb)
   clear hb
   have hgv60 : v6.cell? ⟨gp, 0, none⟩ = some (.int .u32 pa) := (blk_cell Tv6.out.box 0).trans rfl
   have hgv61 : v6.cell? ⟨gp, 1, none⟩ = some (.int .i64 pb) := (blk_cell Tv6.out.box 1).trans rfl
   refine hK.out _ _ ⟨hgv60, hgv61⟩ (fun hHeld => ?_)
   clear hK K
   refine norm_ (a' := ?_) ?_ ?_
   rotate_left
   ·show Act.put _ (some 82) _ = _
    simp only [Act.put, List.setIfInBounds_toArray, List.set_cons_zero, List.set_cons_succ, i64_w, i32_w]
    rfl
   refine pure_ (i := 13) (N := some 83) (v := ?_) (a' := ?_) #[true, true, true, true, true, true, true, true, true, true, true, true, true, true, false, false, false, false, false, false, false, false, false, false, false, false, false, false, false, false, false, false, false, false, false, false, false, false, false, false, false, false, false, false, false, false, false, false, false, false, false, false, false, false, false, false, false, false, false, false, false, false, false, false, false] rfl rfl (any_of HT_.out (by kernel_rfl)) (fun _ _ _ h => h) (Or.inl ⟨by rfl, ?_⟩) ?_ ?_
   rotate_left
   ·intro w'
    go_simp
    with_reducible rfl
   rotate_left
   ·simp only [Act.put, List.setIfInBounds_toArray, List.set_cons_zero, List.set_cons_succ, i64_w, i32_w]
    rfl
   refine pure_ (i := 14) (N := some 84) (v := ?_) (a' := ?_) #[true, true, true, true, true, true, true, true, true, true, true, true, true, true, true, false, false, false, false, false, false, false, false, false, false, false, false, false, false, false, false, false, false, false, false, false, false, false, false, false, false, false, false, false, false, false, false, false, false, false, false, false, false, false, false, false, false, false, false, false, false, false, false, false, false] rfl rfl (any_of HT_.out (by kernel_rfl)) (fun _ _ _ h => h) (Or.inl ⟨by rfl, ?_⟩) ?_ ?_
   rotate_left
   ·intro w'
    go_simp
    with_reducible rfl
   rotate_left
   ·simp only [Act.put, List.setIfInBounds_toArray, List.set_cons_zero, List.set_cons_succ, i64_w, i32_w]
    rfl
   refine pure_ (i := 17) (N := some 87) (v := ?_) (a' := ?_) #[true, true, true, true, true, true, true, true, true, true, true, true, true, true, true, false, false, true, false, false, false, false, false, false, false, false, false, false, false, false, false, false, false, false, false, false, false, false, false, false, false, false, false, false, false, false, false, false, false, false, false, false, false, false, false, false, false, false, false, false, false, false, false, false, false] rfl rfl (any_of HT_.out (by kernel_rfl)) (fun _ _ _ h => h) (Or.inl ⟨by rfl, ?_⟩) ?_ ?_
   rotate_left
   ·intro w'
    go_simp
    with_reducible rfl
   rotate_left
   ·simp only [Act.put, List.setIfInBounds_toArray, List.set_cons_zero, List.set_cons_succ, i64_w, i32_w]
    rfl
   refine take_ (i := 15) (N := some 85) (v := ?_) (a' := ?_) #[true, true, true, true, true, true, true, true, true, true, true, true, true, true, true, true, false, true, false, false, false, false, false, false, false, false, false, false, false, false, false, false, false, false, false, false, false, false, false, false, false, false, false, false, false, false, false, false, false, false, false, false, false, false, false, false, false, false, false, false, false, false, false, false, false] rfl rfl (take_ofW HT_.out HW_.out (by kernel_rfl)) (fun _ _ _ h => h) (Or.inl ⟨by rfl, ?_⟩) hHeld ?_ ?_
   rotate_left
   ·rintro w' ⟨s0, s1⟩
    go_simp
    with_reducible rfl
   rotate_left
   ·simp only [Act.put, List.setIfInBounds_toArray, List.set_cons_zero, List.set_cons_succ, i64_w, i32_w]
    rfl
   refine take_ (i := 18) (N := some 88) (v := ?_) (a' := ?_) #[true, true, true, true, true, true, true, true, true, true, true, true, true, true, true, true, false, true, true, false, false, false, false, false, false, false, false, false, false, false, false, false, false, false, false, false, false, false, false, false, false, false, false, false, false, false, false, false, false, false, false, false, false, false, false, false, false, false, false, false, false, false, false, false, false] rfl rfl (take_ofW HT_.out HW_.out (by kernel_rfl)) (fun _ _ _ h => h) (Or.inl ⟨by rfl, ?_⟩) hHeld ?_ ?_
   rotate_left
   ·rintro w' ⟨s0, s1⟩
    go_simp
    with_reducible rfl
   rotate_left
   ·simp only [Act.put, List.setIfInBounds_toArray, List.set_cons_zero, List.set_cons_succ, i64_w, i32_w]
    rfl
   refine one_ (i := 16) (N := some 86) #[true, true, true, true, true, true, true, true, true, true, true, true, true, true, true, true, true, true, true, false, false, false, false, false, false, false, false, false, false, false, false, false, false, false, false, false, false, false, false, false, false, false, false, false, false, false, false, false, false, false, false, false, false, false, false, false, false, false, false, false, false, false, false, false, false] rfl rfl (one_of HT_.out (by kernel_rfl)) (by decide) (fun K hK => ?_)
   refine goes_ Try.func12 (by kernel_rfl) rfl #[.pointer (some ⟨ga, 0, none⟩), .agg #[.int .u32 pa, .int .i64 pb]] (by rfl) rfl rfl (by (try simp only [List.map_toArray, List.map_cons, List.map_nil]); first | done | rfl) ?_
   with_reducible refine (Tv6.out.meet (Below.refl _ _) LN2.out HP.out.1 HP.out.2 pb).mono ?_
   rintro e v7 ⟨X7, x7, rfl, h, ht⟩
   refine ⟨_, rfl, ?_⟩
   have Tv7 := Aside0.mk ht
   have R7 := Aside0.mk h
   clear h ht
   have hgv70 : v7.cell? ⟨gp, 0, none⟩ = some (.int .u32 pa) := (blk_cell Tv7.out.box 0).trans rfl
   have hgv71 : v7.cell? ⟨gp, 1, none⟩ = some (.int .i64 pb) := (blk_cell Tv7.out.box 1).trans rfl
   refine hK.out _ _ ⟨hgv70, hgv71⟩ (fun hHeld => ?_)
   clear hK K
   refine norm_ (a' := ?_) ?_ ?_
   rotate_left
   ·show Act.put _ (some 86) _ = _
    simp only [Act.put, List.setIfInBounds_toArray, List.set_cons_zero, List.set_cons_succ, i64_w, i32_w]
    rfl
   refine one_ (i := 19) (N := some 89) #[true, true, true, true, true, true, true, true, true, true, true, true, true, true, true, true, true, true, true, true, false, false, false, false, false, false, false, false, false, false, false, false, false, false, false, false, false, false, false, false, false, false, false, false, false, false, false, false, false, false, false, false, false, false, false, false, false, false, false, false, false, false, false, false, false] rfl rfl (one_of HT_.out (by kernel_rfl)) (by decide) (fun K hK => ?_)
   refine goes_ Try.func20 (by kernel_rfl) rfl #[.slice A8 l.length c8, .agg #[.int .u32 pa, .int .i64 pb]] (by rfl) rfl rfl (by (try simp only [List.map_toArray, List.map_cons, List.map_nil]); first | done | rfl) ?_
   with_reducible refine (Tv7.out.refmeet LN2.out (Below.refl _ _) HP.out.1 HP.out.2 pb).mono ?_
   rintro e v8 ⟨X9, x9, rfl, h, hb⟩
   refine ⟨_, rfl, ?_⟩
   have Tv8 := Aside0.mk (Tv7.out.below hb)
   have R8 := Aside0.mk h
   have R7b := Aside0.mk (Kd.R_below R7.out hb)
   clear h hb
   have hgv80 : v8.cell? ⟨gp, 0, none⟩ = some (.int .u32 pa) := (blk_cell Tv8.out.box 0).trans rfl
   have hgv81 : v8.cell? ⟨gp, 1, none⟩ = some (.int .i64 pb) := (blk_cell Tv8.out.box 1).trans rfl
   refine hK.out _ _ ⟨hgv80, hgv81⟩ (fun hHeld => ?_)
   clear hK K
   refine norm_ (a' := ?_) ?_ ?_
   rotate_left
   ·show Act.put _ (some 89) _ = _
    simp only [Act.put, List.setIfInBounds_toArray, List.set_cons_zero, List.set_cons_succ, i64_w, i32_w]
    rfl
   refine one_ (i := 20) (N := some 90) #[true, true, true, true, true, true, true, true, true, true, true, true, true, true, true, true, true, true, true, true, true, false, false, false, false, false, false, false, false, false, false, false, false, false, false, false, false, false, false, false, false, false, false, false, false, false, false, false, false, false, false, false, false, false, false, false, false, false, false, false, false, false, false, false, false] rfl rfl (one_of HT_.out (by kernel_rfl)) (by decide) (fun K hK => ?_)
   refine goes_ Try.func18 (by kernel_rfl) rfl #[.slice X7 (meetL l pa.toNat pb).length x7, .slice X9 (meetL l pa.toNat pb).length x9] (by rfl) rfl rfl (by (try simp only [List.map_toArray, List.map_cons, List.map_nil]); first | done | rfl) ?_
   with_reducible refine (same_call HML.out R7b.out R8.out).mono ?_
   rintro e v9 ⟨rfl, hb⟩
   refine ⟨_, rfl, ?_⟩
   have Tv9 := Aside0.mk (Tv8.out.below hb)
   clear hb
   have hgv90 : v9.cell? ⟨gp, 0, none⟩ = some (.int .u32 pa) := (blk_cell Tv9.out.box 0).trans rfl
   have hgv91 : v9.cell? ⟨gp, 1, none⟩ = some (.int .i64 pb) := (blk_cell Tv9.out.box 1).trans rfl
   refine hK.out _ _ ⟨hgv90, hgv91⟩ (fun hHeld => ?_)
   clear hK K
   refine norm_ (a' := ?_) ?_ ?_
   rotate_left
   ·show Act.put _ (some 90) _ = _
    simp only [Act.put, List.setIfInBounds_toArray, List.set_cons_zero, List.set_cons_succ, i64_w, i32_w]
    rfl
   refine pure_ (i := 21) (N := some 91) (v := ?_) (a' := ?_) #[true, true, true, true, true, true, true, true, true, true, true, true, true, true, true, true, true, true, true, true, true, true, false, false, false, false, false, false, false, false, false, false, false, false, false, false, false, false, false, false, false, false, false, false, false, false, false, false, false, false, false, false, false, false, false, false, false, false, false, false, false, false, false, false, false] rfl rfl (any_of HT_.out (by kernel_rfl)) (fun _ _ _ h => h) (Or.inl ⟨by rfl, ?_⟩) ?_ ?_
   rotate_left
   ·intro w'
    go_simp
    with_reducible rfl
   rotate_left
   ·simp only [Act.put, List.setIfInBounds_toArray, List.set_cons_zero, List.set_cons_succ, i64_w, i32_w]
    rfl
   refine pure_ (i := 22) (N := some 92) (v := ?_) (a' := ?_) #[true, true, true, true, true, true, true, true, true, true, true, true, true, true, true, true, true, true, true, true, true, true, true, false, false, false, false, false, false, false, false, false, false, false, false, false, false, false, false, false, false, false, false, false, false, false, false, false, false, false, false, false, false, false, false, false, false, false, false, false, false, false, false, false, false] rfl rfl (any_of HT_.out (by kernel_rfl)) (fun _ _ _ h => h) (Or.inl ⟨by rfl, ?_⟩) ?_ ?_
   rotate_left
   ·intro w'
    go_simp
    with_reducible rfl
   rotate_left
   ·simp only [Act.put, List.setIfInBounds_toArray, List.set_cons_zero, List.set_cons_succ, i64_w, i32_w]
    rfl
   refine pure_ (i := 23) (N := some 93) (v := ?_) (a' := ?_) #[true, true, true, true, true, true, true, true, true, true, true, true, true, true, true, true, true, true, true, true, true, true, true, true, false, false, false, false, false, false, false, false, false, false, false, false, false, false, false, false, false, false, false, false, false, false, false, false, false, false, false, false, false, false, false, false, false, false, false, false, false, false, false, false, false] rfl rfl (any_of HT_.out (by kernel_rfl)) (fun _ _ _ h => h) (Or.inl ⟨by rfl, ?_⟩) ?_ ?_
   rotate_left
   ·intro w'
    go_simp
    with_reducible rfl
   rotate_left
   ·simp only [Act.put, List.setIfInBounds_toArray, List.set_cons_zero, List.set_cons_succ, i64_w, i32_w]
    rfl
   refine take_ (i := 24) (N := some 94) (v := ?_) (a' := ?_) #[true, true, true, true, true, true, true, true, true, true, true, true, true, true, true, true, true, true, true, true, true, true, true, true, true, false, false, false, false, false, false, false, false, false, false, false, false, false, false, false, false, false, false, false, false, false, false, false, false, false, false, false, false, false, false, false, false, false, false, false, false, false, false, false, false] rfl rfl (take_ofW HT_.out HW_.out (by kernel_rfl)) (fun _ _ _ h => h) (Or.inl ⟨by rfl, ?_⟩) hHeld ?_ ?_
   rotate_left
   ·rintro w' ⟨s0, s1⟩
    go_simp
    with_reducible rfl
   rotate_left
   ·simp only [Act.put, List.setIfInBounds_toArray, List.set_cons_zero, List.set_cons_succ, i64_w, i32_w]
    rfl
   refine one_ (i := 25) (N := some 95) #[true, true, true, true, true, true, true, true, true, true, true, true, true, true, true, true, true, true, true, true, true, true, true, true, true, true, false, false, false, false, false, false, false, false, false, false, false, false, false, false, false, false, false, false, false, false, false, false, false, false, false, false, false, false, false, false, false, false, false, false, false, false, false, false, false] rfl rfl (one_of HT_.out (by kernel_rfl)) (by decide) (fun K hK => ?_)
   refine goes_ Try.func8 (by kernel_rfl) rfl #[.pointer none, .agg #[.int .u32 pa, .int .i64 pb], .int .i64 1] (by rfl) rfl rfl (by (try simp only [List.map_toArray, List.map_cons, List.map_nil]); first | done | rfl) ?_
   with_reducible refine (nil_add pa pb 1 _).mono ?_
   rintro e v10 ⟨rfl, hb⟩
   refine ⟨_, rfl, ?_⟩
   have Tv10 := Aside0.mk (Tv9.out.below hb)
   clear hb
   have hgv100 : v10.cell? ⟨gp, 0, none⟩ = some (.int .u32 pa) := (blk_cell Tv10.out.box 0).trans rfl
   have hgv101 : v10.cell? ⟨gp, 1, none⟩ = some (.int .i64 pb) := (blk_cell Tv10.out.box 1).trans rfl
   refine hK.out _ _ ⟨hgv100, hgv101⟩ (fun hHeld => ?_)
   clear hK K
   refine norm_ (a' := ?_) ?_ ?_
   rotate_left
   ·show Act.put _ (some 95) _ = _
    simp only [Act.put, List.setIfInBounds_toArray, List.set_cons_zero, List.set_cons_succ, i64_w, i32_w]
    rfl
   refine pure_ (i := 26) (N := some 96) (v := ?_) (a' := ?_) #[true, true, true, true, true, true, true, true, true, true, true, true, true, true, true, true, true, true, true, true, true, true, true, true, true, true, true, false, false, false, false, false, false, false, false, false, false, false, false, false, false, false, false, false, false, false, false, false, false, false, false, false, false, false, false, false, false, false, false, false, false, false, false, false, false] rfl rfl (any_of HT_.out (by kernel_rfl)) (fun _ _ _ h => h) (Or.inl ⟨by rfl, ?_⟩) ?_ ?_
   rotate_left
   ·intro w'
    go_simp
    with_reducible rfl
   rotate_left
   ·simp only [Act.put, List.setIfInBounds_toArray, List.set_cons_zero, List.set_cons_succ, i64_w, i32_w]
    rfl
   refine pure_ (i := 27) (N := some 97) (v := ?_) (a' := ?_) #[true, true, true, true, true, true, true, true, true, true, true, true, true, true, true, true, true, true, true, true, true, true, true, true, true, true, true, true, false, false, false, false, false, false, false, false, false, false, false, false, false, false, false, false, false, false, false, false, false, false, false, false, false, false, false, false, false, false, false, false, false, false, false, false, false] rfl rfl (any_of HT_.out (by kernel_rfl)) (fun _ _ _ h => h) (Or.inl ⟨by rfl, ?_⟩) ?_ ?_
   rotate_left
   ·intro w'
    go_simp
    with_reducible rfl
   rotate_left
   ·simp only [Act.put, List.setIfInBounds_toArray, List.set_cons_zero, List.set_cons_succ, i64_w, i32_w]
    rfl
   refine pure_ (i := 28) (N := some 98) (v := ?_) (a' := ?_) #[true, true, true, true, true, true, true, true, true, true, true, true, true, true, true, true, true, true, true, true, true, true, true, true, true, true, true, true, true, false, false, false, false, false, false, false, false, false, false, false, false, false, false, false, false, false, false, false, false, false, false, false, false, false, false, false, false, false, false, false, false, false, false, false, false] rfl rfl (any_of HT_.out (by kernel_rfl)) (fun _ _ _ h => h) (Or.inl ⟨by rfl, ?_⟩) ?_ ?_
   rotate_left
   ·intro w'
    go_simp
    with_reducible rfl
   rotate_left
   ·simp only [Act.put, List.setIfInBounds_toArray, List.set_cons_zero, List.set_cons_succ, i64_w, i32_w]
    rfl
   refine pure_ (i := 29) (N := some 99) (v := ?_) (a' := ?_) #[true, true, true, true, true, true, true, true, true, true, true, true, true, true, true, true, true, true, true, true, true, true, true, true, true, true, true, true, true, true, false, false, false, false, false, false, false, false, false, false, false, false, false, false, false, false, false, false, false, false, false, false, false, false, false, false, false, false, false, false, false, false, false, false, false] rfl rfl (any_of HT_.out (by kernel_rfl)) (fun _ _ _ h => h) (Or.inl ⟨by rfl, ?_⟩) ?_ ?_
   rotate_left
   ·intro w'
    go_simp
    with_reducible rfl
   rotate_left
   ·simp only [Act.put, List.setIfInBounds_toArray, List.set_cons_zero, List.set_cons_succ, i64_w, i32_w]
    rfl
   refine take_ (i := 30) (N := some 100) (v := ?_) (a' := ?_) #[true, true, true, true, true, true, true, true, true, true, true, true, true, true, true, true, true, true, true, true, true, true, true, true, true, true, true, true, true, true, true, false, false, false, false, false, false, false, false, false, false, false, false, false, false, false, false, false, false, false, false, false, false, false, false, false, false, false, false, false, false, false, false, false, false] rfl rfl (take_ofW HT_.out HW_.out (by kernel_rfl)) (fun _ _ _ h => h) (Or.inl ⟨by rfl, ?_⟩) hHeld ?_ ?_
   rotate_left
   ·rintro w' ⟨s0, s1⟩
    go_simp
    with_reducible rfl
   rotate_left
   ·simp only [Act.put, List.setIfInBounds_toArray, List.set_cons_zero, List.set_cons_succ, i64_w, i32_w]
    rfl
   refine one_ (i := 31) (N := some 101) #[true, true, true, true, true, true, true, true, true, true, true, true, true, true, true, true, true, true, true, true, true, true, true, true, true, true, true, true, true, true, true, true, false, false, false, false, false, false, false, false, false, false, false, false, false, false, false, false, false, false, false, false, false, false, false, false, false, false, false, false, false, false, false, false, false] rfl rfl (one_of HT_.out (by kernel_rfl)) (by decide) (fun K hK => ?_)
   refine goes_ Try.func14 (by kernel_rfl) rfl #[.pointer none, .agg #[.int .u32 pa, .int .i64 pb], .int .i64 1] (by rfl) rfl rfl (by (try simp only [List.map_toArray, List.map_cons, List.map_nil]); first | done | rfl) ?_
   with_reducible refine (nil_drop pa pb 1 _).mono ?_
   rintro e v11 ⟨rfl, hb⟩
   refine ⟨_, rfl, ?_⟩
   have Tv11 := Aside0.mk (Tv10.out.below hb)
   clear hb
   have hgv110 : v11.cell? ⟨gp, 0, none⟩ = some (.int .u32 pa) := (blk_cell Tv11.out.box 0).trans rfl
   have hgv111 : v11.cell? ⟨gp, 1, none⟩ = some (.int .i64 pb) := (blk_cell Tv11.out.box 1).trans rfl
   refine hK.out _ _ ⟨hgv110, hgv111⟩ (fun hHeld => ?_)
   clear hK K
   refine norm_ (a' := ?_) ?_ ?_
   rotate_left
   ·show Act.put _ (some 101) _ = _
    simp only [Act.put, List.setIfInBounds_toArray, List.set_cons_zero, List.set_cons_succ, i64_w, i32_w]
    rfl
   refine pure_ (i := 32) (N := some 102) (v := ?_) (a' := ?_) #[true, true, true, true, true, true, true, true, true, true, true, true, true, true, true, true, true, true, true, true, true, true, true, true, true, true, true, true, true, true, true, true, true, false, false, false, false, false, false, false, false, false, false, false, false, false, false, false, false, false, false, false, false, false, false, false, false, false, false, false, false, false, false, false, false] rfl rfl (any_of HT_.out (by kernel_rfl)) (fun _ _ _ h => h) (Or.inl ⟨by rfl, ?_⟩) ?_ ?_
   rotate_left
   ·intro w'
    go_simp
    with_reducible rfl
   rotate_left
   ·simp only [Act.put, List.setIfInBounds_toArray, List.set_cons_zero, List.set_cons_succ, i64_w, i32_w]
    rfl
   refine pure_ (i := 33) (N := some 103) (v := ?_) (a' := ?_) #[true, true, true, true, true, true, true, true, true, true, true, true, true, true, true, true, true, true, true, true, true, true, true, true, true, true, true, true, true, true, true, true, true, true, false, false, false, false, false, false, false, false, false, false, false, false, false, false, false, false, false, false, false, false, false, false, false, false, false, false, false, false, false, false, false] rfl rfl (any_of HT_.out (by kernel_rfl)) (fun _ _ _ h => h) (Or.inl ⟨by rfl, ?_⟩) ?_ ?_
   rotate_left
   ·intro w'
    go_simp
    with_reducible rfl
   rotate_left
   ·simp only [Act.put, List.setIfInBounds_toArray, List.set_cons_zero, List.set_cons_succ, i64_w, i32_w]
    rfl
   refine pure_ (i := 34) (N := some 104) (v := ?_) (a' := ?_) #[true, true, true, true, true, true, true, true, true, true, true, true, true, true, true, true, true, true, true, true, true, true, true, true, true, true, true, true, true, true, true, true, true, true, true, false, false, false, false, false, false, false, false, false, false, false, false, false, false, false, false, false, false, false, false, false, false, false, false, false, false, false, false, false, false] rfl rfl (any_of HT_.out (by kernel_rfl)) (fun _ _ _ h => h) (Or.inl ⟨by rfl, ?_⟩) ?_ ?_
   rotate_left
   ·intro w'
    go_simp
    with_reducible rfl
   rotate_left
   ·simp only [Act.put, List.setIfInBounds_toArray, List.set_cons_zero, List.set_cons_succ, i64_w, i32_w]
    rfl
   refine pure_ (i := 35) (N := some 105) (v := ?_) (a' := ?_) #[true, true, true, true, true, true, true, true, true, true, true, true, true, true, true, true, true, true, true, true, true, true, true, true, true, true, true, true, true, true, true, true, true, true, true, true, false, false, false, false, false, false, false, false, false, false, false, false, false, false, false, false, false, false, false, false, false, false, false, false, false, false, false, false, false] rfl rfl (any_of HT_.out (by kernel_rfl)) (fun _ _ _ h => h) (Or.inl ⟨by rfl, ?_⟩) ?_ ?_
   rotate_left
   ·intro w'
    go_simp
    with_reducible rfl
   rotate_left
   ·simp only [Act.put, List.setIfInBounds_toArray, List.set_cons_zero, List.set_cons_succ, i64_w, i32_w]
    rfl
   refine one_ (i := 36) (N := some 106) #[true, true, true, true, true, true, true, true, true, true, true, true, true, true, true, true, true, true, true, true, true, true, true, true, true, true, true, true, true, true, true, true, true, true, true, true, true, false, false, false, false, false, false, false, false, false, false, false, false, false, false, false, false, false, false, false, false, false, false, false, false, false, false, false, false] rfl rfl (one_of HT_.out (by kernel_rfl)) (by decide) (fun K hK => ?_)
   refine goes_ Try.func13 (by kernel_rfl) rfl #[.pointer none] (by rfl) rfl rfl (by (try simp only [List.map_toArray, List.map_cons, List.map_nil]); first | done | rfl) ?_
   with_reducible refine (nil_len _).mono ?_
   rintro e v12 ⟨rfl, hb⟩
   refine ⟨_, rfl, ?_⟩
   have Tv12 := Aside0.mk (Tv11.out.below hb)
   clear hb
   have hgv120 : v12.cell? ⟨gp, 0, none⟩ = some (.int .u32 pa) := (blk_cell Tv12.out.box 0).trans rfl
   have hgv121 : v12.cell? ⟨gp, 1, none⟩ = some (.int .i64 pb) := (blk_cell Tv12.out.box 1).trans rfl
   refine hK.out _ _ ⟨hgv120, hgv121⟩ (fun hHeld => ?_)
   clear hK K
   refine norm_ (a' := ?_) ?_ ?_
   rotate_left
   ·show Act.put _ (some 106) _ = _
    simp only [Act.put, List.setIfInBounds_toArray, List.set_cons_zero, List.set_cons_succ, i64_w, i32_w]
    rfl
   refine pure_ (i := 37) (N := some 107) (v := ?_) (a' := ?_) #[true, true, true, true, true, true, true, true, true, true, true, true, true, true, true, true, true, true, true, true, true, true, true, true, true, true, true, true, true, true, true, true, true, true, true, true, true, true, false, false, false, false, false, false, false, false, false, false, false, false, false, false, false, false, false, false, false, false, false, false, false, false, false, false, false] rfl rfl (any_of HT_.out (by kernel_rfl)) (fun _ _ _ h => h) (Or.inl ⟨by rfl, ?_⟩) ?_ ?_
   rotate_left
   ·intro w'
    go_simp
    with_reducible rfl
   rotate_left
   ·simp only [Act.put, List.setIfInBounds_toArray, List.set_cons_zero, List.set_cons_succ, i64_w, i32_w]
    rfl
   refine pure_ (i := 38) (N := some 108) (v := ?_) (a' := ?_) #[true, true, true, true, true, true, true, true, true, true, true, true, true, true, true, true, true, true, true, true, true, true, true, true, true, true, true, true, true, true, true, true, true, true, true, true, true, true, true, false, false, false, false, false, false, false, false, false, false, false, false, false, false, false, false, false, false, false, false, false, false, false, false, false, false] rfl rfl (any_of HT_.out (by kernel_rfl)) (fun _ _ _ h => h) (Or.inl ⟨by rfl, ?_⟩) ?_ ?_
   rotate_left
   ·intro w'
    go_simp
    with_reducible rfl
   rotate_left
   ·simp only [Act.put, List.setIfInBounds_toArray, List.set_cons_zero, List.set_cons_succ, i64_w, i32_w]
    rfl
   refine pure_ (i := 39) (N := some 109) (v := ?_) (a' := ?_) #[true, true, true, true, true, true, true, true, true, true, true, true, true, true, true, true, true, true, true, true, true, true, true, true, true, true, true, true, true, true, true, true, true, true, true, true, true, true, true, true, false, false, false, false, false, false, false, false, false, false, false, false, false, false, false, false, false, false, false, false, false, false, false, false, false] rfl rfl (any_of HT_.out (by kernel_rfl)) (fun _ _ _ h => h) (Or.inl ⟨by rfl, ?_⟩) ?_ ?_
   rotate_left
   ·intro w'
    go_simp
    with_reducible rfl
   rotate_left
   ·simp only [Act.put, List.setIfInBounds_toArray, List.set_cons_zero, List.set_cons_succ, i64_w, i32_w]
    rfl
   refine pure_ (i := 40) (N := some 110) (v := ?_) (a' := ?_) #[true, true, true, true, true, true, true, true, true, true, true, true, true, true, true, true, true, true, true, true, true, true, true, true, true, true, true, true, true, true, true, true, true, true, true, true, true, true, true, true, true, false, false, false, false, false, false, false, false, false, false, false, false, false, false, false, false, false, false, false, false, false, false, false, false] rfl rfl (any_of HT_.out (by kernel_rfl)) (fun _ _ _ h => h) (Or.inl ⟨by rfl, ?_⟩) ?_ ?_
   rotate_left
   ·intro w'
    go_simp
    with_reducible rfl
   rotate_left
   ·simp only [Act.put, List.setIfInBounds_toArray, List.set_cons_zero, List.set_cons_succ, i64_w, i32_w]
    rfl
   refine one_ (i := 41) (N := some 111) #[true, true, true, true, true, true, true, true, true, true, true, true, true, true, true, true, true, true, true, true, true, true, true, true, true, true, true, true, true, true, true, true, true, true, true, true, true, true, true, true, true, true, false, false, false, false, false, false, false, false, false, false, false, false, false, false, false, false, false, false, false, false, false, false, false] rfl rfl (one_of HT_.out (by kernel_rfl)) (by decide) (fun K hK => ?_)
   refine goes_ Try.func10 (by kernel_rfl) rfl #[.pointer none] (by rfl) rfl rfl (by (try simp only [List.map_toArray, List.map_cons, List.map_nil]); first | done | rfl) ?_
   with_reducible refine (nil_size _).mono ?_
   rintro e v13 ⟨rfl, hb⟩
   refine ⟨_, rfl, ?_⟩
   have Tv13 := Aside0.mk (Tv12.out.below hb)
   clear hb
   have hgv130 : v13.cell? ⟨gp, 0, none⟩ = some (.int .u32 pa) := (blk_cell Tv13.out.box 0).trans rfl
   have hgv131 : v13.cell? ⟨gp, 1, none⟩ = some (.int .i64 pb) := (blk_cell Tv13.out.box 1).trans rfl
   refine hK.out _ _ ⟨hgv130, hgv131⟩ (fun hHeld => ?_)
   clear hK K
   refine norm_ (a' := ?_) ?_ ?_
   rotate_left
   ·show Act.put _ (some 111) _ = _
    simp only [Act.put, List.setIfInBounds_toArray, List.set_cons_zero, List.set_cons_succ, i64_w, i32_w]
    rfl
   refine pure_ (i := 42) (N := some 112) (v := ?_) (a' := ?_) #[true, true, true, true, true, true, true, true, true, true, true, true, true, true, true, true, true, true, true, true, true, true, true, true, true, true, true, true, true, true, true, true, true, true, true, true, true, true, true, true, true, true, true, false, false, false, false, false, false, false, false, false, false, false, false, false, false, false, false, false, false, false, false, false, false] rfl rfl (any_of HT_.out (by kernel_rfl)) (fun _ _ _ h => h) (Or.inl ⟨by rfl, ?_⟩) ?_ ?_
   rotate_left
   ·intro w'
    go_simp
    with_reducible rfl
   rotate_left
   ·simp only [Act.put, List.setIfInBounds_toArray, List.set_cons_zero, List.set_cons_succ, i64_w, i32_w]
    rfl
   refine pure_ (i := 43) (N := some 113) (v := ?_) (a' := ?_) #[true, true, true, true, true, true, true, true, true, true, true, true, true, true, true, true, true, true, true, true, true, true, true, true, true, true, true, true, true, true, true, true, true, true, true, true, true, true, true, true, true, true, true, true, false, false, false, false, false, false, false, false, false, false, false, false, false, false, false, false, false, false, false, false, false] rfl rfl (any_of HT_.out (by kernel_rfl)) (fun _ _ _ h => h) (Or.inl ⟨by rfl, ?_⟩) ?_ ?_
   rotate_left
   ·intro w'
    go_simp
    with_reducible rfl
   rotate_left
   ·simp only [Act.put, List.setIfInBounds_toArray, List.set_cons_zero, List.set_cons_succ, i64_w, i32_w]
    rfl
   refine pure_ (i := 44) (N := some 114) (v := ?_) (a' := ?_) #[true, true, true, true, true, true, true, true, true, true, true, true, true, true, true, true, true, true, true, true, true, true, true, true, true, true, true, true, true, true, true, true, true, true, true, true, true, true, true, true, true, true, true, true, true, false, false, false, false, false, false, false, false, false, false, false, false, false, false, false, false, false, false, false, false] rfl rfl (any_of HT_.out (by kernel_rfl)) (fun _ _ _ h => h) (Or.inl ⟨by rfl, ?_⟩) ?_ ?_
   rotate_left
   ·intro w'
    go_simp
    with_reducible rfl
   rotate_left
   ·simp only [Act.put, List.setIfInBounds_toArray, List.set_cons_zero, List.set_cons_succ, i64_w, i32_w]
    rfl
   refine pure_ (i := 45) (N := some 115) (v := ?_) (a' := ?_) #[true, true, true, true, true, true, true, true, true, true, true, true, true, true, true, true, true, true, true, true, true, true, true, true, true, true, true, true, true, true, true, true, true, true, true, true, true, true, true, true, true, true, true, true, true, true, false, false, false, false, false, false, false, false, false, false, false, false, false, false, false, false, false, false, false] rfl rfl (any_of HT_.out (by kernel_rfl)) (fun _ _ _ h => h) (Or.inl ⟨by rfl, ?_⟩) ?_ ?_
   rotate_left
   ·intro w'
    go_simp
    with_reducible rfl
   rotate_left
   ·simp only [Act.put, List.setIfInBounds_toArray, List.set_cons_zero, List.set_cons_succ, i64_w, i32_w]
    rfl
   refine pure_ (i := 46) (N := some 116) (v := ?_) (a' := ?_) #[true, true, true, true, true, true, true, true, true, true, true, true, true, true, true, true, true, true, true, true, true, true, true, true, true, true, true, true, true, true, true, true, true, true, true, true, true, true, true, true, true, true, true, true, true, true, true, false, false, false, false, false, false, false, false, false, false, false, false, false, false, false, false, false, false] rfl rfl (any_of HT_.out (by kernel_rfl)) (fun _ _ _ h => h) (Or.inl ⟨by rfl, ?_⟩) ?_ ?_
   rotate_left
   ·intro w'
    go_simp
    with_reducible rfl
   rotate_left
   ·simp only [Act.put, List.setIfInBounds_toArray, List.set_cons_zero, List.set_cons_succ, i64_w, i32_w]
    rfl
   refine one_ (i := 47) (N := some 117) #[true, true, true, true, true, true, true, true, true, true, true, true, true, true, true, true, true, true, true, true, true, true, true, true, true, true, true, true, true, true, true, true, true, true, true, true, true, true, true, true, true, true, true, true, true, true, true, true, false, false, false, false, false, false, false, false, false, false, false, false, false, false, false, false, false] rfl rfl (one_of HT_.out (by kernel_rfl)) (by decide) (fun K hK => ?_)
   refine goes_ Try.func11 (by kernel_rfl) rfl #[.pointer none, .int .u32 a1] (by rfl) rfl rfl (by (try simp only [List.map_toArray, List.map_cons, List.map_nil]); first | done | rfl) ?_
   with_reducible refine (nil_of a1 _).mono ?_
   rintro e v14 ⟨rfl, hb⟩
   refine ⟨_, rfl, ?_⟩
   have Tv14 := Aside0.mk (Tv13.out.below hb)
   clear hb
   have hgv140 : v14.cell? ⟨gp, 0, none⟩ = some (.int .u32 pa) := (blk_cell Tv14.out.box 0).trans rfl
   have hgv141 : v14.cell? ⟨gp, 1, none⟩ = some (.int .i64 pb) := (blk_cell Tv14.out.box 1).trans rfl
   refine hK.out _ _ ⟨hgv140, hgv141⟩ (fun hHeld => ?_)
   clear hK K
   refine norm_ (a' := ?_) ?_ ?_
   rotate_left
   ·show Act.put _ (some 117) _ = _
    simp only [Act.put, List.setIfInBounds_toArray, List.set_cons_zero, List.set_cons_succ, i64_w, i32_w]
    rfl
   refine pure_ (i := 48) (N := some 118) (v := ?_) (a' := ?_) #[true, true, true, true, true, true, true, true, true, true, true, true, true, true, true, true, true, true, true, true, true, true, true, true, true, true, true, true, true, true, true, true, true, true, true, true, true, true, true, true, true, true, true, true, true, true, true, true, true, false, false, false, false, false, false, false, false, false, false, false, false, false, false, false, false] rfl rfl (any_of HT_.out (by kernel_rfl)) (fun _ _ _ h => h) (Or.inl ⟨by rfl, ?_⟩) ?_ ?_
   rotate_left
   ·intro w'
    go_simp
    with_reducible rfl
   rotate_left
   ·simp only [Act.put, List.setIfInBounds_toArray, List.set_cons_zero, List.set_cons_succ, i64_w, i32_w]
    rfl
   refine pure_ (i := 49) (N := some 119) (v := ?_) (a' := ?_) #[true, true, true, true, true, true, true, true, true, true, true, true, true, true, true, true, true, true, true, true, true, true, true, true, true, true, true, true, true, true, true, true, true, true, true, true, true, true, true, true, true, true, true, true, true, true, true, true, true, true, false, false, false, false, false, false, false, false, false, false, false, false, false, false, false] rfl rfl (any_of HT_.out (by kernel_rfl)) (fun _ _ _ h => h) (Or.inl ⟨by rfl, ?_⟩) ?_ ?_
   rotate_left
   ·intro w'
    go_simp
    with_reducible rfl
   rotate_left
   ·simp only [Act.put, List.setIfInBounds_toArray, List.set_cons_zero, List.set_cons_succ, i64_w, i32_w]
    rfl
   refine pure_ (i := 50) (N := some 120) (v := ?_) (a' := ?_) #[true, true, true, true, true, true, true, true, true, true, true, true, true, true, true, true, true, true, true, true, true, true, true, true, true, true, true, true, true, true, true, true, true, true, true, true, true, true, true, true, true, true, true, true, true, true, true, true, true, true, true, false, false, false, false, false, false, false, false, false, false, false, false, false, false] rfl rfl (any_of HT_.out (by kernel_rfl)) (fun _ _ _ h => h) (Or.inl ⟨by rfl, ?_⟩) ?_ ?_
   rotate_left
   ·intro w'
    go_simp
    with_reducible rfl
   rotate_left
   ·simp only [Act.put, List.setIfInBounds_toArray, List.set_cons_zero, List.set_cons_succ, i64_w, i32_w]
    rfl
   refine pure_ (i := 51) (N := some 121) (v := ?_) (a' := ?_) #[true, true, true, true, true, true, true, true, true, true, true, true, true, true, true, true, true, true, true, true, true, true, true, true, true, true, true, true, true, true, true, true, true, true, true, true, true, true, true, true, true, true, true, true, true, true, true, true, true, true, true, true, false, false, false, false, false, false, false, false, false, false, false, false, false] rfl rfl (any_of HT_.out (by kernel_rfl)) (fun _ _ _ h => h) (Or.inl ⟨by rfl, ?_⟩) ?_ ?_
   rotate_left
   ·intro w'
    go_simp
    with_reducible rfl
   rotate_left
   ·simp only [Act.put, List.setIfInBounds_toArray, List.set_cons_zero, List.set_cons_succ, i64_w, i32_w]
    rfl
   refine pure_ (i := 52) (N := some 122) (v := ?_) (a' := ?_) #[true, true, true, true, true, true, true, true, true, true, true, true, true, true, true, true, true, true, true, true, true, true, true, true, true, true, true, true, true, true, true, true, true, true, true, true, true, true, true, true, true, true, true, true, true, true, true, true, true, true, true, true, true, false, false, false, false, false, false, false, false, false, false, false, false] rfl rfl (any_of HT_.out (by kernel_rfl)) (fun _ _ _ h => h) (Or.inl ⟨by rfl, ?_⟩) ?_ ?_
   rotate_left
   ·intro w'
    go_simp
    with_reducible rfl
   rotate_left
   ·simp only [Act.put, List.setIfInBounds_toArray, List.set_cons_zero, List.set_cons_succ, i64_w, i32_w]
    rfl
   refine one_ (i := 53) (N := some 123) #[true, true, true, true, true, true, true, true, true, true, true, true, true, true, true, true, true, true, true, true, true, true, true, true, true, true, true, true, true, true, true, true, true, true, true, true, true, true, true, true, true, true, true, true, true, true, true, true, true, true, true, true, true, true, false, false, false, false, false, false, false, false, false, false, false] rfl rfl (one_of HT_.out (by kernel_rfl)) (by decide) (fun K hK => ?_)
   refine goes_ Try.func9 (by kernel_rfl) rfl #[.pointer none] (by rfl) rfl rfl (by (try simp only [List.map_toArray, List.map_cons, List.map_nil]); first | done | rfl) ?_
   with_reducible refine (nil_all _).mono ?_
   rintro e v15 ⟨rfl, hb⟩
   refine ⟨_, rfl, ?_⟩
   have Tv15 := Aside0.mk (Tv14.out.below hb)
   clear hb
   have hgv150 : v15.cell? ⟨gp, 0, none⟩ = some (.int .u32 pa) := (blk_cell Tv15.out.box 0).trans rfl
   have hgv151 : v15.cell? ⟨gp, 1, none⟩ = some (.int .i64 pb) := (blk_cell Tv15.out.box 1).trans rfl
   refine hK.out _ _ ⟨hgv150, hgv151⟩ (fun hHeld => ?_)
   clear hK K
   refine norm_ (a' := ?_) ?_ ?_
   rotate_left
   ·show Act.put _ (some 123) _ = _
    simp only [Act.put, List.setIfInBounds_toArray, List.set_cons_zero, List.set_cons_succ, i64_w, i32_w]
    rfl
   refine pure_ (i := 54) (N := some 124) (v := ?_) (a' := ?_) #[true, true, true, true, true, true, true, true, true, true, true, true, true, true, true, true, true, true, true, true, true, true, true, true, true, true, true, true, true, true, true, true, true, true, true, true, true, true, true, true, true, true, true, true, true, true, true, true, true, true, true, true, true, true, true, false, false, false, false, false, false, false, false, false, false] rfl rfl (any_of HT_.out (by kernel_rfl)) (fun _ _ _ h => h) (Or.inl ⟨by rfl, ?_⟩) ?_ ?_
   rotate_left
   ·intro w'
    go_simp
    with_reducible rfl
   rotate_left
   ·simp only [Act.put, List.setIfInBounds_toArray, List.set_cons_zero, List.set_cons_succ, i64_w, i32_w]
    rfl
   refine pure_ (i := 55) (N := some 125) (v := ?_) (a' := ?_) #[true, true, true, true, true, true, true, true, true, true, true, true, true, true, true, true, true, true, true, true, true, true, true, true, true, true, true, true, true, true, true, true, true, true, true, true, true, true, true, true, true, true, true, true, true, true, true, true, true, true, true, true, true, true, true, true, false, false, false, false, false, false, false, false, false] rfl rfl (any_of HT_.out (by kernel_rfl)) (fun _ _ _ h => h) (Or.inl ⟨by rfl, ?_⟩) ?_ ?_
   rotate_left
   ·intro w'
    go_simp
    with_reducible rfl
   rotate_left
   ·simp only [Act.put, List.setIfInBounds_toArray, List.set_cons_zero, List.set_cons_succ, i64_w, i32_w]
    rfl
   refine pure_ (i := 56) (N := some 126) (v := ?_) (a' := ?_) #[true, true, true, true, true, true, true, true, true, true, true, true, true, true, true, true, true, true, true, true, true, true, true, true, true, true, true, true, true, true, true, true, true, true, true, true, true, true, true, true, true, true, true, true, true, true, true, true, true, true, true, true, true, true, true, true, true, false, false, false, false, false, false, false, false] rfl rfl (any_of HT_.out (by kernel_rfl)) (fun _ _ _ h => h) (Or.inl ⟨by rfl, ?_⟩) ?_ ?_
   rotate_left
   ·intro w'
    go_simp
    with_reducible rfl
   rotate_left
   ·simp only [Act.put, List.setIfInBounds_toArray, List.set_cons_zero, List.set_cons_succ, i64_w, i32_w]
    rfl
   refine pure_ (i := 57) (N := some 127) (v := ?_) (a' := ?_) #[true, true, true, true, true, true, true, true, true, true, true, true, true, true, true, true, true, true, true, true, true, true, true, true, true, true, true, true, true, true, true, true, true, true, true, true, true, true, true, true, true, true, true, true, true, true, true, true, true, true, true, true, true, true, true, true, true, true, false, false, false, false, false, false, false] rfl rfl (any_of HT_.out (by kernel_rfl)) (fun _ _ _ h => h) (Or.inl ⟨by rfl, ?_⟩) ?_ ?_
   rotate_left
   ·intro w'
    go_simp
    with_reducible rfl
   rotate_left
   ·simp only [Act.put, List.setIfInBounds_toArray, List.set_cons_zero, List.set_cons_succ, i64_w, i32_w]
    rfl
   refine pure_ (i := 58) (N := some 128) (v := ?_) (a' := ?_) #[true, true, true, true, true, true, true, true, true, true, true, true, true, true, true, true, true, true, true, true, true, true, true, true, true, true, true, true, true, true, true, true, true, true, true, true, true, true, true, true, true, true, true, true, true, true, true, true, true, true, true, true, true, true, true, true, true, true, true, false, false, false, false, false, false] rfl rfl (any_of HT_.out (by kernel_rfl)) (fun _ _ _ h => h) (Or.inl ⟨by rfl, ?_⟩) ?_ ?_
   rotate_left
   ·intro w'
    go_simp
    with_reducible rfl
   rotate_left
   ·simp only [Act.put, List.setIfInBounds_toArray, List.set_cons_zero, List.set_cons_succ, i64_w, i32_w]
    rfl
   refine take_ (i := 59) (N := some 129) (v := ?_) (a' := ?_) #[true, true, true, true, true, true, true, true, true, true, true, true, true, true, true, true, true, true, true, true, true, true, true, true, true, true, true, true, true, true, true, true, true, true, true, true, true, true, true, true, true, true, true, true, true, true, true, true, true, true, true, true, true, true, true, true, true, true, true, true, false, false, false, false, false] rfl rfl (take_ofW HT_.out HW_.out (by kernel_rfl)) (fun _ _ _ h => h) (Or.inl ⟨by rfl, ?_⟩) hHeld ?_ ?_
   rotate_left
   ·rintro w' ⟨s0, s1⟩
    go_simp
    with_reducible rfl
   rotate_left
   ·simp only [Act.put, List.setIfInBounds_toArray, List.set_cons_zero, List.set_cons_succ, i64_w, i32_w]
    rfl
   refine one_ (i := 60) (N := some 130) #[true, true, true, true, true, true, true, true, true, true, true, true, true, true, true, true, true, true, true, true, true, true, true, true, true, true, true, true, true, true, true, true, true, true, true, true, true, true, true, true, true, true, true, true, true, true, true, true, true, true, true, true, true, true, true, true, true, true, true, true, true, false, false, false, false] rfl rfl (one_of HT_.out (by kernel_rfl)) (by decide) (fun K hK => ?_)
   refine goes_ Try.func12 (by kernel_rfl) rfl #[.pointer none, .agg #[.int .u32 pa, .int .i64 pb]] (by rfl) rfl rfl (by (try simp only [List.map_toArray, List.map_cons, List.map_nil]); first | done | rfl) ?_
   with_reducible refine (nil_meeting pa pb _).mono ?_
   rintro e v16 ⟨rfl, hb⟩
   refine ⟨_, rfl, ?_⟩
   have Tv16 := Aside0.mk (Tv15.out.below hb)
   clear hb
   have hgv160 : v16.cell? ⟨gp, 0, none⟩ = some (.int .u32 pa) := (blk_cell Tv16.out.box 0).trans rfl
   have hgv161 : v16.cell? ⟨gp, 1, none⟩ = some (.int .i64 pb) := (blk_cell Tv16.out.box 1).trans rfl
   refine hK.out _ _ ⟨hgv160, hgv161⟩ (fun hHeld => ?_)
   clear hK K
   refine norm_ (a' := ?_) ?_ ?_
   rotate_left
   ·show Act.put _ (some 130) _ = _
    simp only [Act.put, List.setIfInBounds_toArray, List.set_cons_zero, List.set_cons_succ, i64_w, i32_w]
    rfl
   refine pure_ (i := 61) (N := some 131) (v := ?_) (a' := ?_) #[true, true, true, true, true, true, true, true, true, true, true, true, true, true, true, true, true, true, true, true, true, true, true, true, true, true, true, true, true, true, true, true, true, true, true, true, true, true, true, true, true, true, true, true, true, true, true, true, true, true, true, true, true, true, true, true, true, true, true, true, true, true, false, false, false] rfl rfl (any_of HT_.out (by kernel_rfl)) (fun _ _ _ h => h) (Or.inl ⟨by rfl, ?_⟩) ?_ ?_
   rotate_left
   ·intro w'
    go_simp
    with_reducible rfl
   rotate_left
   ·simp only [Act.put, List.setIfInBounds_toArray, List.set_cons_zero, List.set_cons_succ, i64_w, i32_w]
    rfl
   refine pure_ (i := 62) (N := some 132) (v := ?_) (a' := ?_) #[true, true, true, true, true, true, true, true, true, true, true, true, true, true, true, true, true, true, true, true, true, true, true, true, true, true, true, true, true, true, true, true, true, true, true, true, true, true, true, true, true, true, true, true, true, true, true, true, true, true, true, true, true, true, true, true, true, true, true, true, true, true, true, false, false] rfl rfl (any_of HT_.out (by kernel_rfl)) (fun _ _ _ h => h) (Or.inl ⟨by rfl, ?_⟩) ?_ ?_
   rotate_left
   ·intro w'
    go_simp
    with_reducible rfl
   rotate_left
   ·simp only [Act.put, List.setIfInBounds_toArray, List.set_cons_zero, List.set_cons_succ, i64_w, i32_w]
    rfl
   refine pure_ (i := 63) (N := some 133) (v := ?_) (a' := ?_) #[true, true, true, true, true, true, true, true, true, true, true, true, true, true, true, true, true, true, true, true, true, true, true, true, true, true, true, true, true, true, true, true, true, true, true, true, true, true, true, true, true, true, true, true, true, true, true, true, true, true, true, true, true, true, true, true, true, true, true, true, true, true, true, true, false] rfl rfl (any_of HT_.out (by kernel_rfl)) (fun _ _ _ h => h) (Or.inl ⟨by rfl, ?_⟩) ?_ ?_
   rotate_left
   ·intro w'
    go_simp
    with_reducible rfl
   rotate_left
   ·simp only [Act.put, List.setIfInBounds_toArray, List.set_cons_zero, List.set_cons_succ, i64_w, i32_w]
    rfl
   refine pure_ (i := 64) (N := some 6) (v := ?_) (a' := ?_) #[true, true, true, true, true, true, true, true, true, true, true, true, true, true, true, true, true, true, true, true, true, true, true, true, true, true, true, true, true, true, true, true, true, true, true, true, true, true, true, true, true, true, true, true, true, true, true, true, true, true, true, true, true, true, true, true, true, true, true, true, true, true, true, true, true] rfl rfl (any_of HT_.out (by kernel_rfl)) (fun _ _ _ h => h) (Or.inl ⟨by rfl, ?_⟩) ?_ ?_
   rotate_left
   ·intro w'
    go_simp
    with_reducible rfl
   rotate_left
   ·simp only [Act.put, List.setIfInBounds_toArray, List.set_cons_zero, List.set_cons_succ, i64_w, i32_w]
    rfl
   refine done_ (done_of HT_.out (by kernel_rfl)) ?_
   go_wp2
   go_ret
   exact ⟨by first | rfl | simp, Tv16.out.bl⟩


/-! ### crossbucklaw10_TriePlays: function 6 (by hand) -/
def crossbucklaw10_TriePlays.f (l0 : List S35) (a1 : Int) (a2_0 : Int) (a2_1 : Int) : Option Bool := if (∀ o ∈ l0, okO o) ∧ 0 ≤ a1 ∧ a1 < 4294967296 ∧ 0 ≤ a2_0 ∧ a2_0 < 4294967296 then some true else none
set_option maxHeartbeats 8000000 in
set_option maxRecDepth 100000 in
theorem plays_long (A0 : Option Addr) (c0 : Nat) (l0 : List S35) (a1 pa pb : Int) (w : World) (h : 60 < l0.length) :
  Calls Try.prog 6 #[.slice A0 l0.length c0, .int .u32 a1, .agg #[.int .u32 pa, .int .i64 pb]] w fun e w' => e = .returned (.bool true) ∧ Below w.heap.size w w' := by
 have B0 := Aside0.mk (Below.refl w.heap.size w)
 have q1 : decide (60 < l0.length) = true := decide_eq_true h
 have q3 : decide ((60 : Int) < (l0.length : Int)) = true := decide_eq_true (by omega)
 clear h
 go_enter Try.func6, Try.ntmps6
 go_wp2_with (first
  | ((with_reducible refine gate_dst (N := 5) rfl ?_); refine box_event ?hg (N := 5) ?hd (cs := #[.int .u32 pa, .int .i64 pb]) (t := 33) ?hr ?_; (case hd => rfl); (case hg => rfl); (case hr => first | (go_simp; done) | (go_simp; rfl)); intro gp hgp w1 hbox hb; have B1 := Aside0.mk hb; clear hgp hbox hb)
  | (go_at_call 7; refine (awake_.calls _).mono ?_; rintro e w5 ⟨rfl, hb⟩; have B5 := Aside0.mk (below_step B1.out hb); clear hb))
 go_ret
 exact ⟨rfl, B5.out⟩
theorem crossbucklaw10_TriePlays.calls (A0 : Option Addr) (c0 : Nat) (l0 : List S35) (a1 : Int) (a2_0 : Int) (a2_1 : Int) (r : Bool) (w : World) (hr0 : Kd.C k35 w A0 l0.length l0) (hc0 : l0.length ≤ c0) (h : crossbucklaw10_TriePlays.f l0 a1 a2_0 a2_1 = some r) :
  Calls Try.prog 6 #[.slice A0 l0.length c0, .int .u32 a1, .agg #[.int .u32 a2_0, .int .i64 a2_1]] w fun e w' => e = .returned (.bool r) ∧ Below w.heap.size w w' := by
 unfold crossbucklaw10_TriePlays.f at h
 by_cases hk : (∀ o ∈ l0, okO o) ∧ 0 ≤ a1 ∧ a1 < 4294967296 ∧ 0 ≤ a2_0 ∧ a2_0 < 4294967296
 ·rw [if_pos hk] at h
  obtain rfl := Option.some.inj h
  by_cases h1 : 60 < l0.length
  ·exact plays_long A0 c0 l0 a1 a2_0 a2_1 w h1
  ·exact plays_walk A0 c0 l0 a1 a2_0 a2_1 w hr0 (by omega) hk.1 hk.2.1 hk.2.2.1 hk.2.2.2.1 hk.2.2.2.2
 ·rw [if_neg hk] at h
  cases h

end Go.Proofs.Ytbmibakhpealjaa.PTr
