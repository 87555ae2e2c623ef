-- The walks of the trie's functions, by hand.
-- halved
import Derived.Test.YtbmibakhpealjaaPTrx0
import Derived.Test.YtbmibakhpealjaaTrB
import Derived.Test.YtbmibakhpealjaaFactsRh
import Derived.Test.YtbmibakhpealjaaV0
import Derived.Test.YtbmibakhpealjaaPTrx10
import Derived.Test.YtbmibakhpealjaaPTrx5
import Derived.Test.YtbmibakhpealjaaPTrx17
import Derived.Test.YtbmibakhpealjaaPTrx4
import Derived.Test.YtbmibakhpealjaaPTrx1
import Derived.Test.YtbmibakhpealjaaBlk
import Derived.Test.YtbmibakhpealjaaShelf
namespace Go.Proofs.Ytbmibakhpealjaa.PTr
open Go.RowKit Go.Proofs.YtbmibakhpealjaaW.PrintWords Go.Proofs.YtbmibakhpealjaaW.PrintLast Go.Proofs.YtbmibakhpealjaaW.PrintMore
attribute [local go_sem] max2_int min2_int max_two min_two max_three min_three max_four min_four   -- for this text's walks alone
set_option linter.unusedVariables false
set_option linter.unusedSimpArgs false

/-! ### A tree of nodes in memory: node (b, n) is the one at depth b whose prefix's number is n -/
def upd2 {α : Type} (f : Nat → Nat → α) (b n : Nat) (x : α) : Nat → Nat → α := fun b' n' => if b' = b ∧ n' = n then x else f b' n'
theorem upd2_same {α : Type} (f : Nat → Nat → α) (b n : Nat) (x : α) : upd2 f b n x b n = x := by simp [upd2]
theorem upd2_ne {α : Type} (f : Nat → Nat → α) {b n b' n' : Nat} (x : α) (h : ¬ (b' = b ∧ n' = n)) : upd2 f b n x b' n' = f b' n' := by simp [upd2, h]
def kid (F : Nat → Nat → Option (List Int)) (B : Nat → Nat → Nat) (b n : Nat) : Value := .pointer (match F b n with | none => none | some _ => some ⟨B b n, 0, none⟩)
def ncs (F : Nat → Nat → Option (List Int)) (B : Nat → Nat → Nat) (V : Nat → Nat → Value) (c : Int) (b n : Nat) : Array Value :=
 if b = 0 then #[V b n, kid F B (b + 1) (2 * n), kid F B (b + 1) (2 * n + 1), .int .i64 c] else #[V b n, kid F B (b + 1) (2 * n), kid F B (b + 1) (2 * n + 1)]
def nty (b : Nat) : Nat := if b = 0 then 30 else 28
structure Tr (w wr : World) (S : Nat → Prop) (tb : Nat) (F : Nat → Nat → Option (List Int)) (B : Nat → Nat → Nat) (V : Nat → Nat → Value) (c : Int) : Prop where
 root : ∃ vs, F 0 0 = some vs
 only : ∀ n, F 0 n ≠ none → n = 0
 b0 : B 0 0 = tb
 up : ∀ b n, F (b + 1) n ≠ none → F b (n / 2) ≠ none
 nod : ∀ b n vs, F b n = some vs → wr.heap[B b n]? = some (.cells (ncs F B V c b n) (nty b) (0, 0))
 row : ∀ b n vs, F b n = some vs → (Kd.int .i64).R 3 wr w.heap.size (fun k => some k = (V b n).ownBlock) (V b n) vs
 inj : ∀ b n b' n' vs vs', F b n = some vs → F b' n' = some vs' → B b n = B b' n' → b = b' ∧ n = n'
 apart : ∀ b n b' n' vs vs', F b n = some vs → F b' n' = some vs' → ∀ k, some k = (V b n).ownBlock → some k = (V b' n').ownBlock → b = b' ∧ n = n'
 sb : ∀ b n vs, F b n = some vs → S (B b n) ∧ w.heap.size ≤ B b n
 sv : ∀ b n vs, F b n = some vs → ∀ k, some k = (V b n).ownBlock → S k
 bl : Below w.heap.size w wr
theorem nty_ne (b : Nat) : (3 : Nat) ≠ nty b := by unfold nty; split <;> decide
theorem R_tight {w : World} {base : Nat} {ok : Nat → Prop} {v : Value} {xs : List Int} (h : (Kd.int .i64).R 3 w base ok v xs) : (Kd.int .i64).R 3 w base (fun k => some k = v.ownBlock) v xs := ⟨fun k hk => hk.symm, h.2⟩
section
variable {w wr w1 : World} {S T : Nat → Prop} {tb : Nat} {F : Nat → Nat → Option (List Int)} {B : Nat → Nat → Nat} {V : Nat → Nat → Value} {c : Int}
theorem Tr.mono (h : Tr w wr S tb F B V c) (hs : ∀ k, S k → T k) : Tr w wr T tb F B V c :=
 { h with sb := fun b n vs hf => ⟨hs _ (h.sb b n vs hf).1, (h.sb b n vs hf).2⟩, sv := fun b n vs hf k hk => hs k (h.sv b n vs hf k hk) }
theorem Tr.step (h : Tr w wr S tb F B V c) (hm : ∀ k, S k → k < wr.heap.size → w1.heap[k]? = wr.heap[k]?) (hb : Below w.heap.size w w1) : Tr w w1 S tb F B V c :=
 { h with
  nod := fun b n vs hf => (hm _ (h.sb b n vs hf).1 (blk_lt (h.nod b n vs hf))).trans (h.nod b n vs hf)
  row := fun b n vs hf => Kd.R_step (h.row b n vs hf) (fun k hk hlt => hm k (h.sv b n vs hf k hk) hlt)
  bl := hb }
theorem Tr.below (h : Tr w wr S tb F B V c) (hb : Below wr.heap.size wr w1) : Tr w w1 S tb F B V c := h.step (fun k _ hlt => hb.block k hlt) (below_step h.bl hb)
theorem Tr.kept (h : Tr w wr S tb F B V c) (hk : Kept wr w1 T) (hn : ∀ k, S k → ¬ T k) (hb : Below w.heap.size w w1) : Tr w w1 S tb F B V c := h.step (fun k hS hlt => hk.2 k hlt (hn k hS)) hb
theorem Tr.lt (h : Tr w wr S tb F B V c) {b n : Nat} {vs : List Int} (hf : F b n = some vs) : B b n < wr.heap.size := blk_lt (h.nod b n vs hf)
theorem Tr.vlt (h : Tr w wr S tb F B V c) {b n : Nat} {vs : List Int} (hf : F b n = some vs) : ∀ k, some k = (V b n).ownBlock → k < wr.heap.size := fun k hk => Kd.R_lt (h.row b n vs hf) k hk.symm
theorem Tr.bound (h : Tr w wr S tb F B V c) : Tr w wr (fun k => S k ∧ k < wr.heap.size) tb F B V c :=
 { h with sb := fun b n vs hf => ⟨⟨(h.sb b n vs hf).1, h.lt hf⟩, (h.sb b n vs hf).2⟩, sv := fun b n vs hf k hk => ⟨h.sv b n vs hf k hk, h.vlt hf k hk⟩ }
theorem Tr.c0 (h : Tr w wr S tb F B V c) {b n : Nat} {vs : List Int} (hf : F b n = some vs) : wr.cell? ⟨B b n, 0, none⟩ = some (V b n) := by
 rw [blk_cell (h.nod b n vs hf) 0]; unfold ncs; split <;> rfl
theorem Tr.c1 (h : Tr w wr S tb F B V c) {b n : Nat} {vs : List Int} (hf : F b n = some vs) : wr.cell? ⟨B b n, 1, none⟩ = some (kid F B (b + 1) (2 * n)) := by
 rw [blk_cell (h.nod b n vs hf) 1]; unfold ncs; split <;> rfl
theorem Tr.c2 (h : Tr w wr S tb F B V c) {b n : Nat} {vs : List Int} (hf : F b n = some vs) : wr.cell? ⟨B b n, 2, none⟩ = some (kid F B (b + 1) (2 * n + 1)) := by
 rw [blk_cell (h.nod b n vs hf) 2]; unfold ncs; split <;> rfl
theorem Tr.ci (h : Tr w wr S tb F B V c) {b n : Nat} {vs : List Int} (hf : F b n = some vs) (i : Nat) (hi : i < 2) : wr.cell? ⟨B b n, 1 + i, none⟩ = some (kid F B (b + 1) (2 * n + i)) := by
 match i, hi with
 | 0, _ => exact h.c1 hf
 | 1, _ => exact h.c2 hf
theorem Tr.fz (h : Tr w wr S tb F B V c) {b n : Nat} {vs : List Int} (hf : F b n = some vs) (i : Nat) : wr.frozen? ⟨B b n, i, none⟩ = false := blk_frozen (h.nod b n vs hf) i
theorem Tr.cnt (h : Tr w wr S tb F B V c) : wr.cell? ⟨tb, 3, none⟩ = some (.int .i64 c) := by
 obtain ⟨vs, hf⟩ := h.root
 rw [← h.b0, blk_cell (h.nod 0 0 vs hf) 3]; rfl
theorem Tr.kidN (h : Tr w wr S tb F B V c) {b n : Nat} (hf : F b n = none) : kid F B b n = .pointer none := by unfold kid; rw [hf]
theorem Tr.kidS (h : Tr w wr S tb F B V c) {b n : Nat} {vs : List Int} (hf : F b n = some vs) : kid F B b n = .pointer (some ⟨B b n, 0, none⟩) := by unfold kid; rw [hf]
/-- A cell of one node is written. -/
theorem Tr.setAt (h : Tr w wr S tb F B V c) {b n : Nat} {vs : List Int} (hf : F b n = some vs) (i : Nat) (u : Value) :
  (∀ b' n' vs', F b' n' = some vs' → ¬ (b' = b ∧ n' = n) → (wr.setCell ⟨B b n, i, none⟩ u).heap[B b' n']? = some (.cells (ncs F B V c b' n') (nty b') (0, 0))) ∧
  (wr.setCell ⟨B b n, i, none⟩ u).heap[B b n]? = some (.cells ((ncs F B V c b n).setIfInBounds i u) (nty b) (0, 0)) ∧
  (∀ b' n' vs', F b' n' = some vs' → (Kd.int .i64).R 3 (wr.setCell ⟨B b n, i, none⟩ u) w.heap.size (fun k => some k = (V b' n').ownBlock) (V b' n') vs') ∧ Below w.heap.size w (wr.setCell ⟨B b n, i, none⟩ u) := by
 refine ⟨fun b' n' vs' hf' hne => ?_, blk_set (h.nod b n vs hf) i u, fun b' n' vs' hf' => ?_, below_set h.bl (h.sb b n vs hf).2⟩
 ·exact blk_far (p := ⟨B b n, i, none⟩) (h.nod b' n' vs' hf') (fun e => hne (h.inj _ _ _ _ _ _ hf' hf e)) u
 ·exact Kd.R_set (h.row b' n' vs' hf') (h.nod b n vs hf) (fun q hq => by
   have : q = 3 := by simpa [Kd.int, Kd.scalar] using hq
   rw [this]
   exact nty_ne b) i u
/-- The count is written. -/
theorem Tr.setCnt (h : Tr w wr S tb F B V c) (c' : Int) : Tr w (wr.setCell ⟨tb, 3, none⟩ (.int .i64 c')) S tb F B V c' := by
 obtain ⟨vs, hf⟩ := h.root
 obtain ⟨h1, h2, h3, h4⟩ := h.setAt hf 3 (.int .i64 c')
 rw [h.b0] at h1 h2 h3 h4
 refine { h with nod := fun b' n' vs' hf' => ?_, row := h3, bl := h4 }
 by_cases e : b' = 0 ∧ n' = 0
 ·obtain ⟨rfl, rfl⟩ := e
  rw [h.b0, h2]
  rfl
 ·have hb : b' ≠ 0 := fun e0 => e ⟨e0, h.only n' (by rw [← e0, hf']; exact fun x => by cases x)⟩
  rw [h1 b' n' vs' hf' e]
  unfold ncs
  rw [if_neg hb, if_neg hb]
/-- A new value row is laid into a node: it is the node's old one, written, or a new one. -/
theorem Tr.setVals (h : Tr w wr S tb F B V c) {b n : Nat} {vs vs2 : List Int} {v2 : Value} (hf : F b n = some vs) (hk : Kept wr w1 (fun k => some k = (V b n).ownBlock)) (hb : Below w.heap.size w w1)
  (hr : (Kd.int .i64).R 3 w1 w.heap.size (fun k => some k = v2.ownBlock) v2 vs2) (ho : ∀ k, some k = v2.ownBlock → some k = (V b n).ownBlock ∨ wr.heap.size ≤ k) :
  Tr w (w1.setCell ⟨B b n, 0, none⟩ v2) (fun k => S k ∨ wr.heap.size ≤ k) tb (upd2 F b n (some vs2)) B (upd2 V b n v2) c := by
 have nodes : ∀ b' n' vs', F b' n' = some vs' → w1.heap[B b' n']? = some (.cells (ncs F B V c b' n') (nty b') (0, 0)) := fun b' n' vs' hf' =>
  blk_kept (h.nod b' n' vs' hf') hk (Kd.R_ne (h.row b n vs hf) (h.nod b' n' vs' hf') (nty_ne b'))
 have hget : ∀ b' n' vs', upd2 F b n (some vs2) b' n' = some vs' → ∃ vs0, F b' n' = some vs0 := fun b' n' vs' h' => by
  by_cases e : b' = b ∧ n' = n
  ·obtain ⟨rfl, rfl⟩ := e; exact ⟨vs, hf⟩
  ·rw [upd2_ne _ _ e] at h'; exact ⟨vs', h'⟩
 have hkid : ∀ b' n', kid (upd2 F b n (some vs2)) B b' n' = kid F B b' n' := fun b' n' => by
  unfold kid upd2
  by_cases e : b' = b ∧ n' = n
  ·rw [if_pos e, e.1, e.2, hf]
  ·rw [if_neg e]
 have hncs : ∀ b' n', ¬ (b' = b ∧ n' = n) → ncs (upd2 F b n (some vs2)) B (upd2 V b n v2) c b' n' = ncs F B V c b' n' := fun b' n' e => by
  unfold ncs
  rw [hkid, hkid, upd2_ne _ _ e]
 have hncs0 : ncs (upd2 F b n (some vs2)) B (upd2 V b n v2) c b n = (ncs F B V c b n).setIfInBounds 0 v2 := by
  unfold ncs
  rw [hkid, hkid, upd2_same]
  split <;> rfl
 have newer : ∀ k, some k = v2.ownBlock → ∀ b' n' vs', F b' n' = some vs' → ¬ (b' = b ∧ n' = n) → some k ≠ (V b' n').ownBlock := fun k hk2 b' n' vs' hf' e hk3 => by
  rcases ho k hk2 with h1 | h1
  ·exact e (h.apart _ _ _ _ _ _ hf' hf k hk3 h1)
  ·have := h.vlt hf' k hk3
   omega
 refine ⟨?_, fun n' hn' => ?_, h.b0, fun b' n' hn' => ?_, fun b' n' vs' hf' => ?_, fun b' n' vs' hf' => ?_, fun a1 a2 a3 a4 v1 v3 h1 h3 e => ?_, fun a1 a2 a3 a4 v1 v3 h1 h3 k k1 k2 => ?_, fun b' n' vs' hf' => ?_, fun b' n' vs' hf' k hk2 => ?_, below_set hb (h.sb b n vs hf).2⟩
 ·obtain ⟨v0, hr0⟩ := h.root
  by_cases e : 0 = b ∧ 0 = n
  ·exact ⟨vs2, by unfold upd2; rw [if_pos e]⟩
  ·exact ⟨v0, by rw [upd2_ne _ _ e]; exact hr0⟩
 ·cases hx : upd2 F b n (some vs2) 0 n' with
  | none => exact (hn' hx).elim
  | some x =>
   obtain ⟨y, hy⟩ := hget 0 n' x hx
   exact h.only n' (by rw [hy]; exact fun e => by cases e)
 ·cases hx : upd2 F b n (some vs2) (b' + 1) n' with
  | none => exact (hn' hx).elim
  | some x =>
   obtain ⟨y, hy⟩ := hget _ n' x hx
   have := h.up b' n' (by rw [hy]; exact fun e => by cases e)
   unfold upd2
   split
   ·exact fun e => by cases e
   ·exact this
 ·by_cases e : b' = b ∧ n' = n
  ·obtain ⟨rfl, rfl⟩ := e
   rw [hncs0]
   exact blk_set (nodes _ _ vs hf) 0 v2
  ·rw [upd2_ne _ _ e] at hf'
   rw [hncs b' n' e]
   exact blk_far (p := ⟨B b n, 0, none⟩) (nodes b' n' vs' hf') (fun e2 => e (h.inj _ _ _ _ _ _ hf' hf e2)) v2
 ·by_cases e : b' = b ∧ n' = n
  ·obtain ⟨rfl, rfl⟩ := e
   rw [upd2_same] at hf' ⊢
   cases hf'
   exact Kd.R_set hr (nodes _ _ vs hf) (fun q hq => by
    have : q = 3 := by simpa [Kd.int, Kd.scalar] using hq
    rw [this]
    exact nty_ne _) 0 v2
  ·rw [upd2_ne _ _ e] at hf' ⊢
   refine Kd.R_set (Kd.R_step (h.row b' n' vs' hf') (fun k hk2 hlt => hk.2 k hlt (fun hk3 => e (h.apart _ _ _ _ _ _ hf' hf k hk2 hk3)))) (nodes _ _ vs hf) (fun q hq => by
    have : q = 3 := by simpa [Kd.int, Kd.scalar] using hq
    rw [this]
    exact nty_ne _) 0 v2
 ·obtain ⟨y1, hy1⟩ := hget _ _ _ h1
  obtain ⟨y3, hy3⟩ := hget _ _ _ h3
  exact h.inj _ _ _ _ _ _ hy1 hy3 e
 ·obtain ⟨y1, hy1⟩ := hget _ _ _ h1
  obtain ⟨y3, hy3⟩ := hget _ _ _ h3
  by_cases e1 : a1 = b ∧ a2 = n
  ·by_cases e3 : a3 = b ∧ a4 = n
   ·exact ⟨by rw [e1.1, e3.1], by rw [e1.2, e3.2]⟩
   ·rw [upd2_ne _ _ e3] at k2
    obtain ⟨rfl, rfl⟩ := e1
    rw [upd2_same] at k1
    exact (newer k k1 _ _ _ hy3 e3 k2).elim
  ·rw [upd2_ne _ _ e1] at k1
   by_cases e3 : a3 = b ∧ a4 = n
   ·obtain ⟨rfl, rfl⟩ := e3
    rw [upd2_same] at k2
    exact (newer k k2 _ _ _ hy1 e1 k1).elim
   ·rw [upd2_ne _ _ e3] at k2
    exact h.apart _ _ _ _ _ _ hy1 hy3 k k1 k2
 ·obtain ⟨y, hy⟩ := hget _ _ _ hf'
  exact ⟨.inl (h.sb _ _ _ hy).1, (h.sb _ _ _ hy).2⟩
 ·obtain ⟨y, hy⟩ := hget _ _ _ hf'
  by_cases e : b' = b ∧ n' = n
  ·obtain ⟨rfl, rfl⟩ := e
   rw [upd2_same] at hk2
   exact (ho k hk2).imp (fun h1 => h.sv _ _ _ hf k h1) id
  ·rw [upd2_ne _ _ e] at hk2
   exact .inl (h.sv _ _ _ hy k hk2)
theorem kid_far {F' : Nat → Nat → Option (List Int)} {B' : Nat → Nat → Nat} {b n : Nat} (h1 : F' b n = F b n) (h2 : B' b n = B b n) : kid F' B' b n = kid F B b n := by unfold kid; rw [h1, h2]
theorem ncs_kid {F' : Nat → Nat → Option (List Int)} {B' : Nat → Nat → Nat} {V' : Nat → Nat → Value} {b n i : Nat} {p : Value} (hi : i < 2) (hp : kid F' B' (b + 1) (2 * n + i) = p) (ho : ∀ m, m ≠ 2 * n + i → kid F' B' (b + 1) m = kid F B (b + 1) m) (hV : V' b n = V b n) :
  (ncs F B V c b n).setIfInBounds (1 + i) p = ncs F' B' V' c b n := by
 unfold ncs
 match i, hi with
 | 0, _ =>
  rw [hV, ho (2 * n + 1) (by omega), ← hp]
  split <;> rfl
 | 1, _ =>
  rw [hV, ho (2 * n) (by omega), ← hp]
  split <;> rfl
/-- A new node is hung under a node. -/
theorem Tr.hang (h : Tr w wr S tb F B V c) {b n i g : Nat} {vs : List Int} (hi : i < 2) (hf : F b n = some vs) (hn : F (b + 1) (2 * n + i) = none) (hb : Below wr.heap.size wr w1) (hg : wr.heap.size ≤ g) (hbox : w1.heap[g]? = some (.cells #[.slice none 0 0, .pointer none, .pointer none] 28 (0, 0))) :
  Tr w (w1.setCell ⟨B b n, 1 + i, none⟩ (.pointer (some ⟨g, 0, none⟩))) (fun k => S k ∨ wr.heap.size ≤ k) tb (upd2 F (b + 1) (2 * n + i) (some [])) (upd2 B (b + 1) (2 * n + i) g) (upd2 V (b + 1) (2 * n + i) (.slice none 0 0)) c := by
 have h1 := h.below hb
 obtain ⟨m1, m2, m3, m4⟩ := h1.setAt hf (1 + i) (.pointer (some ⟨g, 0, none⟩))
 have none2 : ∀ j, j < 2 → F (b + 2) (2 * (2 * n + i) + j) = none := fun j hj => by
  cases hx : F (b + 2) (2 * (2 * n + i) + j) with
  | none => rfl
  | some y =>
   have := h.up (b + 1) _ (by rw [hx]; exact fun e => by cases e)
   rw [show (2 * (2 * n + i) + j) / 2 = 2 * n + i by omega] at this
   exact (this hn).elim
 have hold : ∀ b' n' vs', upd2 F (b + 1) (2 * n + i) (some []) b' n' = some vs' → ¬ (b' = b + 1 ∧ n' = 2 * n + i) → F b' n' = some vs' := fun b' n' vs' h' e => by rwa [upd2_ne _ _ e] at h'
 have hne : ∀ b' n' vs', F b' n' = some vs' → ¬ (b' = b + 1 ∧ n' = 2 * n + i) := fun b' n' vs' h' e => by
  rw [e.1, e.2, hn] at h'
  cases h'
 have far : ∀ b' n' vs', F b' n' = some vs' → B b' n' ≠ g := fun b' n' vs' h' e => by have := h.lt h'; omega
 refine ⟨?_, fun n' hn' => ?_, ?_, fun b' n' hn' => ?_, fun b' n' vs' hf' => ?_, fun b' n' vs' hf' => ?_, fun a1 a2 a3 a4 v1 v3 h1' h3 e => ?_, fun a1 a2 a3 a4 v1 v3 h1' h3 k k1 k2 => ?_, fun b' n' vs' hf' => ?_, fun b' n' vs' hf' k hk2 => ?_, m4⟩
 ·obtain ⟨v0, hr0⟩ := h.root
  exact ⟨v0, by rw [upd2_ne _ _ (by omega)]; exact hr0⟩
 ·rw [upd2_ne _ _ (by omega)] at hn'
  exact h.only n' hn'
 ·rw [upd2_ne _ _ (by omega)]
  exact h.b0
 ·by_cases e : b' + 1 = b + 1 ∧ n' = 2 * n + i
  ·rw [upd2_ne _ _ (by omega), show b' = b by omega, show n' / 2 = n by omega, hf]
   exact fun e => by cases e
  ·rw [upd2_ne _ _ e] at hn'
   have := h.up b' n' hn'
   unfold upd2
   split
   ·exact fun e => by cases e
   ·exact this
 ·by_cases e : b' = b + 1 ∧ n' = 2 * n + i
  ·obtain ⟨rfl, rfl⟩ := e
   rw [upd2_same B]
   have hk0 : kid (upd2 F (b + 1) (2 * n + i) (some [])) (upd2 B (b + 1) (2 * n + i) g) (b + 1 + 1) (2 * (2 * n + i)) = .pointer none := by
    unfold kid
    rw [upd2_ne _ _ (by omega), show F (b + 1 + 1) (2 * (2 * n + i)) = none from none2 0 (by decide)]
   have hk1 : kid (upd2 F (b + 1) (2 * n + i) (some [])) (upd2 B (b + 1) (2 * n + i) g) (b + 1 + 1) (2 * (2 * n + i) + 1) = .pointer none := by
    unfold kid
    rw [upd2_ne _ _ (by omega), show F (b + 1 + 1) (2 * (2 * n + i) + 1) = none from none2 1 (by decide)]
   have hc : ncs (upd2 F (b + 1) (2 * n + i) (some [])) (upd2 B (b + 1) (2 * n + i) g) (upd2 V (b + 1) (2 * n + i) (.slice none 0 0)) c (b + 1) (2 * n + i) = #[.slice none 0 0, .pointer none, .pointer none] := by
    unfold ncs
    rw [if_neg (by omega), hk0, hk1, upd2_same]
   rw [hc, show nty (b + 1) = 28 from rfl]
   exact blk_far (p := ⟨B b n, 1 + i, none⟩) hbox (fun e => far _ _ _ hf e.symm) _
  ·have hf0 := hold b' n' vs' hf' e
   rw [upd2_ne B _ e]
   by_cases e2 : b' = b ∧ n' = n
   ·obtain ⟨rfl, rfl⟩ := e2
    rw [m2]
    congr 2
    refine ncs_kid hi ?_ (fun m hm => kid_far (upd2_ne _ _ (by omega)) (upd2_ne _ _ (by omega))) (upd2_ne _ _ (by omega))
    unfold kid
    rw [upd2_same, upd2_same]
   ·rw [m1 b' n' vs' hf0 e2]
    congr 2
    unfold ncs
    rw [upd2_ne V _ e, kid_far (F := F) (B := B) (upd2_ne _ _ (by omega)) (upd2_ne _ _ (by omega)), kid_far (F := F) (B := B) (upd2_ne _ _ (by omega)) (upd2_ne _ _ (by omega))]
 ·by_cases e : b' = b + 1 ∧ n' = 2 * n + i
  ·obtain ⟨rfl, rfl⟩ := e
   rw [upd2_same] at hf' ⊢
   cases hf'
   exact Kd.R_nil _ _ _ _ _
  ·rw [upd2_ne V _ e]
   exact m3 b' n' vs' (hold b' n' vs' hf' e)
 ·by_cases e1 : a1 = b + 1 ∧ a2 = 2 * n + i
  ·by_cases e3 : a3 = b + 1 ∧ a4 = 2 * n + i
   ·exact ⟨by rw [e1.1, e3.1], by rw [e1.2, e3.2]⟩
   ·rw [upd2_ne B _ e3, e1.1, e1.2, upd2_same] at e
    exact (far _ _ _ (hold _ _ _ h3 e3) e.symm).elim
  ·by_cases e3 : a3 = b + 1 ∧ a4 = 2 * n + i
   ·rw [upd2_ne B _ e1, e3.1, e3.2, upd2_same] at e
    exact (far _ _ _ (hold _ _ _ h1' e1) e).elim
   ·rw [upd2_ne B _ e1, upd2_ne B _ e3] at e
    exact h.inj _ _ _ _ _ _ (hold _ _ _ h1' e1) (hold _ _ _ h3 e3) e
 ·have no : ∀ a1 a2, (a1 = b + 1 ∧ a2 = 2 * n + i) → some k ≠ (upd2 V (b + 1) (2 * n + i) (.slice none 0 0) a1 a2).ownBlock := fun a1 a2 e => by
   rw [e.1, e.2, upd2_same]
   simp [Value.ownBlock]
  have e1 : ¬ (a1 = b + 1 ∧ a2 = 2 * n + i) := fun e => no _ _ e k1
  have e3 : ¬ (a3 = b + 1 ∧ a4 = 2 * n + i) := fun e => no _ _ e k2
  rw [upd2_ne V _ e1] at k1
  rw [upd2_ne V _ e3] at k2
  exact h.apart _ _ _ _ _ _ (hold _ _ _ h1' e1) (hold _ _ _ h3 e3) k k1 k2
 ·by_cases e : b' = b + 1 ∧ n' = 2 * n + i
  ·rw [e.1, e.2, upd2_same]
   exact ⟨.inr hg, Nat.le_trans h.bl.size hg⟩
  ·rw [upd2_ne B _ e]
   have := h.sb b' n' vs' (hold _ _ _ hf' e)
   exact ⟨.inl this.1, this.2⟩
 ·by_cases e : b' = b + 1 ∧ n' = 2 * n + i
  ·rw [e.1, e.2, upd2_same] at hk2
   simp [Value.ownBlock] at hk2
  ·rw [upd2_ne V _ e] at hk2
   exact .inl (h.sv b' n' vs' (hold _ _ _ hf' e) k hk2)
/-- A node without nodes under it is cut off. -/
theorem Tr.cut (h : Tr w wr S tb F B V c) {b n i : Nat} {vs : List Int} (hi : i < 2) (hf : F b n = some vs) (h0 : F (b + 2) (2 * (2 * n + i)) = none) (h1 : F (b + 2) (2 * (2 * n + i) + 1) = none) :
  Tr w (wr.setCell ⟨B b n, 1 + i, none⟩ (.pointer none)) S tb (upd2 F (b + 1) (2 * n + i) none) B V c := by
 obtain ⟨m1, m2, m3, m4⟩ := h.setAt hf (1 + i) (.pointer none)
 have hold : ∀ b' n' vs', upd2 F (b + 1) (2 * n + i) none b' n' = some vs' → ¬ (b' = b + 1 ∧ n' = 2 * n + i) ∧ F b' n' = some vs' := fun b' n' vs' h' => by
  by_cases e : b' = b + 1 ∧ n' = 2 * n + i
  ·rw [e.1, e.2, upd2_same] at h'
   cases h'
  ·exact ⟨e, by rwa [upd2_ne _ _ e] at h'⟩
 refine ⟨?_, fun n' hn' => ?_, h.b0, fun b' n' hn' => ?_, fun b' n' vs' hf' => ?_, fun b' n' vs' hf' => m3 b' n' vs' (hold b' n' vs' hf').2, fun a1 a2 a3 a4 v1 v3 h1' h3 e => h.inj _ _ _ _ _ _ (hold _ _ _ h1').2 (hold _ _ _ h3).2 e, fun a1 a2 a3 a4 v1 v3 h1' h3 k k1 k2 => h.apart _ _ _ _ _ _ (hold _ _ _ h1').2 (hold _ _ _ h3).2 k k1 k2, fun b' n' vs' hf' => h.sb b' n' vs' (hold _ _ _ hf').2, fun b' n' vs' hf' k hk2 => h.sv b' n' vs' (hold _ _ _ hf').2 k hk2, m4⟩
 ·obtain ⟨v0, hr0⟩ := h.root
  exact ⟨v0, by rw [upd2_ne _ _ (by omega)]; exact hr0⟩
 ·rw [upd2_ne _ _ (by omega)] at hn'
  exact h.only n' hn'
 ·cases hx : upd2 F (b + 1) (2 * n + i) none (b' + 1) n' with
  | none => exact (hn' hx).elim
  | some x =>
   obtain ⟨e, hx'⟩ := hold _ _ _ hx
   have hup := h.up b' n' (by rw [hx']; exact fun e => by cases e)
   rw [upd2_ne]
   ·exact hup
   ·rintro ⟨e1, e2⟩
    subst e1
    rcases (show n' = 2 * (2 * n + i) ∨ n' = 2 * (2 * n + i) + 1 by omega) with e3 | e3
    ·rw [e3, show b + 1 + 1 = b + 2 from rfl, h0] at hx'; cases hx'
    ·rw [e3, show b + 1 + 1 = b + 2 from rfl, h1] at hx'; cases hx'
 ·obtain ⟨e, hf0⟩ := hold b' n' vs' hf'
  by_cases e2 : b' = b ∧ n' = n
  ·obtain ⟨rfl, rfl⟩ := e2
   rw [m2]
   congr 2
   refine ncs_kid hi ?_ (fun m hm => kid_far (upd2_ne _ _ (by omega)) rfl) rfl
   unfold kid
   rw [upd2_same]
  ·rw [m1 b' n' vs' hf0 e2]
   congr 2
   unfold ncs
   rw [kid_far (F := F) (B := B) (upd2_ne _ _ (by omega)) rfl, kid_far (F := F) (B := B) (upd2_ne _ _ (by omega)) rfl]
end


open Go.Proofs.Ytbmibakhpealjaa.TrieP Go.Proofs.Ytbmibakhpealjaa.Facts Go.Proofs.Ytbmibakhpealjaa.Bits
/-! ### Plain facts of bits, prefixes, and of the search -/
theorem and_1 (y : Nat) (h : y < 4294967296) : wrap64 (Go.bits .and .u32 (y : Int) 1) = ((y % 2 : Nat) : Int) := by
 have := bits_mask .u32 32 (by decide) wraps_u32 1 (by decide) (y : Int) (by omega) (by have e3 : (2 : Int) ^ 32 = 4294967296 := rfl; omega)
 rw [show (1 : Int) = 2 ^ 1 - 1 from rfl, this, wrap64_id _ (by omega) (by omega)]
 simp
theorem shr_nat (x s : Nat) (hs : s ≤ 32) : shr .u32 (x : Int) (s : Int) = ((x / 2 ^ s : Nat) : Int) := by
 unfold shr
 have e : (32 : Nat) = IntKind.bits .u32 := rfl
 rw [← e, Int.toNat_natCast, Nat.min_eq_left (by omega)]
 simp
theorem bit_f {a i : Nat} (ha : a < 4294967296) (hi : i < 32) : trie_bit.f (a : Int) (i : Int) = some ((nk a (i + 1) % 2 : Nat) : Int) := by
 unfold trie_bit.f
 have e : wrap64 (31 - (i : Int)) = ((31 - i : Nat) : Int) := by rw [wrap64_id _ (by omega) (by omega)]; omega
 have hle : a / 2 ^ (31 - i) ≤ a := Nat.div_le_self _ _
 rw [e, if_pos (by omega), shr_nat _ _ (by omega), and_1 _ (by omega)]
 unfold nk
 rw [show 32 - (i + 1) = 31 - i by omega]
theorem of_f {a b : Nat} (ha : a < 4294967296) (hb : b ≤ 32) : cidr_Of.f (a : Int) (b : Int) = some (((nk a b * 2 ^ (32 - b) : Nat) : Int), (b : Int)) := by
 unfold cidr_Of.f
 have e : mx 0 (mn (b : Int) 32) = b := by unfold mx mn; split <;> split <;> omega
 rw [e, mask_eq (by omega) (by omega), Option.bind_some]
 unfold Facts.sz
 rw [show (32 - (b : Int)).toNat = 32 - b by omega, and_hi _ _ (by omega) (by omega) (by omega)]
 unfold nk
 simp
theorem right_rt {a : Nat} {b : Int} (h : rightB a b = true) : ∃ n : Nat, b = n ∧ n ≤ 32 ∧ a % 2 ^ (32 - n) = 0 := by
 obtain ⟨h0, h1, h2⟩ := rightB_iff.1 h
 refine ⟨b.toNat, by omega, by omega, ?_⟩
 unfold Facts.sz at h2
 rw [show (32 - b).toNat = 32 - b.toNat by omega] at h2
 exact_mod_cast h2
theorem rt_right {a b : Nat} (hb : b ≤ 32) (h : a % 2 ^ (32 - b) = 0) : rightB a b = true := by
 refine rightB_iff.2 ⟨by omega, by omega, ?_⟩
 unfold Facts.sz
 rw [show (32 - (b : Int)).toNat = 32 - b by omega]
 exact_mod_cast h
theorem less_f (a b : Int) : cmp_Less_int.f a b = some (decide (a < b)) := by
 unfold cmp_Less_int.f cmp_isNaN_int.f
 simp
theorem rd_at {xs : List Int} {j : Nat} (hj : j < xs.length) : rd xs (j : Int) = xs[j] := by simp [rd, List.getD, hj]
theorem search_l {xs : List Int} (hl : xs.length ≤ 1000) (hs : ∀ i j (hi : i < xs.length) (hj : j < xs.length), i ≤ j → xs[i] ≤ xs[j]) (v : Int) : ∀ (d lo hi : Nat), hi - lo ≤ d → lo ≤ hi → hi ≤ xs.length →
  (∀ j (hj : j < xs.length), j < lo → xs[j] < v) → (∀ j (hj : j < xs.length), hi ≤ j → ¬ xs[j] < v) →
  ∃ i : Nat, i ≤ xs.length ∧ (∀ j (hj : j < xs.length), j < i → xs[j] < v) ∧ (∀ j (hj : j < xs.length), i ≤ j → ¬ xs[j] < v) ∧ Ev (fun k => slices_BinarySearch_int_int.l0 k xs v (xs.length : Int) (lo : Int) (hi : Int)) ((i : Int), if h : i < xs.length then decide (xs[i] = v) else false) := by
 intro d
 induction d with
 | zero =>
  intro lo hi hd hle hn h1 h2
  obtain rfl : lo = hi := by omega
  refine ⟨lo, hn, h1, h2, ?_⟩
  by_cases hlt : lo < xs.length
  ·rw [dif_pos hlt]
   by_cases e : xs[lo] = v
   ·rw [decide_eq_true e]
    exact Ev.step (fun k => by rw [slices_BinarySearch_int_int.l0, if_neg (by omega), if_pos (by omega), if_pos (by omega), if_pos (by omega), rd_at hlt, if_pos e]) (Ev.now _)
   ·rw [decide_eq_false e]
    exact Ev.step (fun k => by rw [slices_BinarySearch_int_int.l0, if_neg (by omega), if_pos (by omega), if_pos (by omega), if_pos (by omega), rd_at hlt, if_neg e]; simp [slices_isNaN_int.f]) (Ev.now _)
  ·rw [dif_neg hlt]
   exact Ev.step (fun k => by rw [slices_BinarySearch_int_int.l0, if_neg (by omega), if_neg (by omega)]) (Ev.now _)
 | succ d ih =>
  intro lo hi hd hle hn h1 h2
  by_cases hlt : lo < hi
  ·have e0 : IntKind.u64.wrap (wrap64 ((lo : Int) + (hi : Int))) = (lo : Int) + hi := by
    rw [wrap64_id _ (by omega) (by omega), wrap_u64]
    omega
   have e1 : wrap64 (((lo : Int) + hi) / 2) = (((lo + hi) / 2 : Nat) : Int) := by rw [wrap64_id _ (by omega) (by omega)]; omega
   have hm : (lo + hi) / 2 < xs.length := by omega
   have e2 : wrap64 ((((lo + hi) / 2 : Nat) : Int) + 1) = (((lo + hi) / 2 + 1 : Nat) : Int) := by rw [wrap64_id _ (by omega) (by omega)]; omega
   by_cases hx : xs[(lo + hi) / 2] < v
   ·obtain ⟨i, a1, a2, a3, a4⟩ := ih ((lo + hi) / 2 + 1) hi (by omega) (by omega) hn (fun j hj hlt2 => by have := hs j _ hj hm (by omega); omega) h2
    refine ⟨i, a1, a2, a3, Ev.step (fun k => ?_) a4⟩
    rw [slices_BinarySearch_int_int.l0, if_pos (by omega), e0, e1, if_pos (by omega), if_pos (by omega), rd_at hm, less_f, Option.bind_some, if_pos (by simpa using hx), e2]
   ·obtain ⟨i, a1, a2, a3, a4⟩ := ih lo ((lo + hi) / 2) (by omega) (by omega) (by omega) h1 (fun j hj hle2 => by have := hs _ j hm hj hle2; omega)
    refine ⟨i, a1, a2, a3, Ev.step (fun k => ?_) a4⟩
    rw [slices_BinarySearch_int_int.l0, if_pos (by omega), e0, e1, if_pos (by omega), if_pos (by omega), rd_at hm, less_f, Option.bind_some, if_neg (by simpa using hx)]
  ·exact ih lo hi (by omega) hle hn h1 h2
theorem search_ev {xs : List Int} (hl : xs.length ≤ 1000) (hs : xs.Pairwise (· < ·)) (v : Int) :
  ∃ i : Nat, i ≤ xs.length ∧ insI v xs = xs.take i ++ v :: xs.drop i ∧ (v ∈ xs → ∃ h : i < xs.length, xs[i] = v) ∧ Ev (fun k => slices_BinarySearch_int_int.f k xs v) ((i : Int), decide (v ∈ xs)) := by
 have hs' : ∀ i j (hi : i < xs.length) (hj : j < xs.length), i ≤ j → xs[i] ≤ xs[j] := fun i j hi hj hij => by
  rcases Nat.lt_or_eq_of_le hij with h | h
  ·exact Int.le_of_lt (List.pairwise_iff_getElem.1 hs i j hi hj h)
  ·subst h; exact Int.le_refl _
 obtain ⟨i, a1, a2, a3, a4⟩ := search_l hl hs' v xs.length 0 xs.length (by omega) (by omega) (Nat.le_refl _) (fun j hj h => by omega) (fun j hj h => by omega)
 have hmem : v ∈ xs → ∃ h : i < xs.length, xs[i] = v := fun hm => by
  obtain ⟨j, hj, e⟩ := List.getElem_of_mem hm
  have h1 : i ≤ j := by
   apply Classical.byContradiction
   intro hc
   have := a2 j hj (by omega)
   omega
  have hi : i < xs.length := by omega
  refine ⟨hi, ?_⟩
  have h2 := a3 i hi (Nat.le_refl _)
  have h3 := hs' i j hi hj h1
  omega
 refine ⟨i, a1, insI_take a1 (fun x hx => ?_) (fun x hx => ?_), hmem, ?_⟩
 ·obtain ⟨j, hj, e⟩ := List.getElem_of_mem hx
  rw [List.getElem_take] at e
  have hj' : j < i ∧ j < xs.length := by rw [List.length_take] at hj; omega
  rw [← e]
  exact a2 j hj'.2 hj'.1
 ·obtain ⟨j, hj, e⟩ := List.getElem_of_mem hx
  rw [List.getElem_drop] at e
  rw [← e]
  exact a3 (i + j) (by rw [List.length_drop] at hj; omega) (by omega)
 ·have e : decide (v ∈ xs) = if h : i < xs.length then decide (xs[i] = v) else false := by
   by_cases hm : v ∈ xs
   ·obtain ⟨h, e⟩ := hmem hm
    rw [dif_pos h, decide_eq_true hm, decide_eq_true e]
   ·rw [decide_eq_false hm]
    split
    ·rename_i h
     rw [decide_eq_false]
     intro e
     exact hm (by rw [← e]; exact List.getElem_mem h)
    ·rfl
  rw [e]
  exact a4


open Go.Proofs.Ytbmibakhpealjaa.TrieP Go.Proofs.Ytbmibakhpealjaa.Facts Go.Proofs.Ytbmibakhpealjaa.Bits
/-- A pointer to a node. -/
def kP : Kd Nat := Kd.scalar (fun g => .pointer (some ⟨g, 0, none⟩)) (fun _ => rfl)
theorem infoP : (Try.prog.info? 25).map (fun i => (i.zero, i.size, i.bytes)) = some (some (.pointer none), 1, 8) := by kernel_rfl
theorem ncs_size (F : Nat → Nat → Option (List Int)) (B : Nat → Nat → Nat) (V : Nat → Nat → Value) (c : Int) (b n : Nat) : 3 ≤ (ncs F B V c b n).size := by unfold ncs; split <;> simp
theorem size25 : (Try.prog.info? 25).map (·.size) = some 1 := by kernel_rfl
theorem wS {i : Nat} (h : i ≤ 1000000) : wrap64 ((i : Int) + 1) = ((i + 1 : Nat) : Int) := by rw [wrap64_id _ (by omega) (by omega)]; simp
section
variable {w wr w1 : World} {S T : Nat → Prop} {tb : Nat} {F : Nat → Nat → Option (List Int)} {B : Nat → Nat → Nat} {V : Nat → Nat → Value} {c : Int}
/-- Blocks of other types are written. -/
theorem Tr.over (h : Tr w wr S tb F B V c) {row : Option Nat} (hg : wr.grownBy w1 row) (hb : Below w.heap.size w w1) {e : Nat} (hty : ∀ k, row = some k → k < wr.heap.size → ∃ cells, wr.heap[k]? = some (.cells cells e (0, 0))) (h1 : e ≠ 3) (h2 : e ≠ 28) (h3 : e ≠ 30) : Tr w w1 S tb F B V c := by
 refine { h with nod := fun b n vs hf => ?_, row := fun b n vs hf => ?_, bl := hb }
 ·refine blk_grown (h.nod b n vs hf) hg (fun hk => ?_)
  obtain ⟨cells, hc⟩ := hty _ hk.symm (h.lt hf)
  rw [h.nod b n vs hf] at hc
  injection hc with hc
  injection hc with _ hc
  unfold nty at hc
  split at hc
  ·exact h3 hc.symm
  ·exact h2 hc.symm
 ·refine Kd.R_grown (h.row b n vs hf) hg (fun k hk hk2 => ?_)
  obtain ⟨cells, hc⟩ := hty k hk2.symm (h.vlt hf k hk)
  obtain ⟨cells', hc'⟩ := Kd.R_typed (h.row b n vs hf) k hk.symm
  rw [hc'] at hc
  injection hc with hc
  injection hc with _ hc
  exact h1 hc.symm
theorem Tr.overR {α : Type} {d : Kd α} {e base : Nat} {ok : Nat → Prop} {v : Value} {xs : List α} (h : Tr w wr S tb F B V c) (hr : d.R e wr base ok v xs) (hg : wr.grownBy w1 v.ownBlock) (hb : Below w.heap.size w w1) (h1 : e ≠ 3) (h2 : e ≠ 28) (h3 : e ≠ 30) : Tr w w1 S tb F B V c :=
 h.over hg hb (fun k hk _ => Kd.R_typed hr k hk) h1 h2 h3
end
/-- The pointers of the nodes on the way to an address, as far as depth m. -/
def wayL (B : Nat → Nat → Nat) (a m : Nat) : List Nat := (List.range (m + 1)).map (fun j => B j (nk a j))
theorem wayL_zero (B : Nat → Nat → Nat) {a : Nat} (ha : a < 4294967296) : wayL B a 0 = [B 0 0] := by simp [wayL, nk_zero (show a < 2 ^ 32 from ha)]
theorem wayL_succ (B : Nat → Nat → Nat) (a m : Nat) : wayL B a (m + 1) = wayL B a m ++ [B (m + 1) (nk a (m + 1))] := by
 unfold wayL
 rw [List.range_succ, List.map_append]
 rfl
theorem wayL_len (B : Nat → Nat → Nat) (a m : Nat) : (wayL B a m).length = m + 1 := by simp [wayL]
theorem wayL_get (B : Nat → Nat → Nat) (a : Nat) {m j : Nat} (hj : j ≤ m) : (wayL B a m)[j]'(by rw [wayL_len]; omega) = B j (nk a j) := by simp [wayL]
theorem wayL_congr {B B' : Nat → Nat → Nat} {a m : Nat} (h : ∀ j, j ≤ m → B j (nk a j) = B' j (nk a j)) : wayL B a m = wayL B' a m := by
 unfold wayL
 refine List.map_congr_left (fun j hj => h j ?_)
 have := List.mem_range.1 hj
 omega
theorem bit_cases (a i : Nat) (hi : i < 32) : (nk a (i + 1) = 2 * nk a i + 0 ∧ nk a (i + 1) % 2 = 0) ∨ (nk a (i + 1) = 2 * nk a i + 1 ∧ nk a (i + 1) % 2 = 1) := by
 have := nk_half (a := a) hi
 omega
def way_.T6 : Bool × List (List Nat × List Nat) := (true, [([], []), ([], []), ([1], [1]), ([], []), ([2, 3], [2, 3]), ([0], [0]), ([5], [5]), ([6, 4], [4, 6]), ([7, 4, 0, 1, 2, 3, 4, 5, 6, 7], [7])])
def way_.B6 : List Nat := [0, 0, 2, 0, 14, 1, 33, 127, 255]
theorem way_.tab6 : rtab .any (opsOf Try.f22 6) = way_.T6 := by kernel_rfl
theorem way_.bits6 : waitsOk way_.T6.2 way_.B6 = true := by kernel_rfl
set_option maxHeartbeats 16000000 in
set_option maxRecDepth 100000 in
theorem wayN_.calls (a Bt : Nat) (ha : a < 4294967296) (hb : Bt ≤ 32) (w wo : World) (S : Nat → Prop) (tb : Nat) (F : Nat → Nat → Option (List Int)) (B : Nat → Nat → Nat) (V : Nat → Nat → Value) (c : Int) (h : Tr w wo S tb F B V c) :
  Calls Try.prog 22 #[.pointer (some ⟨tb, 0, none⟩), .agg #[.int .u32 (a : Int), .int .i64 (Bt : Int)], .bool false] wo fun e w' => ∃ (v : Value) (m : Nat), e = .returned v ∧ m ≤ Bt ∧ (∀ j, j ≤ m → F j (nk a j) ≠ none) ∧ (m < Bt → F (m + 1) (nk a (m + 1)) = none) ∧ kP.R 25 w' wo.heap.size (fun k => wo.heap.size ≤ k) v (wayL B a m) ∧ Below wo.heap.size wo w' := by
 have B0 := Aside0.mk (Below.refl wo.heap.size wo)
 have HT0 := Aside0.mk h
 have A1 := Aside0.mk ha
 have A2 := Aside0.mk hb
 obtain ⟨vs0, hf0⟩ := h.root
 clear h hf0 vs0 ha hb
 go_enter Try.func22, Try.ntmps22
 go_wp2_with (first
  | ((with_reducible refine gate_dst (N := 4) rfl ?_); refine box_event ?hg (N := 4) ?hd (cs := #[.int .u32 (a : Int), .int .i64 (Bt : Int)]) (t := 33) ?hr ?_; (case hd => rfl); (case hg => rfl); (case hr => first | (go_simp; done) | (go_simp; rfl)); intro gp hgx wx hbox hb; have PB := Aside0.mk hbox; have B1 := Aside0.mk hb; have z1 : wx.cell? ⟨gp, 1, none⟩ = some (.int .i64 (Bt : Int)) := (blk_cell hbox 1).trans rfl; clear hgx hbox hb)
  | ((with_reducible refine gate_dst (N := 15) rfl ?_); refine Kd.R_lit kP (w0 := wo) wo.heap.size 25 ?hg (N := 15) ?hd (xs := [tb]) (inner := [.pointer (some ⟨tb, 0, none⟩)]) (ok := fun k => wo.heap.size ≤ k) (okp := fun _ => False) ?hr ?hp (fun _ hk => hk.elim) ?hf ?hB ?hs (by simp) ?_; (case hd => rfl); (case hg => rfl); (case hr => first | (go_simp; done) | (go_simp; rfl)); (case hp => exact Reps.snoc (ps := []) (cs := []) (p := tb) (c := [.pointer (some ⟨tb, 0, none⟩)]) (Reps.none _ 1) rfl rfl); (case hf => exact below_size B1.out); (case hB => exact B1.out); (case hs => exact below_size B1.out); intro v9 w9 ho hb9 hg9 hx9; have HO := Aside0.mk ho; have B2 := Aside0.mk hb9; have G9 := Aside0.mk hg9; have PB2 := Aside0.mk (blk_grown PB.out hg9 (by simp)); clear z1; have z1 : w9.cell? ⟨gp, 1, none⟩ = some (.int .i64 (Bt : Int)) := (blk_cell PB2.out 1).trans rfl; clear ho hb9 hg9 hx9))
 clear z1 PB B1 G9
 have TD0 := Aside0.mk (HT0.out.below B2.out)
 have FS := Aside0.mk (show ∀ j, j ≤ 0 → F j (nk a j) ≠ none from fun j hj => by
  obtain rfl : j = 0 := by omega
  obtain ⟨vs, hf⟩ := HT0.out.root
  rw [nk_zero (show a < 2 ^ 32 from A1.out), hf]
  exact fun e => by cases e)
 have HO' := Aside0.mk (show kP.R 25 w9 wo.heap.size (fun k => wo.heap.size ≤ k) v9 (wayL B a 0) by rw [wayL_zero B A1.out, HT0.out.b0]; exact HO.out)
 clear HO
 go_loopg [7, 8, 18] Bt (fun kq v7 v8 v18 wl => ∃ i : Nat, i + kq = Bt ∧ v18 = .int .i64 i ∧ v7 = .pointer (some ⟨B i (nk a i), 0, none⟩) ∧ Aside0 (∀ j, j ≤ i → F j (nk a j) ≠ none) ∧ Aside0 (Tr w wl S tb F B V c) ∧ Aside0 (kP.R 25 wl wo.heap.size (fun k => wo.heap.size ≤ k) v8 (wayL B a i)) ∧ Aside0 (Below wo.heap.size wo wl) ∧ Aside0 (wl.heap[gp]? = some (.cells #[.int .u32 (a : Int), .int .i64 (Bt : Int)] 33 (0, 0))))
 case atStart => exact ⟨0, by omega, rfl, by rw [nk_zero (show a < 2 ^ 32 from A1.out), HT0.out.b0], FS, TD0, HO', B2, PB2⟩
 case round =>
  clear TD0 HO' B2 PB2 FS
  obtain ⟨i, hi, rfl, rfl, FS, TL, OL, BL, PL⟩ := hrel
  have HI := Aside0.mk hi
  by_cases hlt : i < Bt
  ·have hcn : decide (i < Bt) = true := decide_eq_true hlt
   have HLT := Aside0.mk hlt
   have hb32 := A2.out
   have hbc := bit_cases a i (by omega)
   obtain ⟨vsi, hfi⟩ : ∃ vs, F i (nk a i) = some vs := by
    cases hx : F i (nk a i) with
    | none => exact (FS.out i (Nat.le_refl _) hx).elim
    | some x => exact ⟨x, rfl⟩
   have FI := Aside0.mk hfi
   have hbit := bit_f A1.out (show i < 32 by omega)
   clear hi hlt hb32 hfi
   rcases hbc with ⟨hnk, hm⟩ | ⟨hnk, hm⟩
   ·rw [hm] at hbit
    have HNK := Aside0.mk hnk
    have HBIT := Aside0.mk hbit
    clear hnk hm hbit
    have PD := Aside0.mk (blk_drew PL.out)
    have TD := Aside0.mk (TL.out.below (below_drew1 (Below.refl _ _)))
    have OD := Aside0.mk (Kd.R_below OL.out (below_drew1 (Below.refl _ _)))
    have BD := Aside0.mk (below_drew1 BL.out)
    clear PL TL OL BL
    go_wp2
    refine start_ (n := 9) (S := fun w' => w'.cell? ⟨gp, 0, none⟩ = some (.int .u32 (a : Int))) (ds := []) #[false, false, false, false, false, false, false, false, false] (by kernel_rfl) rfl rfl ((blk_cell PD.out 0).trans rfl) (fun hHeld => ?_)
    refine with_tabW way_.tab6 way_.bits6 (fun HT_ HW_ => ?_)
    generalize wr.drew = wd at PD TD OD BD hHeld ⊢
    refine pure_ (i := 0) (N := some 21) (v := ?_) (a' := ?_) #[true, false, false, false, false, false, false, false, false] rfl rfl (any_of HT_.out (by kernel_rfl)) (fun _ _ _ h => h) (Or.inl ⟨by rfl, ?_⟩) ?_ ?_
    rotate_left
    ·intro w'
     go_simp
     with_reducible rfl
    rotate_left
    ·simp only [Act.put, List.setIfInBounds_toArray, List.set_cons_zero, List.set_cons_succ, i64_w, i32_w]
     rfl
    refine pure_ (i := 1) (N := some 22) (v := ?_) (a' := ?_) #[true, true, false, false, false, false, false, false, false] rfl rfl (any_of HT_.out (by kernel_rfl)) (fun _ _ _ h => h) (Or.inl ⟨by rfl, ?_⟩) ?_ ?_
    rotate_left
    ·intro w'
     go_simp
     with_reducible rfl
    rotate_left
    ·simp only [Act.put, List.setIfInBounds_toArray, List.set_cons_zero, List.set_cons_succ, i64_w, i32_w]
     rfl
    refine pure_ (i := 3) (N := some 24) (v := ?_) (a' := ?_) #[true, true, false, true, false, false, false, false, false] rfl rfl (any_of HT_.out (by kernel_rfl)) (fun _ _ _ h => h) (Or.inl ⟨by rfl, ?_⟩) ?_ ?_
    rotate_left
    ·intro w'
     go_simp
     with_reducible rfl
    rotate_left
    ·simp only [Act.put, List.setIfInBounds_toArray, List.set_cons_zero, List.set_cons_succ, i64_w, i32_w]
     rfl
    refine pure_ (i := 5) (N := some 26) (v := ?_) (a' := ?_) #[true, true, false, true, false, true, false, false, false] rfl rfl (any_of HT_.out (by kernel_rfl)) (fun _ _ _ h => h) (Or.inl ⟨by rfl, ?_⟩) ?_ ?_
    rotate_left
    ·intro w'
     go_simp
     with_reducible rfl
    rotate_left
    ·simp only [Act.put, List.setIfInBounds_toArray, List.set_cons_zero, List.set_cons_succ, i64_w, i32_w]
     rfl
    refine pure_ (i := 6) (N := some 27) (v := ?_) (a' := ?_) #[true, true, false, true, false, true, true, false, false] rfl rfl (any_of HT_.out (by kernel_rfl)) (fun _ _ _ h => h) (Or.inl ⟨by rfl, ?_⟩) ?_ ?_
    rotate_left
    ·intro w'
     go_simp
     with_reducible rfl
    rotate_left
    ·simp only [Act.put, List.setIfInBounds_toArray, List.set_cons_zero, List.set_cons_succ, i64_w, i32_w]
     rfl
    refine take_ (i := 2) (N := some 23) (v := ?_) (a' := ?_) #[true, true, true, true, false, true, true, false, false] rfl rfl (take_ofW HT_.out HW_.out (by kernel_rfl)) (fun _ _ _ h => h) (Or.inl ⟨by rfl, ?_⟩) hHeld ?_ ?_
    rotate_left
    ·intro w' s0
     go_simp
     with_reducible rfl
    rotate_left
    ·simp only [Act.put, List.setIfInBounds_toArray, List.set_cons_zero, List.set_cons_succ, i64_w, i32_w]
     rfl
    refine one_ (i := 4) (N := some 25) #[true, true, true, true, true, true, true, false, false] rfl rfl (one_of HT_.out (by kernel_rfl)) (by decide) (fun K hK => ?_)
    refine goes_ Try.func31 (by kernel_rfl) rfl #[.int .u32 (a : Int), .int .i64 (i : Int)] (by rfl) rfl rfl (by (try simp only [List.map_toArray, List.map_cons, List.map_nil]); first | done | rfl) ?_
    with_reducible refine (trie_bit.calls _ _ _ _ HBIT.out).mono ?_
    rintro e wz ⟨rfl, hz⟩
    refine ⟨_, rfl, ?_⟩
    have DZ := Aside0.mk hz.below
    clear hz
    refine hK.out _ _ ((blk_cell (blk_below PD.out DZ.out) 0).trans rfl) (fun hHeld => ?_)
    clear hK K
    refine norm_ (a' := ?_) ?_ ?_
    rotate_left
    ·show Act.put _ (some 25) _ = _
     simp only [Act.put, List.setIfInBounds_toArray, List.set_cons_zero, List.set_cons_succ, i64_w, i32_w]
     rfl
    refine pure_ (i := 7) (N := some 28) (v := ?_) (a' := ?_) #[true, true, true, true, true, true, true, true, false] rfl rfl (any_of HT_.out (by kernel_rfl)) (fun _ _ _ h => h) (Or.inl ⟨by rfl, ?_⟩) ?_ ?_
    rotate_left
    ·intro w'
     go_simp
     with_reducible rfl
    rotate_left
    ·simp only [Act.put, List.setIfInBounds_toArray, List.set_cons_zero, List.set_cons_succ, i64_w, i32_w]
     rfl
    refine pure_ (i := 8) (N := some 10) (v := ?_) (a' := ?_) #[true, true, true, true, true, true, true, true, true] rfl rfl (any_of HT_.out (by kernel_rfl)) (fun _ _ _ h => h) (Or.inl ⟨by rfl, ?_⟩) ?_ ?_
    rotate_left
    ·intro w'
     go_simp
     with_reducible rfl
    rotate_left
    ·simp only [Act.put, List.setIfInBounds_toArray, List.set_cons_zero, List.set_cons_succ, i64_w, i32_w]
     rfl
    refine done_ (done_of HT_.out (by kernel_rfl)) ?_
    have PE := Aside0.mk (blk_below PD.out DZ.out)
    have TE := Aside0.mk (TD.out.below DZ.out)
    have OE := Aside0.mk (Kd.R_below OD.out DZ.out)
    have BE := Aside0.mk (below_step BD.out DZ.out)
    clear PD TD OD BD DZ hHeld HT_ HW_
    have hcell := TE.out.ci FI.out 0 (by decide)
    rw [← HNK.out] at hcell
    cases hF : F (i + 1) (nk a (i + 1)) with
    | none =>
     rw [TE.out.kidN hF] at hcell
     have FN := Aside0.mk hF
     clear hF
     go_wp2
     go_ret
     exact ⟨_, i, rfl, by have := HLT.out; omega, FS.out, fun _ => FN.out, OE.out, BE.out⟩
    | some vs =>
     rw [TE.out.kidS hF] at hcell
     have FN := Aside0.mk hF
     clear hF
     go_wp2_with (first
      | ((with_reducible refine gate_builtin (b := .append) (xs := #[.tmp 43, .tmp 45]) rfl ?_); at_builtin; (refine Kd.R_append kP (w0 := wo) wo.heap.size rfl (.tmp 43) (.tmp 45) 60 25 (.pointer none) 8 rfl Try.underlying60 infoP rfl (Nat.one_pos : (0 : Nat) < 1) (by omega) u8 (wayL B a i) (B (i + 1) (nk a (i + 1))) [.pointer (some ⟨B (i + 1) (nk a (i + 1)), 0, none⟩)] (fun k => wo.heap.size ≤ k) (fun _ => False) rfl rfl ?aP (fun _ hk => hk.elim) ?aF ?aO ?aB ?aS ?aL ?_); (case aP => exact rfl); (case aF => exact (fun k hk => Nat.le_trans (below_size BE.out) hk)); (case aO => exact OE.out); (case aB => exact BE.out); (case aS => exact below_size BE.out); (case aL => rw [wayL_len]; have := A2.out; have := HLT.out; omega); intro v9 w9 ho hb9 hg9 hat9; have HO9 := Aside0.mk ho; have HB9 := Aside0.mk hb9; have HG9 := Aside0.mk hg9; clear ho hb9 hg9 hat9))
     go_roundg (Bt - (i + 1))
     case measure => have := HI.out; have := HLT.out; omega
     case rel => exact ⟨i + 1, by have := HLT.out; omega, by rw [wS (by have := HLT.out; have := A2.out; omega)], rfl, ⟨fun j hj => by
      by_cases e : j = i + 1
      ·rw [e, FN.out]; exact fun e => by cases e
      ·exact FS.out j (by omega)⟩, ⟨TE.out.overR OE.out HG9.out (below_step HT0.out.bl HB9.out) (by decide) (by decide) (by decide)⟩, ⟨by rw [wayL_succ]; exact HO9.out⟩, HB9, ⟨blk_grown PE.out HG9.out (Kd.R_ne OE.out PE.out (by decide))⟩⟩
   ·rw [hm] at hbit
    have HNK := Aside0.mk hnk
    have HBIT := Aside0.mk hbit
    clear hnk hm hbit
    have PD := Aside0.mk (blk_drew PL.out)
    have TD := Aside0.mk (TL.out.below (below_drew1 (Below.refl _ _)))
    have OD := Aside0.mk (Kd.R_below OL.out (below_drew1 (Below.refl _ _)))
    have BD := Aside0.mk (below_drew1 BL.out)
    clear PL TL OL BL
    go_wp2
    refine start_ (n := 9) (S := fun w' => w'.cell? ⟨gp, 0, none⟩ = some (.int .u32 (a : Int))) (ds := []) #[false, false, false, false, false, false, false, false, false] (by kernel_rfl) rfl rfl ((blk_cell PD.out 0).trans rfl) (fun hHeld => ?_)
    refine with_tabW way_.tab6 way_.bits6 (fun HT_ HW_ => ?_)
    generalize wr.drew = wd at PD TD OD BD hHeld ⊢
    refine pure_ (i := 0) (N := some 21) (v := ?_) (a' := ?_) #[true, false, false, false, false, false, false, false, false] rfl rfl (any_of HT_.out (by kernel_rfl)) (fun _ _ _ h => h) (Or.inl ⟨by rfl, ?_⟩) ?_ ?_
    rotate_left
    ·intro w'
     go_simp
     with_reducible rfl
    rotate_left
    ·simp only [Act.put, List.setIfInBounds_toArray, List.set_cons_zero, List.set_cons_succ, i64_w, i32_w]
     rfl
    refine pure_ (i := 1) (N := some 22) (v := ?_) (a' := ?_) #[true, true, false, false, false, false, false, false, false] rfl rfl (any_of HT_.out (by kernel_rfl)) (fun _ _ _ h => h) (Or.inl ⟨by rfl, ?_⟩) ?_ ?_
    rotate_left
    ·intro w'
     go_simp
     with_reducible rfl
    rotate_left
    ·simp only [Act.put, List.setIfInBounds_toArray, List.set_cons_zero, List.set_cons_succ, i64_w, i32_w]
     rfl
    refine pure_ (i := 3) (N := some 24) (v := ?_) (a' := ?_) #[true, true, false, true, false, false, false, false, false] rfl rfl (any_of HT_.out (by kernel_rfl)) (fun _ _ _ h => h) (Or.inl ⟨by rfl, ?_⟩) ?_ ?_
    rotate_left
    ·intro w'
     go_simp
     with_reducible rfl
    rotate_left
    ·simp only [Act.put, List.setIfInBounds_toArray, List.set_cons_zero, List.set_cons_succ, i64_w, i32_w]
     rfl
    refine pure_ (i := 5) (N := some 26) (v := ?_) (a' := ?_) #[true, true, false, true, false, true, false, false, false] rfl rfl (any_of HT_.out (by kernel_rfl)) (fun _ _ _ h => h) (Or.inl ⟨by rfl, ?_⟩) ?_ ?_
    rotate_left
    ·intro w'
     go_simp
     with_reducible rfl
    rotate_left
    ·simp only [Act.put, List.setIfInBounds_toArray, List.set_cons_zero, List.set_cons_succ, i64_w, i32_w]
     rfl
    refine pure_ (i := 6) (N := some 27) (v := ?_) (a' := ?_) #[true, true, false, true, false, true, true, false, false] rfl rfl (any_of HT_.out (by kernel_rfl)) (fun _ _ _ h => h) (Or.inl ⟨by rfl, ?_⟩) ?_ ?_
    rotate_left
    ·intro w'
     go_simp
     with_reducible rfl
    rotate_left
    ·simp only [Act.put, List.setIfInBounds_toArray, List.set_cons_zero, List.set_cons_succ, i64_w, i32_w]
     rfl
    refine take_ (i := 2) (N := some 23) (v := ?_) (a' := ?_) #[true, true, true, true, false, true, true, false, false] rfl rfl (take_ofW HT_.out HW_.out (by kernel_rfl)) (fun _ _ _ h => h) (Or.inl ⟨by rfl, ?_⟩) hHeld ?_ ?_
    rotate_left
    ·intro w' s0
     go_simp
     with_reducible rfl
    rotate_left
    ·simp only [Act.put, List.setIfInBounds_toArray, List.set_cons_zero, List.set_cons_succ, i64_w, i32_w]
     rfl
    refine one_ (i := 4) (N := some 25) #[true, true, true, true, true, true, true, false, false] rfl rfl (one_of HT_.out (by kernel_rfl)) (by decide) (fun K hK => ?_)
    refine goes_ Try.func31 (by kernel_rfl) rfl #[.int .u32 (a : Int), .int .i64 (i : Int)] (by rfl) rfl rfl (by (try simp only [List.map_toArray, List.map_cons, List.map_nil]); first | done | rfl) ?_
    with_reducible refine (trie_bit.calls _ _ _ _ HBIT.out).mono ?_
    rintro e wz ⟨rfl, hz⟩
    refine ⟨_, rfl, ?_⟩
    have DZ := Aside0.mk hz.below
    clear hz
    refine hK.out _ _ ((blk_cell (blk_below PD.out DZ.out) 0).trans rfl) (fun hHeld => ?_)
    clear hK K
    refine norm_ (a' := ?_) ?_ ?_
    rotate_left
    ·show Act.put _ (some 25) _ = _
     simp only [Act.put, List.setIfInBounds_toArray, List.set_cons_zero, List.set_cons_succ, i64_w, i32_w]
     rfl
    refine pure_ (i := 7) (N := some 28) (v := ?_) (a' := ?_) #[true, true, true, true, true, true, true, true, false] rfl rfl (any_of HT_.out (by kernel_rfl)) (fun _ _ _ h => h) (Or.inl ⟨by rfl, ?_⟩) ?_ ?_
    rotate_left
    ·intro w'
     go_simp
     with_reducible rfl
    rotate_left
    ·simp only [Act.put, List.setIfInBounds_toArray, List.set_cons_zero, List.set_cons_succ, i64_w, i32_w]
     rfl
    refine pure_ (i := 8) (N := some 10) (v := ?_) (a' := ?_) #[true, true, true, true, true, true, true, true, true] rfl rfl (any_of HT_.out (by kernel_rfl)) (fun _ _ _ h => h) (Or.inl ⟨by rfl, ?_⟩) ?_ ?_
    rotate_left
    ·intro w'
     go_simp
     with_reducible rfl
    rotate_left
    ·simp only [Act.put, List.setIfInBounds_toArray, List.set_cons_zero, List.set_cons_succ, i64_w, i32_w]
     rfl
    refine done_ (done_of HT_.out (by kernel_rfl)) ?_
    have PE := Aside0.mk (blk_below PD.out DZ.out)
    have TE := Aside0.mk (TD.out.below DZ.out)
    have OE := Aside0.mk (Kd.R_below OD.out DZ.out)
    have BE := Aside0.mk (below_step BD.out DZ.out)
    clear PD TD OD BD DZ hHeld HT_ HW_
    have hcell := TE.out.ci FI.out 1 (by decide)
    rw [← HNK.out] at hcell
    cases hF : F (i + 1) (nk a (i + 1)) with
    | none =>
     rw [TE.out.kidN hF] at hcell
     have FN := Aside0.mk hF
     clear hF
     go_wp2
     go_ret
     exact ⟨_, i, rfl, by have := HLT.out; omega, FS.out, fun _ => FN.out, OE.out, BE.out⟩
    | some vs =>
     rw [TE.out.kidS hF] at hcell
     have FN := Aside0.mk hF
     clear hF
     go_wp2_with (first
      | ((with_reducible refine gate_builtin (b := .append) (xs := #[.tmp 43, .tmp 45]) rfl ?_); at_builtin; (refine Kd.R_append kP (w0 := wo) wo.heap.size rfl (.tmp 43) (.tmp 45) 60 25 (.pointer none) 8 rfl Try.underlying60 infoP rfl (Nat.one_pos : (0 : Nat) < 1) (by omega) u8 (wayL B a i) (B (i + 1) (nk a (i + 1))) [.pointer (some ⟨B (i + 1) (nk a (i + 1)), 0, none⟩)] (fun k => wo.heap.size ≤ k) (fun _ => False) rfl rfl ?aP (fun _ hk => hk.elim) ?aF ?aO ?aB ?aS ?aL ?_); (case aP => exact rfl); (case aF => exact (fun k hk => Nat.le_trans (below_size BE.out) hk)); (case aO => exact OE.out); (case aB => exact BE.out); (case aS => exact below_size BE.out); (case aL => rw [wayL_len]; have := A2.out; have := HLT.out; omega); intro v9 w9 ho hb9 hg9 hat9; have HO9 := Aside0.mk ho; have HB9 := Aside0.mk hb9; have HG9 := Aside0.mk hg9; clear ho hb9 hg9 hat9))
     go_roundg (Bt - (i + 1))
     case measure => have := HI.out; have := HLT.out; omega
     case rel => exact ⟨i + 1, by have := HLT.out; omega, by rw [wS (by have := HLT.out; have := A2.out; omega)], rfl, ⟨fun j hj => by
      by_cases e : j = i + 1
      ·rw [e, FN.out]; exact fun e => by cases e
      ·exact FS.out j (by omega)⟩, ⟨TE.out.overR OE.out HG9.out (below_step HT0.out.bl HB9.out) (by decide) (by decide) (by decide)⟩, ⟨by rw [wayL_succ]; exact HO9.out⟩, HB9, ⟨blk_grown PE.out HG9.out (Kd.R_ne OE.out PE.out (by decide))⟩⟩
  ·have hcn : decide (i < Bt) = false := decide_eq_false hlt
   obtain rfl : i = Bt := by omega
   clear hi hlt
   go_wp2
   go_ret
   exact ⟨_, i, rfl, Nat.le_refl _, FS.out, fun h => absurd h (Nat.lt_irrefl _), OL.out, BL.out⟩


open Go.Proofs.Ytbmibakhpealjaa.TrieP Go.Proofs.Ytbmibakhpealjaa.Facts Go.Proofs.Ytbmibakhpealjaa.Bits
/-- The tree with the nodes of a way made, as far as depth i. -/
def Fw (F : Nat → Nat → Option (List Int)) (a i : Nat) : Nat → Nat → Option (List Int) := fun b n => if (b ≤ i ∧ n = nk a b) ∧ F b n = none then some [] else F b n
theorem Fw_zero {F : Nat → Nat → Option (List Int)} {a : Nat} (ha : a < 4294967296) {vs : List Int} (h : F 0 0 = some vs) : Fw F a 0 = F := by
 funext b n
 unfold Fw
 rw [if_neg]
 rintro ⟨⟨h1, h2⟩, h3⟩
 obtain rfl : b = 0 := by omega
 rw [nk_zero (show a < 2 ^ 32 from ha)] at h2
 rw [h2, h] at h3
 cases h3
theorem Fw_ahead (F : Nat → Nat → Option (List Int)) (a i n : Nat) : Fw F a i (i + 1) n = F (i + 1) n := by
 unfold Fw
 rw [if_neg (by omega)]
theorem Fw_none {F : Nat → Nat → Option (List Int)} {a i : Nat} (h : F (i + 1) (nk a (i + 1)) = none) : upd2 (Fw F a i) (i + 1) (nk a (i + 1)) (some []) = Fw F a (i + 1) := by
 funext b n
 unfold upd2 Fw
 by_cases e : b = i + 1 ∧ n = nk a (i + 1)
 ·rw [if_pos e, if_pos]
  obtain ⟨rfl, rfl⟩ := e
  exact ⟨⟨Nat.le_refl _, rfl⟩, h⟩
 ·rw [if_neg e]
  by_cases h2 : (b ≤ i ∧ n = nk a b) ∧ F b n = none
  ·rw [if_pos h2, if_pos ⟨⟨by omega, h2.1.2⟩, h2.2⟩]
  ·rw [if_neg h2, if_neg]
   rintro ⟨⟨h3, h4⟩, h5⟩
   refine h2 ⟨⟨?_, h4⟩, h5⟩
   apply Classical.byContradiction
   intro hc
   obtain rfl : b = i + 1 := by omega
   exact e ⟨rfl, h4⟩
theorem Fw_some {F : Nat → Nat → Option (List Int)} {a i : Nat} {vs : List Int} (h : F (i + 1) (nk a (i + 1)) = some vs) : Fw F a i = Fw F a (i + 1) := by
 funext b n
 unfold Fw
 by_cases h2 : (b ≤ i ∧ n = nk a b) ∧ F b n = none
 ·rw [if_pos h2, if_pos ⟨⟨by omega, h2.1.2⟩, h2.2⟩]
 ·rw [if_neg h2, if_neg]
  rintro ⟨⟨h3, h4⟩, h5⟩
  refine h2 ⟨⟨?_, h4⟩, h5⟩
  apply Classical.byContradiction
  intro hc
  obtain rfl : b = i + 1 := by omega
  rw [h4, h] at h5
  cases h5
theorem Fw_has (F : Nat → Nat → Option (List Int)) (a i j : Nat) (h : j ≤ i) : ∃ vs, Fw F a i j (nk a j) = some vs := by
 unfold Fw
 cases hx : F j (nk a j) with
 | none => exact ⟨[], by rw [if_pos ⟨⟨h, rfl⟩, rfl⟩]⟩
 | some vs => exact ⟨vs, by rw [if_neg (fun h => by cases h.2)]⟩
theorem cell_hung {w w2 : World} {S : Nat → Prop} {tb : Nat} {F : Nat → Nat → Option (List Int)} {B : Nat → Nat → Nat} {V : Nat → Nat → Value} {c : Int} {a i g β : Nat} {vs : List Int} (h : Tr w w2 S tb (upd2 F (i + 1) (nk a (i + 1)) (some [])) (upd2 B (i + 1) (nk a (i + 1)) g) V c) (hn : nk a (i + 1) = 2 * nk a i + β) (hf : F i (nk a i) = some vs) (hβ : β < 2) :
  w2.cell? ⟨B i (nk a i), 1 + β, none⟩ = some (.pointer (some ⟨g, 0, none⟩)) := by
 have h1 := h.ci (b := i) (n := nk a i) (vs := vs) (by rw [upd2_ne _ _ (by omega)]; exact hf) β hβ
 rw [upd2_ne _ _ (by omega), ← hn] at h1
 rw [h1]
 unfold kid
 rw [upd2_same, upd2_same]
theorem ntyP (b : Nat) : (25 : Nat) ≠ nty b := by unfold nty; split <;> decide
theorem ntyB (b : Nat) : (33 : Nat) ≠ nty b := by unfold nty; split <;> decide
set_option maxHeartbeats 16000000 in
set_option maxRecDepth 100000 in
theorem wayY_.calls (a Bt : Nat) (ha : a < 4294967296) (hb : Bt ≤ 32) (w wo : World) (S : Nat → Prop) (tb : Nat) (F : Nat → Nat → Option (List Int)) (B : Nat → Nat → Nat) (V : Nat → Nat → Value) (c : Int) (h : Tr w wo S tb F B V c) :
  Calls Try.prog 22 #[.pointer (some ⟨tb, 0, none⟩), .agg #[.int .u32 (a : Int), .int .i64 (Bt : Int)], .bool true] wo fun e w' => ∃ (v : Value) (B2 : Nat → Nat → Nat) (V2 : Nat → Nat → Value), e = .returned v ∧ Tr w w' (fun k => S k ∨ wo.heap.size ≤ k) tb (Fw F a Bt) B2 V2 c ∧ Kept wo w' S ∧ kP.R 25 w' w.heap.size (fun k => wo.heap.size ≤ k) v (wayL B2 a Bt) := by
 have B0 := Aside0.mk (Below.refl wo.heap.size wo)
 have HT0 := Aside0.mk h
 have A1 := Aside0.mk ha
 have A2 := Aside0.mk hb
 obtain ⟨vs0, hf0⟩ := h.root
 clear h hf0 vs0 ha hb
 go_enter Try.func22, Try.ntmps22
 go_wp2_with (first
  | ((with_reducible refine gate_dst (N := 4) rfl ?_); refine box_event ?hg (N := 4) ?hd (cs := #[.int .u32 (a : Int), .int .i64 (Bt : Int)]) (t := 33) ?hr ?_; (case hd => rfl); (case hg => rfl); (case hr => first | (go_simp; done) | (go_simp; rfl)); intro gp hgx wx hbox hb; have PB := Aside0.mk hbox; have B1 := Aside0.mk hb; have z1 : wx.cell? ⟨gp, 1, none⟩ = some (.int .i64 (Bt : Int)) := (blk_cell hbox 1).trans rfl; clear hgx hbox hb)
  | ((with_reducible refine gate_dst (N := 15) rfl ?_); refine Kd.R_lit kP (w0 := wo) wo.heap.size 25 ?hg (N := 15) ?hd (xs := [tb]) (inner := [.pointer (some ⟨tb, 0, none⟩)]) (ok := fun k => wo.heap.size ≤ k) (okp := fun _ => False) ?hr ?hp (fun _ hk => hk.elim) ?hf ?hB ?hs (by simp) ?_; (case hd => rfl); (case hg => rfl); (case hr => first | (go_simp; done) | (go_simp; rfl)); (case hp => exact Reps.snoc (ps := []) (cs := []) (p := tb) (c := [.pointer (some ⟨tb, 0, none⟩)]) (Reps.none _ 1) rfl rfl); (case hf => exact below_size B1.out); (case hB => exact B1.out); (case hs => exact below_size B1.out); intro v9 w9 ho hb9 hg9 hx9; have HO := Aside0.mk ho; have B2 := Aside0.mk hb9; have G9 := Aside0.mk hg9; have PB2 := Aside0.mk (blk_grown PB.out hg9 (by simp)); clear z1; have z1 : w9.cell? ⟨gp, 1, none⟩ = some (.int .i64 (Bt : Int)) := (blk_cell PB2.out 1).trans rfl; clear ho hb9 hg9 hx9))
 clear z1 PB B1
 have TD0 := Aside0.mk ((HT0.out.below B2.out).mono (T := fun k => S k ∨ wo.heap.size ≤ k) (fun _ h => .inl h))
 have HO' := Aside0.mk (show kP.R 25 w9 w.heap.size (fun k => wo.heap.size ≤ k) v9 (wayL B a 0) by rw [wayL_zero B A1.out, HT0.out.b0]; exact Kd.R_lower HO.out HT0.out.bl.size)
 have K0 := Aside0.mk (Kept.of_below B2.out S)
 clear HO
 go_loopg [7, 8, 18] Bt (fun kq v7 v8 v18 wl => ∃ (i : Nat) (B : Nat → Nat → Nat) (V : Nat → Nat → Value), i + kq = Bt ∧ v18 = .int .i64 i ∧ v7 = .pointer (some ⟨B i (nk a i), 0, none⟩) ∧ Aside0 (Tr w wl (fun k => S k ∨ wo.heap.size ≤ k) tb (Fw F a i) B V c) ∧ Aside0 (kP.R 25 wl w.heap.size (fun k => wo.heap.size ≤ k) v8 (wayL B a i)) ∧ Aside0 (Kept wo wl S) ∧ Aside0 (wl.heap[gp]? = some (.cells #[.int .u32 (a : Int), .int .i64 (Bt : Int)] 33 (0, 0))))
 case atStart =>
  obtain ⟨vs, hf⟩ := HT0.out.root
  exact ⟨0, B, V, by omega, rfl, by rw [nk_zero (show a < 2 ^ 32 from A1.out), HT0.out.b0], ⟨by rw [Fw_zero A1.out hf]; exact TD0.out⟩, HO', K0, PB2⟩
 case round =>
  clear TD0 HO' B2 PB2 K0 G9
  obtain ⟨i, B, V, hi, rfl, rfl, TL, OL, BL, PL⟩ := hrel
  have HI := Aside0.mk hi
  by_cases hlt : i < Bt
  ·have hcn : decide (i < Bt) = true := decide_eq_true hlt
   have HLT := Aside0.mk hlt
   have hb32 := A2.out
   have hbc := bit_cases a i (by omega)
   obtain ⟨vsi, hfi⟩ := Fw_has F a i i (Nat.le_refl _)
   have FI := Aside0.mk hfi
   have hbit := bit_f A1.out (show i < 32 by omega)
   clear hi hlt hb32 hfi
   rcases hbc with ⟨hnk, hm⟩ | ⟨hnk, hm⟩
   ·rw [hm] at hbit
    have HNK := Aside0.mk hnk
    have HBIT := Aside0.mk hbit
    clear hnk hm hbit
    have PD := Aside0.mk (blk_drew PL.out)
    have TD := Aside0.mk (TL.out.below (below_drew1 (Below.refl _ _)))
    have OD := Aside0.mk (Kd.R_below OL.out (below_drew1 (Below.refl _ _)))
    have BD := Aside0.mk (BL.out.below (below_drew1 (Below.refl _ _)))
    clear PL TL OL BL
    go_wp2
    refine start_ (n := 9) (S := fun w' => w'.cell? ⟨gp, 0, none⟩ = some (.int .u32 (a : Int))) (ds := []) #[false, false, false, false, false, false, false, false, false] (by kernel_rfl) rfl rfl ((blk_cell PD.out 0).trans rfl) (fun hHeld => ?_)
    refine with_tabW way_.tab6 way_.bits6 (fun HT_ HW_ => ?_)
    generalize wr.drew = wd at PD TD OD BD hHeld ⊢
    refine pure_ (i := 0) (N := some 21) (v := ?_) (a' := ?_) #[true, false, false, false, false, false, false, false, false] rfl rfl (any_of HT_.out (by kernel_rfl)) (fun _ _ _ h => h) (Or.inl ⟨by rfl, ?_⟩) ?_ ?_
    rotate_left
    ·intro w'
     go_simp
     with_reducible rfl
    rotate_left
    ·simp only [Act.put, List.setIfInBounds_toArray, List.set_cons_zero, List.set_cons_succ, i64_w, i32_w]
     rfl
    refine pure_ (i := 1) (N := some 22) (v := ?_) (a' := ?_) #[true, true, false, false, false, false, false, false, false] rfl rfl (any_of HT_.out (by kernel_rfl)) (fun _ _ _ h => h) (Or.inl ⟨by rfl, ?_⟩) ?_ ?_
    rotate_left
    ·intro w'
     go_simp
     with_reducible rfl
    rotate_left
    ·simp only [Act.put, List.setIfInBounds_toArray, List.set_cons_zero, List.set_cons_succ, i64_w, i32_w]
     rfl
    refine pure_ (i := 3) (N := some 24) (v := ?_) (a' := ?_) #[true, true, false, true, false, false, false, false, false] rfl rfl (any_of HT_.out (by kernel_rfl)) (fun _ _ _ h => h) (Or.inl ⟨by rfl, ?_⟩) ?_ ?_
    rotate_left
    ·intro w'
     go_simp
     with_reducible rfl
    rotate_left
    ·simp only [Act.put, List.setIfInBounds_toArray, List.set_cons_zero, List.set_cons_succ, i64_w, i32_w]
     rfl
    refine pure_ (i := 5) (N := some 26) (v := ?_) (a' := ?_) #[true, true, false, true, false, true, false, false, false] rfl rfl (any_of HT_.out (by kernel_rfl)) (fun _ _ _ h => h) (Or.inl ⟨by rfl, ?_⟩) ?_ ?_
    rotate_left
    ·intro w'
     go_simp
     with_reducible rfl
    rotate_left
    ·simp only [Act.put, List.setIfInBounds_toArray, List.set_cons_zero, List.set_cons_succ, i64_w, i32_w]
     rfl
    refine pure_ (i := 6) (N := some 27) (v := ?_) (a' := ?_) #[true, true, false, true, false, true, true, false, false] rfl rfl (any_of HT_.out (by kernel_rfl)) (fun _ _ _ h => h) (Or.inl ⟨by rfl, ?_⟩) ?_ ?_
    rotate_left
    ·intro w'
     go_simp
     with_reducible rfl
    rotate_left
    ·simp only [Act.put, List.setIfInBounds_toArray, List.set_cons_zero, List.set_cons_succ, i64_w, i32_w]
     rfl
    refine take_ (i := 2) (N := some 23) (v := ?_) (a' := ?_) #[true, true, true, true, false, true, true, false, false] rfl rfl (take_ofW HT_.out HW_.out (by kernel_rfl)) (fun _ _ _ h => h) (Or.inl ⟨by rfl, ?_⟩) hHeld ?_ ?_
    rotate_left
    ·intro w' s0
     go_simp
     with_reducible rfl
    rotate_left
    ·simp only [Act.put, List.setIfInBounds_toArray, List.set_cons_zero, List.set_cons_succ, i64_w, i32_w]
     rfl
    refine one_ (i := 4) (N := some 25) #[true, true, true, true, true, true, true, false, false] rfl rfl (one_of HT_.out (by kernel_rfl)) (by decide) (fun K hK => ?_)
    refine goes_ Try.func31 (by kernel_rfl) rfl #[.int .u32 (a : Int), .int .i64 (i : Int)] (by rfl) rfl rfl (by (try simp only [List.map_toArray, List.map_cons, List.map_nil]); first | done | rfl) ?_
    with_reducible refine (trie_bit.calls _ _ _ _ HBIT.out).mono ?_
    rintro e wz ⟨rfl, hz⟩
    refine ⟨_, rfl, ?_⟩
    have DZ := Aside0.mk hz.below
    clear hz
    refine hK.out _ _ ((blk_cell (blk_below PD.out DZ.out) 0).trans rfl) (fun hHeld => ?_)
    clear hK K
    refine norm_ (a' := ?_) ?_ ?_
    rotate_left
    ·show Act.put _ (some 25) _ = _
     simp only [Act.put, List.setIfInBounds_toArray, List.set_cons_zero, List.set_cons_succ, i64_w, i32_w]
     rfl
    refine pure_ (i := 7) (N := some 28) (v := ?_) (a' := ?_) #[true, true, true, true, true, true, true, true, false] rfl rfl (any_of HT_.out (by kernel_rfl)) (fun _ _ _ h => h) (Or.inl ⟨by rfl, ?_⟩) ?_ ?_
    rotate_left
    ·intro w'
     go_simp
     with_reducible rfl
    rotate_left
    ·simp only [Act.put, List.setIfInBounds_toArray, List.set_cons_zero, List.set_cons_succ, i64_w, i32_w]
     rfl
    refine pure_ (i := 8) (N := some 10) (v := ?_) (a' := ?_) #[true, true, true, true, true, true, true, true, true] rfl rfl (any_of HT_.out (by kernel_rfl)) (fun _ _ _ h => h) (Or.inl ⟨by rfl, ?_⟩) ?_ ?_
    rotate_left
    ·intro w'
     go_simp
     with_reducible rfl
    rotate_left
    ·simp only [Act.put, List.setIfInBounds_toArray, List.set_cons_zero, List.set_cons_succ, i64_w, i32_w]
     rfl
    refine done_ (done_of HT_.out (by kernel_rfl)) ?_
    have PE := Aside0.mk (blk_below PD.out DZ.out)
    have TE := Aside0.mk (TD.out.below DZ.out)
    have OE := Aside0.mk (Kd.R_below OD.out DZ.out)
    have BE := Aside0.mk (BD.out.below DZ.out)
    clear PD TD OD BD DZ hHeld HT_ HW_
    have hcell := TE.out.ci FI.out 0 (by decide)
    rw [← HNK.out] at hcell
    have hfz := TE.out.fz FI.out 1
    cases hF : F (i + 1) (nk a (i + 1)) with
    | none =>
     have hF2 : Fw F a i (i + 1) (nk a (i + 1)) = none := by rw [Fw_ahead]; exact hF
     rw [TE.out.kidN hF2] at hcell
     have FN := Aside0.mk hF
     have FN2 := Aside0.mk hF2
     clear hF hF2
     go_wp2_with (first
      | ((with_reducible refine gate_dst (N := 38) rfl ?_); refine box_event ?hg (N := 38) ?hd (cs := #[.slice none 0 0, .pointer none, .pointer none]) (t := 28) ?hr ?_; (case hd => rfl); (case hg => rfl); (case hr => first | (go_simp; done) | (go_simp; rfl)); intro g hgx wx hbox hb; have BX := Aside0.mk hbox; have BB := Aside0.mk hb; have GX := Aside0.mk hgx; clear hgx hbox hb)
      | ((with_reducible refine gate_ (.store 25 (.tmp 39) (.tmp 38)) rfl ?_); refine Hand.wpList_store_one rfl rfl 25 (.tmp 39) (.tmp 38) rfl (.pointer (some ⟨g, 0, none⟩)) rfl rfl ((TE.out.below BB.out).nod _ _ _ FI.out) rfl size25 (Nat.le_trans (by decide) (ncs_size _ _ _ _ _ _)) rfl (fun w2 hw2 => ?_); have T2 := Aside0.mk (show Tr w w2 (fun k => (S k ∨ wo.heap.size ≤ k) ∨ wz.heap.size ≤ k) tb (upd2 (Fw F a i) (i + 1) (nk a (i + 1)) (some [])) (upd2 B (i + 1) (nk a (i + 1)) g) (upd2 V (i + 1) (nk a (i + 1)) (.slice none 0 0)) c by rw [hw2, HNK.out]; exact TE.out.hang (i := 0) (by decide) FI.out (by rw [← HNK.out]; exact FN2.out) BB.out (Nat.le_of_eq GX.out.symm) BX.out); have O2 := Aside0.mk (show kP.R 25 w2 w.heap.size (fun k => wo.heap.size ≤ k) u8 (wayL B a i) by rw [hw2]; exact Kd.R_set (Kd.R_below OE.out BB.out) ((TE.out.below BB.out).nod _ _ _ FI.out) (fun q hq => by have h25 : q = 25 := (by simpa [kP, Kd.scalar] using hq); rw [h25]; exact ntyP _) 1 (.pointer (some ⟨g, 0, none⟩))); have K2 := Aside0.mk (show Kept wo w2 S by rw [hw2]; exact Kept.setCell (p := ⟨B i (nk a i), 1, none⟩) (BE.out.below BB.out) (TE.out.sb _ _ _ FI.out).1 (.pointer (some ⟨g, 0, none⟩))); have P2 := Aside0.mk (show w2.heap[gp]? = some (.cells #[.int .u32 (a : Int), .int .i64 (Bt : Int)] 33 (0, 0)) by rw [hw2]; exact blk_far (p := ⟨B i (nk a i), 1, none⟩) (blk_below PE.out BB.out) (blk_ne (blk_below PE.out BB.out) ((TE.out.below BB.out).nod _ _ _ FI.out) (ntyB _)) (.pointer (some ⟨g, 0, none⟩))); have hck : w2.cell? ⟨B i (nk a i), 1, none⟩ = some (.pointer (some ⟨g, 0, none⟩)) := (cell_hung T2.out HNK.out FI.out (by decide)); clear hw2 hcell hfz)
      | ((with_reducible refine gate_builtin (b := .append) (xs := #[.tmp 43, .tmp 45]) rfl ?_); at_builtin; (refine Kd.R_append kP (w0 := w) w.heap.size rfl (.tmp 43) (.tmp 45) 60 25 (.pointer none) 8 rfl Try.underlying60 infoP rfl (Nat.one_pos : (0 : Nat) < 1) (by omega) u8 (wayL B a i) (g) [.pointer (some ⟨g, 0, none⟩)] (fun k => wo.heap.size ≤ k) (fun _ => False) rfl rfl ?aP (fun _ hk => hk.elim) ?aF ?aO ?aB ?aS ?aL ?_); (case aP => exact rfl); (case aF => exact (fun k hk => Nat.le_trans K2.out.1 hk)); (case aO => exact O2.out); (case aB => exact T2.out.bl); (case aS => exact (T2.out.bl).size); (case aL => rw [wayL_len]; have := A2.out; have := HLT.out; omega); intro v9 w9 ho hb9 hg9 hat9; have HO9 := Aside0.mk ho; have HB9 := Aside0.mk hb9; have HG9 := Aside0.mk hg9; clear ho hb9 hg9 hat9))
     go_roundg (Bt - (i + 1))
     case measure => have := HI.out; have := HLT.out; omega
     case rel => exact ⟨i + 1, upd2 B (i + 1) (nk a (i + 1)) g, upd2 V (i + 1) (nk a (i + 1)) (.slice none 0 0), by have := HLT.out; omega, by rw [wS (by have := HLT.out; have := A2.out; omega)], by rw [upd2_same], ⟨by
      have h1 := (T2.out.overR O2.out HG9.out HB9.out (by decide) (by decide) (by decide)).mono (T := fun k => S k ∨ wo.heap.size ≤ k) (fun k hk => hk.elim id (fun hk => .inr (Nat.le_trans BE.out.1 hk)))
      rw [Fw_none FN.out] at h1
      exact h1⟩, ⟨by
      rw [wayL_succ, upd2_same, wayL_congr (B' := B) (fun j hj => upd2_ne _ _ (by omega))]
      exact HO9.out⟩, ⟨Kept.of_grown HG9.out K2.out (fun k hk => .inr (O2.out.1 k hk))⟩, ⟨blk_grown P2.out HG9.out (Kd.R_ne O2.out P2.out (by decide))⟩⟩
    | some vs =>
     have hF2 : Fw F a i (i + 1) (nk a (i + 1)) = some vs := by rw [Fw_ahead]; exact hF
     rw [TE.out.kidS hF2] at hcell
     have FN := Aside0.mk hF
     clear hF hF2 hfz
     go_wp2_with (first
      | ((with_reducible refine gate_builtin (b := .append) (xs := #[.tmp 43, .tmp 45]) rfl ?_); at_builtin; (refine Kd.R_append kP (w0 := w) w.heap.size rfl (.tmp 43) (.tmp 45) 60 25 (.pointer none) 8 rfl Try.underlying60 infoP rfl (Nat.one_pos : (0 : Nat) < 1) (by omega) u8 (wayL B a i) (B (i + 1) (nk a (i + 1))) [.pointer (some ⟨B (i + 1) (nk a (i + 1)), 0, none⟩)] (fun k => wo.heap.size ≤ k) (fun _ => False) rfl rfl ?aP (fun _ hk => hk.elim) ?aF ?aO ?aB ?aS ?aL ?_); (case aP => exact rfl); (case aF => exact (fun k hk => Nat.le_trans BE.out.1 hk)); (case aO => exact OE.out); (case aB => exact TE.out.bl); (case aS => exact (TE.out.bl).size); (case aL => rw [wayL_len]; have := A2.out; have := HLT.out; omega); intro v9 w9 ho hb9 hg9 hat9; have HO9 := Aside0.mk ho; have HB9 := Aside0.mk hb9; have HG9 := Aside0.mk hg9; clear ho hb9 hg9 hat9))
     go_roundg (Bt - (i + 1))
     case measure => have := HI.out; have := HLT.out; omega
     case rel => exact ⟨i + 1, B, V, by have := HLT.out; omega, by rw [wS (by have := HLT.out; have := A2.out; omega)], rfl, ⟨by
      have h1 := TE.out.overR OE.out HG9.out HB9.out (by decide) (by decide) (by decide)
      rw [Fw_some FN.out] at h1
      exact h1⟩, ⟨by rw [wayL_succ]; exact HO9.out⟩, ⟨Kept.of_grown HG9.out BE.out (fun k hk => .inr (OE.out.1 k hk))⟩, ⟨blk_grown PE.out HG9.out (Kd.R_ne OE.out PE.out (by decide))⟩⟩
   ·rw [hm] at hbit
    have HNK := Aside0.mk hnk
    have HBIT := Aside0.mk hbit
    clear hnk hm hbit
    have PD := Aside0.mk (blk_drew PL.out)
    have TD := Aside0.mk (TL.out.below (below_drew1 (Below.refl _ _)))
    have OD := Aside0.mk (Kd.R_below OL.out (below_drew1 (Below.refl _ _)))
    have BD := Aside0.mk (BL.out.below (below_drew1 (Below.refl _ _)))
    clear PL TL OL BL
    go_wp2
    refine start_ (n := 9) (S := fun w' => w'.cell? ⟨gp, 0, none⟩ = some (.int .u32 (a : Int))) (ds := []) #[false, false, false, false, false, false, false, false, false] (by kernel_rfl) rfl rfl ((blk_cell PD.out 0).trans rfl) (fun hHeld => ?_)
    refine with_tabW way_.tab6 way_.bits6 (fun HT_ HW_ => ?_)
    generalize wr.drew = wd at PD TD OD BD hHeld ⊢
    refine pure_ (i := 0) (N := some 21) (v := ?_) (a' := ?_) #[true, false, false, false, false, false, false, false, false] rfl rfl (any_of HT_.out (by kernel_rfl)) (fun _ _ _ h => h) (Or.inl ⟨by rfl, ?_⟩) ?_ ?_
    rotate_left
    ·intro w'
     go_simp
     with_reducible rfl
    rotate_left
    ·simp only [Act.put, List.setIfInBounds_toArray, List.set_cons_zero, List.set_cons_succ, i64_w, i32_w]
     rfl
    refine pure_ (i := 1) (N := some 22) (v := ?_) (a' := ?_) #[true, true, false, false, false, false, false, false, false] rfl rfl (any_of HT_.out (by kernel_rfl)) (fun _ _ _ h => h) (Or.inl ⟨by rfl, ?_⟩) ?_ ?_
    rotate_left
    ·intro w'
     go_simp
     with_reducible rfl
    rotate_left
    ·simp only [Act.put, List.setIfInBounds_toArray, List.set_cons_zero, List.set_cons_succ, i64_w, i32_w]
     rfl
    refine pure_ (i := 3) (N := some 24) (v := ?_) (a' := ?_) #[true, true, false, true, false, false, false, false, false] rfl rfl (any_of HT_.out (by kernel_rfl)) (fun _ _ _ h => h) (Or.inl ⟨by rfl, ?_⟩) ?_ ?_
    rotate_left
    ·intro w'
     go_simp
     with_reducible rfl
    rotate_left
    ·simp only [Act.put, List.setIfInBounds_toArray, List.set_cons_zero, List.set_cons_succ, i64_w, i32_w]
     rfl
    refine pure_ (i := 5) (N := some 26) (v := ?_) (a' := ?_) #[true, true, false, true, false, true, false, false, false] rfl rfl (any_of HT_.out (by kernel_rfl)) (fun _ _ _ h => h) (Or.inl ⟨by rfl, ?_⟩) ?_ ?_
    rotate_left
    ·intro w'
     go_simp
     with_reducible rfl
    rotate_left
    ·simp only [Act.put, List.setIfInBounds_toArray, List.set_cons_zero, List.set_cons_succ, i64_w, i32_w]
     rfl
    refine pure_ (i := 6) (N := some 27) (v := ?_) (a' := ?_) #[true, true, false, true, false, true, true, false, false] rfl rfl (any_of HT_.out (by kernel_rfl)) (fun _ _ _ h => h) (Or.inl ⟨by rfl, ?_⟩) ?_ ?_
    rotate_left
    ·intro w'
     go_simp
     with_reducible rfl
    rotate_left
    ·simp only [Act.put, List.setIfInBounds_toArray, List.set_cons_zero, List.set_cons_succ, i64_w, i32_w]
     rfl
    refine take_ (i := 2) (N := some 23) (v := ?_) (a' := ?_) #[true, true, true, true, false, true, true, false, false] rfl rfl (take_ofW HT_.out HW_.out (by kernel_rfl)) (fun _ _ _ h => h) (Or.inl ⟨by rfl, ?_⟩) hHeld ?_ ?_
    rotate_left
    ·intro w' s0
     go_simp
     with_reducible rfl
    rotate_left
    ·simp only [Act.put, List.setIfInBounds_toArray, List.set_cons_zero, List.set_cons_succ, i64_w, i32_w]
     rfl
    refine one_ (i := 4) (N := some 25) #[true, true, true, true, true, true, true, false, false] rfl rfl (one_of HT_.out (by kernel_rfl)) (by decide) (fun K hK => ?_)
    refine goes_ Try.func31 (by kernel_rfl) rfl #[.int .u32 (a : Int), .int .i64 (i : Int)] (by rfl) rfl rfl (by (try simp only [List.map_toArray, List.map_cons, List.map_nil]); first | done | rfl) ?_
    with_reducible refine (trie_bit.calls _ _ _ _ HBIT.out).mono ?_
    rintro e wz ⟨rfl, hz⟩
    refine ⟨_, rfl, ?_⟩
    have DZ := Aside0.mk hz.below
    clear hz
    refine hK.out _ _ ((blk_cell (blk_below PD.out DZ.out) 0).trans rfl) (fun hHeld => ?_)
    clear hK K
    refine norm_ (a' := ?_) ?_ ?_
    rotate_left
    ·show Act.put _ (some 25) _ = _
     simp only [Act.put, List.setIfInBounds_toArray, List.set_cons_zero, List.set_cons_succ, i64_w, i32_w]
     rfl
    refine pure_ (i := 7) (N := some 28) (v := ?_) (a' := ?_) #[true, true, true, true, true, true, true, true, false] rfl rfl (any_of HT_.out (by kernel_rfl)) (fun _ _ _ h => h) (Or.inl ⟨by rfl, ?_⟩) ?_ ?_
    rotate_left
    ·intro w'
     go_simp
     with_reducible rfl
    rotate_left
    ·simp only [Act.put, List.setIfInBounds_toArray, List.set_cons_zero, List.set_cons_succ, i64_w, i32_w]
     rfl
    refine pure_ (i := 8) (N := some 10) (v := ?_) (a' := ?_) #[true, true, true, true, true, true, true, true, true] rfl rfl (any_of HT_.out (by kernel_rfl)) (fun _ _ _ h => h) (Or.inl ⟨by rfl, ?_⟩) ?_ ?_
    rotate_left
    ·intro w'
     go_simp
     with_reducible rfl
    rotate_left
    ·simp only [Act.put, List.setIfInBounds_toArray, List.set_cons_zero, List.set_cons_succ, i64_w, i32_w]
     rfl
    refine done_ (done_of HT_.out (by kernel_rfl)) ?_
    have PE := Aside0.mk (blk_below PD.out DZ.out)
    have TE := Aside0.mk (TD.out.below DZ.out)
    have OE := Aside0.mk (Kd.R_below OD.out DZ.out)
    have BE := Aside0.mk (BD.out.below DZ.out)
    clear PD TD OD BD DZ hHeld HT_ HW_
    have hcell := TE.out.ci FI.out 1 (by decide)
    rw [← HNK.out] at hcell
    have hfz := TE.out.fz FI.out 2
    cases hF : F (i + 1) (nk a (i + 1)) with
    | none =>
     have hF2 : Fw F a i (i + 1) (nk a (i + 1)) = none := by rw [Fw_ahead]; exact hF
     rw [TE.out.kidN hF2] at hcell
     have FN := Aside0.mk hF
     have FN2 := Aside0.mk hF2
     clear hF hF2
     go_wp2_with (first
      | ((with_reducible refine gate_dst (N := 38) rfl ?_); refine box_event ?hg (N := 38) ?hd (cs := #[.slice none 0 0, .pointer none, .pointer none]) (t := 28) ?hr ?_; (case hd => rfl); (case hg => rfl); (case hr => first | (go_simp; done) | (go_simp; rfl)); intro g hgx wx hbox hb; have BX := Aside0.mk hbox; have BB := Aside0.mk hb; have GX := Aside0.mk hgx; clear hgx hbox hb)
      | ((with_reducible refine gate_ (.store 25 (.tmp 39) (.tmp 38)) rfl ?_); refine Hand.wpList_store_one rfl rfl 25 (.tmp 39) (.tmp 38) rfl (.pointer (some ⟨g, 0, none⟩)) rfl rfl ((TE.out.below BB.out).nod _ _ _ FI.out) rfl size25 (Nat.le_trans (by decide) (ncs_size _ _ _ _ _ _)) rfl (fun w2 hw2 => ?_); have T2 := Aside0.mk (show Tr w w2 (fun k => (S k ∨ wo.heap.size ≤ k) ∨ wz.heap.size ≤ k) tb (upd2 (Fw F a i) (i + 1) (nk a (i + 1)) (some [])) (upd2 B (i + 1) (nk a (i + 1)) g) (upd2 V (i + 1) (nk a (i + 1)) (.slice none 0 0)) c by rw [hw2, HNK.out]; exact TE.out.hang (i := 1) (by decide) FI.out (by rw [← HNK.out]; exact FN2.out) BB.out (Nat.le_of_eq GX.out.symm) BX.out); have O2 := Aside0.mk (show kP.R 25 w2 w.heap.size (fun k => wo.heap.size ≤ k) u8 (wayL B a i) by rw [hw2]; exact Kd.R_set (Kd.R_below OE.out BB.out) ((TE.out.below BB.out).nod _ _ _ FI.out) (fun q hq => by have h25 : q = 25 := (by simpa [kP, Kd.scalar] using hq); rw [h25]; exact ntyP _) 2 (.pointer (some ⟨g, 0, none⟩))); have K2 := Aside0.mk (show Kept wo w2 S by rw [hw2]; exact Kept.setCell (p := ⟨B i (nk a i), 2, none⟩) (BE.out.below BB.out) (TE.out.sb _ _ _ FI.out).1 (.pointer (some ⟨g, 0, none⟩))); have P2 := Aside0.mk (show w2.heap[gp]? = some (.cells #[.int .u32 (a : Int), .int .i64 (Bt : Int)] 33 (0, 0)) by rw [hw2]; exact blk_far (p := ⟨B i (nk a i), 2, none⟩) (blk_below PE.out BB.out) (blk_ne (blk_below PE.out BB.out) ((TE.out.below BB.out).nod _ _ _ FI.out) (ntyB _)) (.pointer (some ⟨g, 0, none⟩))); have hck : w2.cell? ⟨B i (nk a i), 2, none⟩ = some (.pointer (some ⟨g, 0, none⟩)) := (cell_hung T2.out HNK.out FI.out (by decide)); clear hw2 hcell hfz)
      | ((with_reducible refine gate_builtin (b := .append) (xs := #[.tmp 43, .tmp 45]) rfl ?_); at_builtin; (refine Kd.R_append kP (w0 := w) w.heap.size rfl (.tmp 43) (.tmp 45) 60 25 (.pointer none) 8 rfl Try.underlying60 infoP rfl (Nat.one_pos : (0 : Nat) < 1) (by omega) u8 (wayL B a i) (g) [.pointer (some ⟨g, 0, none⟩)] (fun k => wo.heap.size ≤ k) (fun _ => False) rfl rfl ?aP (fun _ hk => hk.elim) ?aF ?aO ?aB ?aS ?aL ?_); (case aP => exact rfl); (case aF => exact (fun k hk => Nat.le_trans K2.out.1 hk)); (case aO => exact O2.out); (case aB => exact T2.out.bl); (case aS => exact (T2.out.bl).size); (case aL => rw [wayL_len]; have := A2.out; have := HLT.out; omega); intro v9 w9 ho hb9 hg9 hat9; have HO9 := Aside0.mk ho; have HB9 := Aside0.mk hb9; have HG9 := Aside0.mk hg9; clear ho hb9 hg9 hat9))
     go_roundg (Bt - (i + 1))
     case measure => have := HI.out; have := HLT.out; omega
     case rel => exact ⟨i + 1, upd2 B (i + 1) (nk a (i + 1)) g, upd2 V (i + 1) (nk a (i + 1)) (.slice none 0 0), by have := HLT.out; omega, by rw [wS (by have := HLT.out; have := A2.out; omega)], by rw [upd2_same], ⟨by
      have h1 := (T2.out.overR O2.out HG9.out HB9.out (by decide) (by decide) (by decide)).mono (T := fun k => S k ∨ wo.heap.size ≤ k) (fun k hk => hk.elim id (fun hk => .inr (Nat.le_trans BE.out.1 hk)))
      rw [Fw_none FN.out] at h1
      exact h1⟩, ⟨by
      rw [wayL_succ, upd2_same, wayL_congr (B' := B) (fun j hj => upd2_ne _ _ (by omega))]
      exact HO9.out⟩, ⟨Kept.of_grown HG9.out K2.out (fun k hk => .inr (O2.out.1 k hk))⟩, ⟨blk_grown P2.out HG9.out (Kd.R_ne O2.out P2.out (by decide))⟩⟩
    | some vs =>
     have hF2 : Fw F a i (i + 1) (nk a (i + 1)) = some vs := by rw [Fw_ahead]; exact hF
     rw [TE.out.kidS hF2] at hcell
     have FN := Aside0.mk hF
     clear hF hF2 hfz
     go_wp2_with (first
      | ((with_reducible refine gate_builtin (b := .append) (xs := #[.tmp 43, .tmp 45]) rfl ?_); at_builtin; (refine Kd.R_append kP (w0 := w) w.heap.size rfl (.tmp 43) (.tmp 45) 60 25 (.pointer none) 8 rfl Try.underlying60 infoP rfl (Nat.one_pos : (0 : Nat) < 1) (by omega) u8 (wayL B a i) (B (i + 1) (nk a (i + 1))) [.pointer (some ⟨B (i + 1) (nk a (i + 1)), 0, none⟩)] (fun k => wo.heap.size ≤ k) (fun _ => False) rfl rfl ?aP (fun _ hk => hk.elim) ?aF ?aO ?aB ?aS ?aL ?_); (case aP => exact rfl); (case aF => exact (fun k hk => Nat.le_trans BE.out.1 hk)); (case aO => exact OE.out); (case aB => exact TE.out.bl); (case aS => exact (TE.out.bl).size); (case aL => rw [wayL_len]; have := A2.out; have := HLT.out; omega); intro v9 w9 ho hb9 hg9 hat9; have HO9 := Aside0.mk ho; have HB9 := Aside0.mk hb9; have HG9 := Aside0.mk hg9; clear ho hb9 hg9 hat9))
     go_roundg (Bt - (i + 1))
     case measure => have := HI.out; have := HLT.out; omega
     case rel => exact ⟨i + 1, B, V, by have := HLT.out; omega, by rw [wS (by have := HLT.out; have := A2.out; omega)], rfl, ⟨by
      have h1 := TE.out.overR OE.out HG9.out HB9.out (by decide) (by decide) (by decide)
      rw [Fw_some FN.out] at h1
      exact h1⟩, ⟨by rw [wayL_succ]; exact HO9.out⟩, ⟨Kept.of_grown HG9.out BE.out (fun k hk => .inr (OE.out.1 k hk))⟩, ⟨blk_grown PE.out HG9.out (Kd.R_ne OE.out PE.out (by decide))⟩⟩
  ·have hcn : decide (i < Bt) = false := decide_eq_false hlt
   obtain rfl : i = Bt := by omega
   clear hi hlt
   go_wp2
   go_ret
   exact ⟨_, B, V, rfl, TL.out, BL.out, OL.out⟩


open Go.Proofs.Ytbmibakhpealjaa.TrieP Go.Proofs.Ytbmibakhpealjaa.Facts Go.Proofs.Ytbmibakhpealjaa.Bits
/-! ### slices.Insert and slices.Delete at []int, by the shelf's contracts, in the words of rows -/
theorem putSeg_list : ∀ (l : List Value) (cs : Array Value) (o : Nat), o + l.length ≤ cs.size → (Hand.putSeg cs o l).toList = cs.toList.take o ++ l ++ cs.toList.drop (o + l.length)
 | [], cs, o, _ => by simp [Hand.putSeg]
 | v :: l, cs, o, h => by
  rw [Hand.putSeg, putSeg_list l _ _ (by simp at h ⊢; omega), Array.toList_setIfInBounds]
  have ho : o < cs.toList.length := by simp at h ⊢; omega
  have h1 : (cs.toList.set o v).take (o + 1) = cs.toList.take o ++ [v] := by
   rw [List.take_set]
   rw [List.take_succ_eq_append_getElem ho, List.set_append_right _ _ (by simp; omega)]
   simp [Nat.min_eq_left (Nat.le_of_lt (by simpa using ho))]
  have h2 : (cs.toList.set o v).drop (o + 1 + l.length) = cs.toList.drop (o + (l.length + 1)) := by
   rw [List.drop_set, if_pos (by omega)]
   congr 1
   omega
  rw [h1, h2]
  simp
theorem putSeg_size (l : List Value) : ∀ (cs : Array Value) (o : Nat), (Hand.putSeg cs o l).size = cs.size := by
 induction l with
 | nil => intro cs o; rfl
 | cons v l ih => intro cs o; rw [Hand.putSeg, ih]; simp
def encI : Int → Value := Value.int .i64
theorem R_block {w : World} {base g n cap : Nat} {ok : Nat → Prop} {cur : Array Value} {ys : List Int} (hb : w.heap[g]? = some (.cells cur 3 (0, 0))) (hg : base ≤ g) (hn : ys.length = n) (hc : n ≤ cap) (hm : cap ≤ maxLen) (hs : cur.size = cap) (ht : cur.toList.take n = ys.map encI) (hok : ok g) :
  (Kd.int .i64).R 3 w base ok (.slice (some ⟨g, 0, none⟩) n cap) ys := by
 subst hn
 refine Kd.R_of_own (enc := Value.int .i64) (h1 := fun _ => rfl) (xs := ys) ⟨by simp [encs], .inr ⟨g, cap, cur, rfl, hg, hb, hc, hm, by rw [hs, Nat.mul_one], by rw [Nat.mul_one, ht]; rfl⟩⟩ (fun k hk => ?_)
 have : g = k := by simpa [Value.ownBlock] using hk
 rw [← this]
 exact hok
/-- What comes out: a row, in the old block or a new one. -/
def InsOut (base : Nat) (ok : Nat → Prop) (v0 : Value) (ys : List Int) (w : World) (e : Ending) (w' : World) : Prop :=
 ∃ v', e = .returned v' ∧ (Kd.int .i64).R 3 w' base ok v' ys ∧ (∀ k, some k = v'.ownBlock → some k = v0.ownBlock ∨ w.heap.size ≤ k) ∧ Kept w w' (fun k => some k = v0.ownBlock) ∧ ∀ w0 : World, Below w0.heap.size w0 w → w0.heap.size ≤ base → Below w0.heap.size w0 w'
theorem out_new {base h n : Nat} {ok : Nat → Prop} {v0 : Value} {ys : List Int} {w w' : World} {cap : Nat} {cur : Array Value} (hh : h = w.heap.size) (hb : w'.heap[h]? = some (.cells cur 3 (0, 0))) (hbel : Below w.heap.size w w') (hbw : base ≤ w.heap.size) (hc : n ≤ cap) (hm : cap ≤ maxLen) (hs : cur.size = cap) (hn : ys.length = n) (ht : cur.toList.take n = ys.map encI) (hok : ok h) :
  InsOut base ok v0 ys w (.returned (.slice (some ⟨h, 0, none⟩) n cap)) w' := by
 subst hn
 refine ⟨_, rfl, R_block hb (by omega) rfl hc hm hs ht hok, fun k hk => ?_, Kept.of_below hbel _, fun w0 h0 hle => below_step h0 hbel⟩
 have : k = h := by simpa [Value.ownBlock] using hk
 right
 omega
theorem out_old {base g n c k : Nat} {ok : Nat → Prop} {ys : List Int} {w w' : World} {cur : Array Value} (hb : w'.heap[g]? = some (.cells cur 3 (0, 0))) (hg : base ≤ g) (hfar : ∀ k, k ≠ g → w'.heap[k]? = w.heap[k]?) (hsz : w'.heap.size = w.heap.size) (hbl : ∀ w0 : World, Below w0.heap.size w0 w → w0.heap.size ≤ g → Below w0.heap.size w0 w')
  (hc : k ≤ c) (hm : c ≤ maxLen) (hs : cur.size = c) (hn : ys.length = k) (ht : cur.toList.take k = ys.map encI) (hok : ok g) : InsOut base ok (.slice (some ⟨g, 0, none⟩) n c) ys w (.returned (.slice (some ⟨g, 0, none⟩) k c)) w' := by
 subst hn
 refine ⟨_, rfl, R_block hb hg rfl hc hm hs ht hok, fun k hk => .inl hk, ⟨Nat.le_of_eq hsz.symm, fun i hi hn => hfar i (fun e => hn (by simp [Value.ownBlock, e]))⟩, fun w0 h0 hle => hbl w0 h0 (by omega)⟩
theorem row_parts {A : Option Addr} {cp base : Nat} {ok : Nat → Prop} {xs : List Int} {w : World} (hR : (Kd.int .i64).R 3 w base ok (.slice A xs.length cp) xs) :
  (A = none ∧ cp = 0 ∧ xs = []) ∨ ∃ g cur, A = some ⟨g, 0, none⟩ ∧ base ≤ g ∧ w.heap[g]? = some (.cells cur 3 (0, 0)) ∧ xs.length ≤ cp ∧ cp ≤ maxLen ∧ cur.size = cp ∧ cur.toList.take xs.length = xs.map encI ∧ ok g := by
 obtain ⟨hok, inner, ho, hre⟩ := hR
 rcases ho.2 with ⟨e0, hn0⟩ | ⟨g, cap, cur, e0, hg, hb, hc, hm, hs, ht⟩
 ·injection e0 with e1 e2 e3
  exact .inl ⟨e1, e3, List.eq_nil_of_length_eq_zero hn0⟩
 ·injection e0 with e1 e2 e3
  subst e1; subst e3
  have hl : inner.length = xs.length := by
   have := hre.1
   rw [show (Kd.int .i64).sz = 1 from rfl, Nat.mul_one] at this
   exact this
  have hin : inner = xs.map encI := by
   apply List.ext_getElem (by simpa using hl)
   intro j h1 h2
   have hj : j < xs.length := by simpa using h2
   have := hre.2 j xs[j] (List.getElem?_eq_getElem hj)
   rw [Kd.int, show (Kd.scalar (Value.int .i64) (fun _ => rfl)).sz = 1 from rfl, Nat.mul_one, List.drop_eq_getElem_cons h1, List.take_succ_cons, List.take_zero] at this
   rw [List.getElem_map]
   exact (List.cons.inj this).1
  rw [show (Kd.int .i64).sz = 1 from rfl, Nat.mul_one] at ht hs
  exact .inr ⟨g, cur, rfl, hg, hb, hc, hm, hs, by rw [ht, hin], hok g rfl⟩
set_option maxHeartbeats 4000000 in
theorem insert_nil (base : Nat) (ok : Nat → Prop) (v : Int) (vb : Nat) (w : World) (hv : w.heap[vb]? = some (.cells #[.int .i64 v] 3 (0, 0))) (hbw : base ≤ w.heap.size) (hfr : ∀ k, w.heap.size ≤ k → ok k) :
  Calls Try.prog 24 #[.slice none 0 0, .int .i64 ((0 : Nat) : Int), .slice (some ⟨vb, 0, none⟩) 1 1] w (InsOut base ok (.slice none 0 0) ([v]) w) := by
 have hml : (1000000 : Nat) ≤ maxLen := by unfold maxLen; decide
 have hvs : ∀ j u, ([Value.int .i64 v] : List Value)[j]? = some u → w.cell? ⟨vb, 0 + j, none⟩ = some u := fun j u hj => by
  match j, hj with
  | 0, hj => rw [← Option.some.inj hj]; exact (blk_cell hv 0).trans rfl
 have h1v : ∀ u ∈ ([Value.int .i64 v] : List Value), u.oneCell' = true := fun u hu => by obtain rfl := List.mem_singleton.1 hu; rfl
 have hz : ∀ k, (Builtin.zeroCells (Value.int .i64 0).cells k).size = k := fun k => by rw [size_zeroCells]; show k * 1 = k; omega
 refine (Any2.slices_Insert_int_end_grow Try.laysIns none 0 0 vb 0 1 1 [] [.int .i64 v] w (by decide) (by decide) (by decide) (by decide) rfl rfl (fun _ => rfl) (fun a ha => by cases ha) hvs h1v).mono ?_
 rintro e w' ⟨rfl, rfl⟩
 have hge : 1 ≤ grownCap w (0 + 1) 0 (Try.laysIns_ren.t 3) := grownCap_ge w 1 0 3
 have hgm : grownCap w (0 + 1) 0 (Try.laysIns_ren.t 3) ≤ maxLen := grownCap_le_maxLen w 1 0 3 (by unfold maxLen; decide)
 generalize grownCap w (0 + 1) 0 (Try.laysIns_ren.t 3) = G at *
 refine out_new (ys := [v]) (cap := G) rfl (heap_alloc_new w.drew _) (below_alloc (below_drew1 (Below.refl _ _)) _) hbw hge hgm ?_ rfl ?_ (hfr _ (Nat.le_refl _))
 ·simp [hz]; omega
 ·simp [encI]
set_option maxHeartbeats 4000000 in
theorem insert_shift (base i : Nat) (ok : Nat → Prop) (xs : List Int) (v : Int) (vb : Nat) (w : World) {g cp : Nat} {cur : Array Value} (hi : i ≤ xs.length) (hl : xs.length ≤ 1000000) (hv : w.heap[vb]? = some (.cells #[.int .i64 v] 3 (0, 0)))
  (hg : base ≤ g) (hb : w.heap[g]? = some (.cells cur 3 (0, 0))) (hc : xs.length ≤ cp) (hm : cp ≤ maxLen) (hsz : cur.size = cp) (htk : cur.toList.take xs.length = xs.map encI) (hokg : ok g) (hvbg : vb ≠ g) (hbw : base ≤ w.heap.size) (hfr : ∀ k, w.heap.size ≤ k → ok k) (hin : i < xs.length) (hroom : xs.length + 1 ≤ cp) :
  Calls Try.prog 24 #[.slice (some ⟨g, 0, none⟩) xs.length cp, .int .i64 (i : Int), .slice (some ⟨vb, 0, none⟩) 1 1] w (InsOut base ok (.slice (some ⟨g, 0, none⟩) xs.length cp) (xs.take i ++ v :: xs.drop i) w) := by
 have hml : (1000000 : Nat) ≤ maxLen := by unfold maxLen; decide
 have hvs : ∀ j u, ([Value.int .i64 v] : List Value)[j]? = some u → w.cell? ⟨vb, 0 + j, none⟩ = some u := fun j u hj => by
  match j, hj with
  | 0, hj => rw [← Option.some.inj hj]; exact (blk_cell hv 0).trans rfl
 have h1v : ∀ u ∈ ([Value.int .i64 v] : List Value), u.oneCell' = true := fun u hu => by obtain rfl := List.mem_singleton.1 hu; rfl
 have hlen : (xs.take i ++ v :: xs.drop i).length = xs.length + 1 := by simp; omega
 have hcl : (xs.map encI).length = xs.length := by simp
 have h1c : ∀ u ∈ xs.map encI, u.oneCell' = true := fun u hu => by obtain ⟨x, _, rfl⟩ := List.mem_map.1 hu; rfl
 have hz : ∀ k, (Builtin.zeroCells (Value.int .i64 0).cells k).size = k := fun k => by rw [size_zeroCells]; show k * 1 = k; omega
 have hcs : ∀ j u, (xs.map encI)[j]? = some u → w.cell? ⟨g, 0 + j, none⟩ = some u := fun j u hj => by
  rw [blk_cell hb, Nat.zero_add]
  have hjl : j < xs.length := by
   have := (List.getElem?_eq_some_iff.1 hj).1
   simpa using this
  rw [← htk, List.getElem?_take, if_pos hjl] at hj
  rw [← hj]
  simp
 have hcell : ∀ j, j < cp → (w.cell? ⟨g, 0 + j, none⟩).isSome = true := fun j hj => by rw [blk_cell hb, Nat.zero_add]; simp [hsz, hj]
 refine (Any2.slices_Insert_int_shift Try.laysIns g 0 xs.length cp i vb 0 1 1 (xs.map encI) [.int .i64 v] w hin (by decide) hroom (by unfold maxLen at hm; omega) hvbg hcl rfl hcs (fun j hj => hcell j (by omega)) (fun j _ => blk_frozen hb _) hvs h1c h1v 3 3 1 cp (by simp [World.shape?, hv]) (by simp [World.shape?, hb, hsz]) (by omega) (blk_frozen hv _) (blk_frozen hv _)).mono ?_
 rintro e w' ⟨rfl, rfl⟩
 have hb1 : w.drew.heap[g]? = some (.cells cur 3 (0, 0)) := hb
 have h1 := Hand.setCells_heap g 3 ((xs.map encI).drop i) w.drew (0 + (i + 1)) cur hb1
 have h2 := Hand.setCells_heap g 3 [.int .i64 v] _ (0 + i) _ h1
 have hle1 : (0 + (i + 1)) + ((xs.map encI).drop i).length ≤ cur.size := by simp; omega
 have hL1 := putSeg_list ((xs.map encI).drop i) cur (0 + (i + 1)) hle1
 have hL2 := putSeg_list [.int .i64 v] (Hand.putSeg cur (0 + (i + 1)) ((xs.map encI).drop i)) (0 + i) (by rw [putSeg_size]; simp; omega)
 refine out_old h2 hg (fun k hk => by rw [Hand.setCells_far g k hk, Hand.setCells_far g k hk]; rfl) (by rw [Hand.setCells_size, Hand.setCells_size]; rfl) (fun w0 h0 hle => Hand.setCells_below g hle _ _ _ (Hand.setCells_below g hle _ _ _ (below_drew h0))) hroom hm (by rw [putSeg_size, putSeg_size]; exact hsz) hlen ?_ hokg
 rw [hL2, hL1]
 have t1 : cur.toList.take i = (xs.map encI).take i := by rw [← htk, List.take_take, Nat.min_eq_left (by omega)]
 simp only [Nat.zero_add, List.length_cons, List.length_nil]
 have t2 : (cur.toList.take (i + 1) ++ (xs.map encI).drop i ++ cur.toList.drop (i + 1 + ((xs.map encI).drop i).length)).take i = cur.toList.take i := by
  rw [List.append_assoc, List.take_append_of_le_length (by simp; omega), List.take_take, Nat.min_eq_left (by omega)]
 have t3 : (cur.toList.take (i + 1) ++ (xs.map encI).drop i ++ cur.toList.drop (i + 1 + ((xs.map encI).drop i).length)).drop (i + 1) = (xs.map encI).drop i ++ cur.toList.drop (i + 1 + ((xs.map encI).drop i).length) := by
  rw [List.append_assoc, List.drop_append_of_le_length (by simp; omega)]
  simp
 rw [t2, t3, t1]
 have e3 : (List.take i (List.map encI xs) ++ [Value.int IntKind.i64 v] ++ (List.drop i (List.map encI xs) ++ cur.toList.drop (i + 1 + ((xs.map encI).drop i).length))) = ((xs.take i ++ v :: xs.drop i).map encI) ++ cur.toList.drop (i + 1 + ((xs.map encI).drop i).length) := by
  simp [encI, List.map_take, List.map_drop]
 rw [e3, List.take_append_of_le_length (by simp; omega), List.take_of_length_le (by simp; omega)]
set_option maxHeartbeats 4000000 in
theorem insert_grow (base i : Nat) (ok : Nat → Prop) (xs : List Int) (v : Int) (vb : Nat) (w : World) {g cp : Nat} {cur : Array Value} (hi : i ≤ xs.length) (hl : xs.length ≤ 1000000) (hv : w.heap[vb]? = some (.cells #[.int .i64 v] 3 (0, 0)))
  (hg : base ≤ g) (hb : w.heap[g]? = some (.cells cur 3 (0, 0))) (hc : xs.length ≤ cp) (hm : cp ≤ maxLen) (hsz : cur.size = cp) (htk : cur.toList.take xs.length = xs.map encI) (hokg : ok g) (hvbg : vb ≠ g) (hbw : base ≤ w.heap.size) (hfr : ∀ k, w.heap.size ≤ k → ok k) (hin : i < xs.length) (hroom : ¬ xs.length + 1 ≤ cp) :
  Calls Try.prog 24 #[.slice (some ⟨g, 0, none⟩) xs.length cp, .int .i64 (i : Int), .slice (some ⟨vb, 0, none⟩) 1 1] w (InsOut base ok (.slice (some ⟨g, 0, none⟩) xs.length cp) (xs.take i ++ v :: xs.drop i) w) := by
 have hml : (1000000 : Nat) ≤ maxLen := by unfold maxLen; decide
 have hvs : ∀ j u, ([Value.int .i64 v] : List Value)[j]? = some u → w.cell? ⟨vb, 0 + j, none⟩ = some u := fun j u hj => by
  match j, hj with
  | 0, hj => rw [← Option.some.inj hj]; exact (blk_cell hv 0).trans rfl
 have h1v : ∀ u ∈ ([Value.int .i64 v] : List Value), u.oneCell' = true := fun u hu => by obtain rfl := List.mem_singleton.1 hu; rfl
 have hlen : (xs.take i ++ v :: xs.drop i).length = xs.length + 1 := by simp; omega
 have hcl : (xs.map encI).length = xs.length := by simp
 have h1c : ∀ u ∈ xs.map encI, u.oneCell' = true := fun u hu => by obtain ⟨x, _, rfl⟩ := List.mem_map.1 hu; rfl
 have hz : ∀ k, (Builtin.zeroCells (Value.int .i64 0).cells k).size = k := fun k => by rw [size_zeroCells]; show k * 1 = k; omega
 have hcs : ∀ j u, (xs.map encI)[j]? = some u → w.cell? ⟨g, 0 + j, none⟩ = some u := fun j u hj => by
  rw [blk_cell hb, Nat.zero_add]
  have hjl : j < xs.length := by
   have := (List.getElem?_eq_some_iff.1 hj).1
   simpa using this
  rw [← htk, List.getElem?_take, if_pos hjl] at hj
  rw [← hj]
  simp
 have hcell : ∀ j, j < cp → (w.cell? ⟨g, 0 + j, none⟩).isSome = true := fun j hj => by rw [blk_cell hb, Nat.zero_add]; simp [hsz, hj]
 refine (Any2.slices_Insert_int_grow Try.laysIns g 0 xs.length cp i vb 0 1 1 (xs.map encI) [.int .i64 v] w hin (by decide) hc (by omega) (by omega) hcl rfl hcs hvs h1c h1v).mono ?_
 rintro e w' ⟨rfl, rfl⟩
 have hge := grownCap_ge w (xs.length + 1) cp 3
 have hgm := grownCap_le_maxLen w (xs.length + 1) cp 3 (by unfold maxLen; omega)
 obtain ⟨G, hG⟩ : ∃ G, G = grownCap w (xs.length + 1) cp (Try.laysIns_ren.t 3) := ⟨_, rfl⟩
 have hG' : G = grownCap w (xs.length + 1) cp 3 := hG
 rw [← hG]
 rw [← hG'] at hge hgm
 obtain ⟨c0, hc0⟩ : ∃ c0 : Array Value, c0 = ((xs.map encI).take i).toArray ++ Builtin.zeroCells (Value.int .i64 0).cells (xs.length + 1 - i) ++ Builtin.zeroCells (Value.int .i64 0).cells (G - (xs.length + 1)) := ⟨_, rfl⟩
 have hs0 : c0.size = G := by rw [hc0]; simp [hz]; omega
 have hb0 : ((w.alloc (.cells c0 3)).drew).heap[w.heap.size]? = some (.cells c0 3 (0, 0)) := heap_alloc_new w _
 have h1 := Hand.setCells_heap w.heap.size 3 [.int .i64 v] _ i _ hb0
 have h2 := Hand.setCells_heap w.heap.size 3 ((xs.map encI).drop i) ((((w.alloc (.cells c0 3)).drew).setCells w.heap.size i [.int .i64 v]).drew) (i + 1) _ h1
 have hL1 := putSeg_list [.int .i64 v] c0 i (by simp; omega)
 have hL2 := putSeg_list ((xs.map encI).drop i) (Hand.putSeg c0 i [.int .i64 v]) (i + 1) (by rw [putSeg_size]; simp; omega)
 have hbel : Below w.heap.size w ((((w.alloc (.cells c0 3)).drew.setCells w.heap.size i [.int .i64 v]).drew).setCells w.heap.size (i + 1) ((xs.map encI).drop i)) :=
  Hand.setCells_below w.heap.size (Nat.le_refl _) _ _ _ (below_drew (Hand.setCells_below w.heap.size (Nat.le_refl _) _ _ _ (below_drew (below_alloc (Below.refl _ _) _))))
 rw [hc0] at h2 hbel
 refine out_new rfl h2 hbel hbw hge hgm (by rw [putSeg_size, putSeg_size, ← hc0]; exact hs0) hlen ?_ (hfr _ (Nat.le_refl _))
 rw [← hc0, hL2, hL1]
 have t0 : c0.toList.take i = (xs.map encI).take i := by
  rw [hc0]
  simp only [Array.toList_append, List.append_assoc]
  rw [List.take_append_of_le_length (by simp; omega)]
  rw [List.take_take, Nat.min_self]
 have hc1 : i + [Value.int IntKind.i64 v].length = i + 1 := rfl
 rw [hc1]
 have t2 : (c0.toList.take i ++ [Value.int IntKind.i64 v] ++ c0.toList.drop (i + 1)).take (i + 1) = c0.toList.take i ++ [Value.int IntKind.i64 v] := by
  rw [List.take_append_of_le_length (by simp; omega), List.take_of_length_le (by simp; omega)]
 rw [t2, t0]
 have e3 : (List.take i (List.map encI xs) ++ [Value.int IntKind.i64 v] ++ List.drop i (List.map encI xs)) = ((xs.take i ++ v :: xs.drop i).map encI) := by
  simp [encI, List.map_take, List.map_drop]
 rw [e3, List.take_append_of_le_length (by simp; omega), List.take_of_length_le (by simp; omega)]
set_option maxHeartbeats 4000000 in
theorem insert_room (base : Nat) (ok : Nat → Prop) (xs : List Int) (v : Int) (vb : Nat) (w : World) {g cp : Nat} {cur : Array Value} (hl : xs.length ≤ 1000000) (hv : w.heap[vb]? = some (.cells #[.int .i64 v] 3 (0, 0)))
  (hg : base ≤ g) (hb : w.heap[g]? = some (.cells cur 3 (0, 0))) (hc : xs.length ≤ cp) (hm : cp ≤ maxLen) (hsz : cur.size = cp) (htk : cur.toList.take xs.length = xs.map encI) (hokg : ok g) (hvbg : vb ≠ g) (hbw : base ≤ w.heap.size) (hfr : ∀ k, w.heap.size ≤ k → ok k) (hroom : xs.length + 1 ≤ cp) :
  Calls Try.prog 24 #[.slice (some ⟨g, 0, none⟩) xs.length cp, .int .i64 ((xs.length : Nat) : Int), .slice (some ⟨vb, 0, none⟩) 1 1] w (InsOut base ok (.slice (some ⟨g, 0, none⟩) xs.length cp) (xs ++ [v]) w) := by
 have hml : (1000000 : Nat) ≤ maxLen := by unfold maxLen; decide
 have hvs : ∀ j u, ([Value.int .i64 v] : List Value)[j]? = some u → w.cell? ⟨vb, 0 + j, none⟩ = some u := fun j u hj => by
  match j, hj with
  | 0, hj => rw [← Option.some.inj hj]; exact (blk_cell hv 0).trans rfl
 have h1v : ∀ u ∈ ([Value.int .i64 v] : List Value), u.oneCell' = true := fun u hu => by obtain rfl := List.mem_singleton.1 hu; rfl
 have hcl : (xs.map encI).length = xs.length := by simp
 have h1c : ∀ u ∈ xs.map encI, u.oneCell' = true := fun u hu => by obtain ⟨x, _, rfl⟩ := List.mem_map.1 hu; rfl
 have hz : ∀ k, (Builtin.zeroCells (Value.int .i64 0).cells k).size = k := fun k => by rw [size_zeroCells]; show k * 1 = k; omega
 have hcs : ∀ j u, (xs.map encI)[j]? = some u → w.cell? ⟨g, 0 + j, none⟩ = some u := fun j u hj => by
  rw [blk_cell hb, Nat.zero_add]
  have hjl : j < xs.length := by
   have := (List.getElem?_eq_some_iff.1 hj).1
   simpa using this
  rw [← htk, List.getElem?_take, if_pos hjl] at hj
  rw [← hj]
  simp
 have hcell : ∀ j, j < cp → (w.cell? ⟨g, 0 + j, none⟩).isSome = true := fun j hj => by rw [blk_cell hb, Nat.zero_add]; simp [hsz, hj]
 refine (Any2.slices_Insert_int_end_room Try.laysIns g 0 xs.length cp vb 0 1 1 [.int .i64 v] w (by decide) hroom (by unfold maxLen at hm; omega) rfl (fun j hj => by have := hcell (xs.length + j) (by omega); rwa [← Nat.add_assoc] at this) (fun j _ => blk_frozen hb _) hvs h1v).mono ?_
 rintro e w' ⟨rfl, rfl⟩
 have h1 := Hand.setCells_heap g 3 [.int .i64 v] w (0 + xs.length) cur hb
 have hL1 := putSeg_list [.int .i64 v] cur (0 + xs.length) (by simp; omega)
 refine out_old h1 hg (fun k hk => Hand.setCells_far g k hk _ _ _) (Hand.setCells_size _ _ _ _) (fun w0 h0 hle => Hand.setCells_below g hle _ _ _ h0) hroom hm (by rw [putSeg_size]; exact hsz) (by simp) ?_ hokg
 rw [hL1, Nat.zero_add, htk]
 have e3 : List.map encI xs ++ [Value.int IntKind.i64 v] = (xs ++ [v]).map encI := by simp [encI]
 rw [e3, List.take_append_of_le_length (by simp), List.take_of_length_le (by simp)]
set_option maxHeartbeats 4000000 in
theorem insert_end (base : Nat) (ok : Nat → Prop) (xs : List Int) (v : Int) (vb : Nat) (w : World) {g cp : Nat} {cur : Array Value} (hl : xs.length ≤ 1000000) (hv : w.heap[vb]? = some (.cells #[.int .i64 v] 3 (0, 0)))
  (hg : base ≤ g) (hb : w.heap[g]? = some (.cells cur 3 (0, 0))) (hc : xs.length ≤ cp) (hm : cp ≤ maxLen) (hsz : cur.size = cp) (htk : cur.toList.take xs.length = xs.map encI) (hokg : ok g) (hvbg : vb ≠ g) (hbw : base ≤ w.heap.size) (hfr : ∀ k, w.heap.size ≤ k → ok k) (hroom : ¬ xs.length + 1 ≤ cp) :
  Calls Try.prog 24 #[.slice (some ⟨g, 0, none⟩) xs.length cp, .int .i64 ((xs.length : Nat) : Int), .slice (some ⟨vb, 0, none⟩) 1 1] w (InsOut base ok (.slice (some ⟨g, 0, none⟩) xs.length cp) (xs ++ [v]) w) := by
 have hml : (1000000 : Nat) ≤ maxLen := by unfold maxLen; decide
 have hvs : ∀ j u, ([Value.int .i64 v] : List Value)[j]? = some u → w.cell? ⟨vb, 0 + j, none⟩ = some u := fun j u hj => by
  match j, hj with
  | 0, hj => rw [← Option.some.inj hj]; exact (blk_cell hv 0).trans rfl
 have h1v : ∀ u ∈ ([Value.int .i64 v] : List Value), u.oneCell' = true := fun u hu => by obtain rfl := List.mem_singleton.1 hu; rfl
 have hcl : (xs.map encI).length = xs.length := by simp
 have h1c : ∀ u ∈ xs.map encI, u.oneCell' = true := fun u hu => by obtain ⟨x, _, rfl⟩ := List.mem_map.1 hu; rfl
 have hz : ∀ k, (Builtin.zeroCells (Value.int .i64 0).cells k).size = k := fun k => by rw [size_zeroCells]; show k * 1 = k; omega
 have hcs : ∀ j u, (xs.map encI)[j]? = some u → w.cell? ⟨g, 0 + j, none⟩ = some u := fun j u hj => by
  rw [blk_cell hb, Nat.zero_add]
  have hjl : j < xs.length := by
   have := (List.getElem?_eq_some_iff.1 hj).1
   simpa using this
  rw [← htk, List.getElem?_take, if_pos hjl] at hj
  rw [← hj]
  simp
 have hcell : ∀ j, j < cp → (w.cell? ⟨g, 0 + j, none⟩).isSome = true := fun j hj => by rw [blk_cell hb, Nat.zero_add]; simp [hsz, hj]
 refine (Any2.slices_Insert_int_end_grow Try.laysIns (some ⟨g, 0, none⟩) xs.length cp vb 0 1 1 (xs.map encI) [.int .i64 v] w (by decide) hc (by omega) (by omega) hcl rfl (fun e => by cases e) (fun a ha j u hj => by
   obtain rfl := Option.some.inj ha
   have := hcs j u hj
   rw [Addr.add_lit]
   exact this) hvs h1v).mono ?_
 rintro e w' ⟨rfl, rfl⟩
 have hge := grownCap_ge w (xs.length + 1) cp 3
 have hgm := grownCap_le_maxLen w (xs.length + 1) cp 3 (by unfold maxLen; omega)
 have hl2 : (xs ++ [v]).length = xs.length + 1 := by simp
 have hge2 : xs.length + 1 ≤ grownCap w (xs.length + 1) cp (Try.laysIns_ren.t 3) := hge
 have hgm2 : grownCap w (xs.length + 1) cp (Try.laysIns_ren.t 3) ≤ maxLen := hgm
 generalize grownCap w (xs.length + 1) cp (Try.laysIns_ren.t 3) = G at *
 refine out_new (cap := G) rfl (heap_alloc_new w.drew _) (below_alloc (below_drew1 (Below.refl _ _)) _) hbw hge2 hgm2 ?_ (by simp) ?_ (hfr _ (Nat.le_refl _))
 ·simp [hz]
  omega
 ·simp only [Array.toList_append]
  rw [List.take_append_of_le_length (by simp)]
  have e3 : (List.map encI xs ++ [Value.int IntKind.i64 v]) = (xs ++ [v]).map encI := by simp [encI]
  rw [e3, List.take_of_length_le (by simp)]
theorem insert_.calls (A : Option Addr) (cp base i : Nat) (ok : Nat → Prop) (xs : List Int) (v : Int) (vb : Nat) (w : World) (hR : (Kd.int .i64).R 3 w base ok (.slice A xs.length cp) xs) (hi : i ≤ xs.length) (hl : xs.length ≤ 1000000)
  (hv : w.heap[vb]? = some (.cells #[.int .i64 v] 3 (0, 0))) (hne : some vb ≠ (Value.slice A xs.length cp).ownBlock) (hbw : base ≤ w.heap.size) (hfr : ∀ k, w.heap.size ≤ k → ok k) :
  Calls Try.prog 24 #[.slice A xs.length cp, .int .i64 (i : Int), .slice (some ⟨vb, 0, none⟩) 1 1] w (InsOut base ok (.slice A xs.length cp) (xs.take i ++ v :: xs.drop i) w) := by
 rcases row_parts hR with ⟨rfl, rfl, rfl⟩ | ⟨g, cur, rfl, hg, hb, hc, hm, hsz, htk, hokg⟩
 ·obtain rfl : i = 0 := by simpa using hi
  exact insert_nil base ok v vb w hv hbw hfr
 ·have hvbg : vb ≠ g := fun e => hne (by rw [e]; rfl)
  by_cases hin : i < xs.length
  ·by_cases hroom : xs.length + 1 ≤ cp
   ·exact insert_shift base i ok xs v vb w hi hl hv hg hb hc hm hsz htk hokg hvbg hbw hfr hin hroom
   ·exact insert_grow base i ok xs v vb w hi hl hv hg hb hc hm hsz htk hokg hvbg hbw hfr hin hroom
  ·obtain rfl : i = xs.length := by omega
   have hys : xs.take xs.length ++ v :: xs.drop xs.length = xs ++ [v] := by simp
   rw [hys]
   by_cases hroom : xs.length + 1 ≤ cp
   ·exact insert_room base ok xs v vb w hl hv hg hb hc hm hsz htk hokg hvbg hbw hfr hroom
   ·exact insert_end base ok xs v vb w hl hv hg hb hc hm hsz htk hokg hvbg hbw hfr hroom
theorem grown_putRow {α : Type} [Inhabited α] {enc : α → Value} {w : World} {g q : Nat} {d : Array α} : w.grownBy (Sort.putRow enc (Sort.ahead w q) g 0 d) (some g) :=
 ⟨rfl, rfl, rfl, by simp [Sort.putRow, Sort.mapBlock, Sort.ahead], fun k hk hne => by
  have : g ≠ k := fun e => hne (by rw [e])
  simp [Sort.putRow, Sort.mapBlock, Sort.ahead, Array.getElem?_modify, this]⟩
theorem reps_inv {α : Type} {enc : α → Value} (xs : List α) (cs : List Value) (h : Reps (fun (x : α) (cs : List Value) => cs = [enc x]) 1 xs cs) : cs = xs.map enc := by
 apply List.ext_getElem (by simpa using h.1)
 intro j h1 h2
 have hj : j < xs.length := by simpa using h2
 have := h.2 j xs[j] (List.getElem?_eq_getElem hj)
 rw [Nat.mul_one, List.drop_eq_getElem_cons h1, List.take_succ_cons, List.take_zero] at this
 rw [List.getElem_map]
 exact (List.cons.inj this).1
theorem delete_.calls (A : Option Addr) (c base i : Nat) (ok : Nat → Prop) (ps : List Int) (w : World) (hR : (Kd.int .i64).R 3 w base ok (.slice A ps.length c) ps) (hi : i < ps.length) (hl : ps.length ≤ 1000000) :
  Calls Try.prog 30 #[.slice A ps.length c, .int .i64 (i : Int), .int .i64 (((i + 1 : Nat)) : Int)] w fun e w' => e = .returned (.slice A (ps.length - 1) c) ∧ (Kd.int .i64).R 3 w' base ok (.slice A (ps.length - 1) c) (ps.take i ++ ps.drop (i + 1)) ∧ w.grownBy w' (.slice A ps.length c : Value).ownBlock := by
 obtain ⟨hok, inner, ho, hre⟩ := hR
 have hin : inner = ps.map (Value.int .i64) := by
  exact reps_inv ps inner hre
 subst hin
 obtain ⟨g, cap, e, hb, hg, hc, hm, _, hH⟩ := Lib.holds_of_ownsRow (enc := Value.int .i64) ho (by intro e; injection e with _ e _; omega)
 injection e with e1 _ e3
 subst e1; subst e3
 refine (Try.slices_Delete_int g 0 c i (i + 1) ps w hH hc (by unfold maxLen at hm; omega) (by omega) (by omega)).mono ?_
 rintro e w' ⟨rfl, q, rfl⟩
 have hone : i + 1 - i = 1 := by omega
 rw [hone]
 have hlen : (ps.take i ++ ps.drop (i + 1) ++ List.replicate 1 0).length = ps.length := by simp; omega
 have hlen2 : (ps.take i ++ ps.drop (i + 1)).length = ps.length - 1 := by simp; omega
 have hup := Lib.ownsRow_putRow (q := q) (k := ps.length - 1) (ys := ps.take i ++ ps.drop (i + 1) ++ List.replicate 1 0) ho hlen (by omega)
 have ht : (ps.take i ++ ps.drop (i + 1) ++ List.replicate 1 0).take (ps.length - 1) = ps.take i ++ ps.drop (i + 1) := by
  rw [← hlen2]
  exact List.take_left
 rw [ht] at hup
 refine ⟨by first | rfl | (congr 2; omega), ?_, grown_putRow⟩
 have := Kd.R_of_own (enc := Value.int .i64) (h1 := fun _ => rfl) (ok := ok) (v := .slice (some ⟨g, 0, none⟩) (ps.length - 1) c) (xs := ps.take i ++ ps.drop (i + 1)) (by rw [hlen2]; exact hup) hok
 exact this


open Go.Proofs.Ytbmibakhpealjaa.TrieP Go.Proofs.Ytbmibakhpealjaa.Facts Go.Proofs.Ytbmibakhpealjaa.Bits
theorem at_P {w : World} {A : Option Addr} {n : Nat} {xs : List Nat} (h : kP.C w A n xs) (i : Int) (h0 : 0 ≤ i) (h1 : i < n) {g : Nat} (hg : xs[i.toNat]? = some g) : ∃ ad, A = some ad ∧ w.cell? (ad.add i.toNat) = some (.pointer (some ⟨g, 0, none⟩)) := by
 obtain ⟨ad, e, hc⟩ := ReadsOf.at_ (Kd.reads_of_C (enc := fun g => .pointer (some ⟨g, 0, none⟩)) (d := (0 : Nat)) (h1 := fun _ => rfl) h) i h0 h1
 refine ⟨ad, e, ?_⟩
 rw [hc]
 have : rdOf 0 xs i = g := by simp [rdOf, List.getD, hg]
 rw [this]
theorem wlen {n : Nat} (h : n ≤ 1000000) : IntKind.i64.wrap (((n + 1 : Nat) : Int) - 1) = (n : Int) := by
 rw [show ((n + 1 : Nat) : Int) - 1 = (n : Int) by omega]
 exact (i64_w _).trans (wrap64_id _ (by omega) (by omega))
theorem size24 : (Try.prog.info? 24).map (·.size) = some 1 := by kernel_rfl
theorem size3 : (Try.prog.info? 3).map (·.size) = some 1 := by kernel_rfl
theorem ncs0 {F : Nat → Nat → Option (List Int)} {B : Nat → Nat → Nat} {V : Nat → Nat → Value} {c : Int} {n : Nat} : (ncs F B V c 0 n).size = 4 := rfl
/-- The way, asked of a later world than the tree's; its last node. -/
theorem wayY_at {a Bt : Nat} (ha : a < 4294967296) (hb : Bt ≤ 32) {w wo w1 : World} {S : Nat → Prop} {tb : Nat} {F : Nat → Nat → Option (List Int)} {B : Nat → Nat → Nat} {V : Nat → Nat → Value} {c : Int} (h : Tr w wo S tb F B V c) (hb1 : Below wo.heap.size wo w1) :
  Calls Try.prog 22 #[.pointer (some ⟨tb, 0, none⟩), .agg #[.int .u32 (a : Int), .int .i64 (Bt : Int)], .bool true] w1 fun e w' => ∃ (A : Option Addr) (cp : Nat) (B2 : Nat → Nat → Nat) (V2 : Nat → Nat → Value), e = .returned (.slice A (Bt + 1) cp) ∧ Tr w w' (fun k => S k ∨ wo.heap.size ≤ k) tb (Fw F a Bt) B2 V2 c ∧ Kept wo w' S ∧ kP.C w' A (Bt + 1) (wayL B2 a Bt) ∧ (∀ k, w1.heap.size ≤ k → wo.heap.size ≤ k) := by
 refine (wayY_.calls a Bt ha hb w w1 S tb F B V c (h.below hb1)).mono ?_
 rintro e w' ⟨v, B2, V2, rfl, ht, hk, ho⟩
 obtain ⟨A, cp, rfl, hle, hC⟩ := Kd.R_reads ho
 rw [wayL_len] at hC
 refine ⟨A, cp, B2, V2, by rw [wayL_len], ht.mono (fun k hk => hk.imp id (fun hk => Nat.le_trans hb1.size hk)), (Kept.of_below hb1 S).then_ hk (fun k hk => .inl hk), hC, fun k hk => Nat.le_trans hb1.size hk⟩
/-- A node's values, read. -/
theorem Tr.vals {w wr : World} {S : Nat → Prop} {tb : Nat} {F : Nat → Nat → Option (List Int)} {B : Nat → Nat → Nat} {V : Nat → Nat → Value} {c : Int} (h : Tr w wr S tb F B V c) {b n : Nat} {vs : List Int} (hf : F b n = some vs) :
  ∃ A cp, V b n = .slice A vs.length cp ∧ vs.length ≤ cp ∧ (Kd.int .i64).C wr A vs.length vs ∧ wr.cell? ⟨B b n, 0, none⟩ = some (.slice A vs.length cp) := by
 obtain ⟨A, cp, e, hle, hC⟩ := Kd.R_reads (h.row b n vs hf)
 exact ⟨A, cp, e, hle, hC, by rw [← e]; exact h.c0 hf⟩
theorem Tr.rootBlk {w wr : World} {S : Nat → Prop} {tb : Nat} {F : Nat → Nat → Option (List Int)} {B : Nat → Nat → Nat} {V : Nat → Nat → Value} {c : Int} (h : Tr w wr S tb F B V c) : ∃ cs : Array Value, wr.heap[tb]? = some (.cells cs 30 (0, 0)) ∧ 3 + 1 ≤ cs.size ∧ (S tb ∧ w.heap.size ≤ tb) := by
 obtain ⟨vs, hf⟩ := h.root
 exact ⟨_, by rw [← h.b0]; exact h.nod 0 0 vs hf, Nat.le_of_eq ncs0.symm, by rw [← h.b0]; exact h.sb 0 0 vs hf⟩
/-- slices.Insert at a node's values, and the store of what comes. -/
theorem Tr.insert_ {w w2 : World} {S : Nat → Prop} {tb : Nat} {F : Nat → Nat → Option (List Int)} {B : Nat → Nat → Nat} {V : Nat → Nat → Value} {c : Int} (ht : Tr w w2 S tb F B V c) {b n : Nat} {vs : List Int} (hf : F b n = some vs) {A : Option Addr} {cp : Nat} (hV : V b n = .slice A vs.length cp) {i : Nat} (hi : i ≤ vs.length) (hl : vs.length ≤ 1000) (x : Int) (nd : Nat) :
  Calls Try.prog 24 #[.slice A vs.length cp, .int .i64 (i : Int), .slice (some ⟨w2.heap.size, 0, none⟩) 1 1] ((w2.drewN nd).alloc (.cells #[.int .i64 x] 3)) fun e w' => ∃ (A' : Option Addr) (n' c' : Nat), e = .returned (.slice A' n' c') ∧
   (∀ b' n' vs', F b' n' = some vs' → w'.heap[B b' n']? = some (.cells (ncs F B V c b' n') (nty b') (0, 0))) ∧ Kept w2 w' (fun k => S k) ∧
   Tr w (w'.setCell ⟨B b n, 0, none⟩ (.slice A' n' c')) (fun k => S k ∨ w2.heap.size ≤ k) tb (upd2 F b n (some (vs.take i ++ x :: vs.drop i))) B (upd2 V b n (.slice A' n' c')) c := by
 have hb : Below w2.heap.size w2 ((w2.drewN nd).alloc (.cells #[.int .i64 x] 3)) := below_alloc (pw_below_drewN (Below.refl _ _) nd) _
 have ht' := ht.below hb
 have hsz : ((w2.drewN nd).alloc (.cells #[.int .i64 x] 3)).heap.size = w2.heap.size + 1 := by simp [World.alloc, World.drewN]
 have hbx : ((w2.drewN nd).alloc (.cells #[.int .i64 x] 3)).heap[w2.heap.size]? = some (.cells #[.int .i64 x] 3 (0, 0)) := heap_alloc_new (w2.drewN nd) _
 refine (insert_.calls A cp w.heap.size i (fun k => some k = (V b n).ownBlock ∨ w2.heap.size ≤ k) vs x w2.heap.size _ (by rw [← hV]; exact Kd.R_mono (ht'.row b n vs hf) (fun k hk => .inl hk)) hi (by omega) hbx (fun e => by rw [← hV] at e; exact Nat.lt_irrefl _ (ht.vlt hf _ e)) (Nat.le_trans ht.bl.size (by rw [hsz]; omega)) (fun k hk => .inr (by rw [hsz] at hk; omega))).mono ?_
 rintro e w' ⟨v', rfl, hR, ho, hk, hbel⟩
 obtain ⟨A', c', rfl⟩ := Kd.R_slice hR
 rw [← hV] at ho hk
 have hk2 : Kept w2 w' (fun k => S k) := (Kept.of_below hb _).then_ hk (fun k h => .inl (ht.sv b n vs hf k h))
 refine ⟨A', _, c', rfl, fun b' n' vs' hf' => blk_kept (ht'.nod b' n' vs' hf') hk (Kd.R_ne (ht'.row b n vs hf) (ht'.nod b' n' vs' hf') (nty_ne b')), hk2, ?_⟩
 exact (ht'.setVals hf hk (hbel w ht'.bl (Nat.le_refl _)) (R_tight hR) ho).mono (fun k h => h.imp id (fun h => by rw [hsz] at h; omega))
set_option maxHeartbeats 8000000 in
set_option maxRecDepth 100000 in
theorem add_there (a Bt : Nat) (x : Int) (ha : a < 4294967296) (hb : Bt ≤ 32) (hr : a % 2 ^ (32 - Bt) = 0) (w wo : World) (S : Nat → Prop) (tb : Nat) (F : Nat → Nat → Option (List Int)) (B : Nat → Nat → Nat) (V : Nat → Nat → Value) (c : Int) (h : Tr w wo S tb F B V c) (vs : List Int) (hvs : Fw F a Bt Bt (nk a Bt) = some vs) (hs : vs.Pairwise (· < ·)) (hl : vs.length ≤ 1000) (hx : x ∈ vs) :
  Calls Try.prog 8 #[.pointer (some ⟨tb, 0, none⟩), .agg #[.int .u32 (a : Int), .int .i64 (Bt : Int)], .int .i64 x] wo fun e w' => ∃ (B2 : Nat → Nat → Nat) (V2 : Nat → Nat → Value), e = .returned (.int .i64 4) ∧ Tr w w' (fun k => S k ∨ wo.heap.size ≤ k) tb (Fw F a Bt) B2 V2 c ∧ Kept wo w' S := by
 have B0 := Aside0.mk (Below.refl wo.heap.size wo)
 have HT0 := Aside0.mk h
 have A1 := Aside0.mk ha
 have A2 := Aside0.mk hb
 have HV := Aside0.mk hvs
 have HL := Aside0.mk hl
 have HX := Aside0.mk hx
 have HTB := Aside0.mk (show S tb ∨ wo.heap.size ≤ tb from .inl h.rootBlk.choose_spec.2.2.1)
 obtain ⟨i, hi0, hins, hmem, k, hev⟩ := search_ev hl hs x
 have HI0 := Aside0.mk hi0
 have HINS := Aside0.mk hins
 have HRT := Aside0.mk (show cidr_Right.f (a : Int) (Bt : Int) = some true from (tright_eq (by omega) (by omega)).trans (congrArg some (rt_right hb hr)))
 have HEV := Aside0.mk (hev k (Nat.le_refl _))
 rw [show decide (x ∈ vs) = true from decide_eq_true hx] at HEV
 clear hi0 hins hmem hev h ha hb hr hvs hs hl hx
 go_enter Try.func8, Try.ntmps8
 go_wp2_with (first
  | ((with_reducible refine gate_dst (N := 4) rfl ?_); refine box_event ?hg (N := 4) ?hd (cs := #[.int .u32 (a : Int), .int .i64 (Bt : Int)]) (t := 33) ?hr ?_; (case hd => rfl); (case hg => rfl); (case hr => first | (go_simp; done) | (go_simp; rfl)); intro gp hgx wx hbox hb; have PB := Aside0.mk hbox; have B1 := Aside0.mk hb; have z0 : wx.cell? ⟨gp, 0, none⟩ = some (.int .u32 (a : Int)) := (blk_cell hbox 0).trans rfl; have z1 : wx.cell? ⟨gp, 1, none⟩ = some (.int .i64 (Bt : Int)) := (blk_cell hbox 1).trans rfl; clear hgx hbox hb)
  | (go_at_call 21; (with_reducible refine (cidr_Right.calls _ _ _ _ HRT.out).mono ?_); rintro e w1 ⟨rfl, hz⟩; have B2 := Aside0.mk (below_step B1.out hz); have PB2 := Aside0.mk (blk_below PB.out hz); clear z0 z1 hz; have z0 : w1.cell? ⟨gp, 0, none⟩ = some (.int .u32 (a : Int)) := (blk_cell PB2.out 0).trans rfl; have z1 : w1.cell? ⟨gp, 1, none⟩ = some (.int .i64 (Bt : Int)) := (blk_cell PB2.out 1).trans rfl)
  | (go_at_call 22; (with_reducible refine (wayY_at A1.out A2.out HT0.out (by repeat (first | exact B2.out | apply pw_below_drewN | apply below_drew1))).mono ?_); rintro e w2 ⟨A0, c0, B2', V2, rfl, ht, hk, hC, hfr⟩; clear z0 z1; have HT := Aside0.mk ht; have HK := Aside0.mk hk; obtain ⟨ji, hj⟩ : ∃ j : Int, j = (Bt : Int) := ⟨_, rfl⟩; have hji : wrap64 (Bt : Int) = ji := (by rw [hj]; exact wrap64_id _ (by have := A2.out; omega) (by have := A2.out; omega)); have p : 0 ≤ ji := (by omega); have q : ji < ((Bt + 1 : Nat) : Int) := (by omega); obtain ⟨ad, ee, hx⟩ := at_P hC ji p q (g := B2' Bt (nk a Bt)) (by rw [hj]; exact (List.getElem?_eq_getElem (by rw [wayL_len]; exact Nat.lt_succ_self _)).trans (congrArg some (wayL_get B2' a (Nat.le_refl _)))); cases ee; obtain ⟨A1', c1, hV2, hle, hCV, hz0⟩ := ht.vals HV.out; have HV2 := Aside0.mk hV2; have HLE := Aside0.mk hle; have HCV := Aside0.mk hCV; replace p := eq_true p; replace q := eq_true (show ji < (Bt : Int) + 1 from by omega); clear ht hk hC hfr hj hV2 hle hCV)
  | (go_at_call 23; (with_reducible refine (slices_BinarySearch_int_int.calls k A1' c1 vs x (i : Int) _ _ (by exact HCV.out) HLE.out HEV.out).mono ?_); rintro e w3 ⟨rfl, ⟨nd, rfl⟩⟩)
  )
 go_ret
 exact ⟨B2', V2, rfl, HT.out.below (by repeat (first | exact Below.refl _ _ | apply pw_below_drewN | apply below_drew1)), HK.out.below (by repeat (first | exact Below.refl _ _ | apply pw_below_drewN | apply below_drew1))⟩
set_option maxHeartbeats 8000000 in
set_option maxRecDepth 100000 in
theorem add_new (a Bt : Nat) (x : Int) (ha : a < 4294967296) (hb : Bt ≤ 32) (hr : a % 2 ^ (32 - Bt) = 0) (w wo : World) (S : Nat → Prop) (tb : Nat) (F : Nat → Nat → Option (List Int)) (B : Nat → Nat → Nat) (V : Nat → Nat → Value) (c : Int) (h : Tr w wo S tb F B V c) (vs : List Int) (hvs : Fw F a Bt Bt (nk a Bt) = some vs) (hs : vs.Pairwise (· < ·)) (hl : vs.length ≤ 1000) (hx : x ∉ vs) (hc0 : 0 ≤ c) (hc1 : c ≤ 1000000) :
  Calls Try.prog 8 #[.pointer (some ⟨tb, 0, none⟩), .agg #[.int .u32 (a : Int), .int .i64 (Bt : Int)], .int .i64 x] wo fun e w' => ∃ (B2 : Nat → Nat → Nat) (V2 : Nat → Nat → Value), e = .returned (.int .i64 0) ∧ Tr w w' (fun k => S k ∨ wo.heap.size ≤ k) tb (upd2 (Fw F a Bt) Bt (nk a Bt) (some (insI x vs))) B2 V2 (c + 1) ∧ Kept wo w' S := by
 have B0 := Aside0.mk (Below.refl wo.heap.size wo)
 have HT0 := Aside0.mk h
 have A1 := Aside0.mk ha
 have A2 := Aside0.mk hb
 have HV := Aside0.mk hvs
 have HL := Aside0.mk hl
 have HX := Aside0.mk hx
 have HTB := Aside0.mk (show S tb ∨ wo.heap.size ≤ tb from .inl h.rootBlk.choose_spec.2.2.1)
 obtain ⟨i, hi0, hins, hmem, k, hev⟩ := search_ev hl hs x
 have HI0 := Aside0.mk hi0
 have HINS := Aside0.mk hins
 have HRT := Aside0.mk (show cidr_Right.f (a : Int) (Bt : Int) = some true from (tright_eq (by omega) (by omega)).trans (congrArg some (rt_right hb hr)))
 have HEV := Aside0.mk (hev k (Nat.le_refl _))
 rw [show decide (x ∈ vs) = false from decide_eq_false hx] at HEV
 have HC0 := Aside0.mk hc0
 have HC1 := Aside0.mk hc1
 have hcs : wrap64 (c + 1) = c + 1 := wrap64_id _ (by omega) (by omega)
 clear hi0 hins hmem hev h ha hb hr hvs hs hl hx hc0 hc1
 go_enter Try.func8, Try.ntmps8
 go_wp2_with (first
  | ((with_reducible refine gate_dst (N := 4) rfl ?_); refine box_event ?hg (N := 4) ?hd (cs := #[.int .u32 (a : Int), .int .i64 (Bt : Int)]) (t := 33) ?hr ?_; (case hd => rfl); (case hg => rfl); (case hr => first | (go_simp; done) | (go_simp; rfl)); intro gp hgx wx hbox hb; have PB := Aside0.mk hbox; have B1 := Aside0.mk hb; have z0 : wx.cell? ⟨gp, 0, none⟩ = some (.int .u32 (a : Int)) := (blk_cell hbox 0).trans rfl; have z1 : wx.cell? ⟨gp, 1, none⟩ = some (.int .i64 (Bt : Int)) := (blk_cell hbox 1).trans rfl; clear hgx hbox hb)
  | (go_at_call 21; (with_reducible refine (cidr_Right.calls _ _ _ _ HRT.out).mono ?_); rintro e w1 ⟨rfl, hz⟩; have B2 := Aside0.mk (below_step B1.out hz); have PB2 := Aside0.mk (blk_below PB.out hz); clear z0 z1 hz; have z0 : w1.cell? ⟨gp, 0, none⟩ = some (.int .u32 (a : Int)) := (blk_cell PB2.out 0).trans rfl; have z1 : w1.cell? ⟨gp, 1, none⟩ = some (.int .i64 (Bt : Int)) := (blk_cell PB2.out 1).trans rfl)
  | (go_at_call 22; (with_reducible refine (wayY_at A1.out A2.out HT0.out (by repeat (first | exact B2.out | apply pw_below_drewN | apply below_drew1))).mono ?_); rintro e w2 ⟨A0, c0, B2', V2, rfl, ht, hk, hC, hfr⟩; clear z0 z1; have HT := Aside0.mk ht; have HK := Aside0.mk hk; obtain ⟨ji, hj⟩ : ∃ j : Int, j = (Bt : Int) := ⟨_, rfl⟩; have hji : wrap64 (Bt : Int) = ji := (by rw [hj]; exact wrap64_id _ (by have := A2.out; omega) (by have := A2.out; omega)); have p : 0 ≤ ji := (by omega); have q : ji < ((Bt + 1 : Nat) : Int) := (by omega); obtain ⟨ad, ee, hx⟩ := at_P hC ji p q (g := B2' Bt (nk a Bt)) (by rw [hj]; exact (List.getElem?_eq_getElem (by rw [wayL_len]; exact Nat.lt_succ_self _)).trans (congrArg some (wayL_get B2' a (Nat.le_refl _)))); cases ee; obtain ⟨A1', c1, hV2, hle, hCV, hz0⟩ := ht.vals HV.out; have HV2 := Aside0.mk hV2; have HLE := Aside0.mk hle; have HCV := Aside0.mk hCV; replace p := eq_true p; replace q := eq_true (show ji < (Bt : Int) + 1 from by omega); clear ht hk hC hfr hj hV2 hle hCV)
  | (go_at_call 23; (with_reducible refine (slices_BinarySearch_int_int.calls k A1' c1 vs x (i : Int) _ _ (by exact HCV.out) HLE.out HEV.out).mono ?_); rintro e w3 ⟨rfl, ⟨nd, rfl⟩⟩)
  | (go_at_call 24; (with_reducible refine (HT.out.insert_ HV.out HV2.out HI0.out HL.out x _).mono ?_); rintro e w5 ⟨A5, n5, c5, rfl, hn5, hk5, ht5⟩; have T5 := Aside0.mk ht5; have N5 := Aside0.mk hn5; have K5 := Aside0.mk hk5; clear hn5 hk5 ht5)
  | ((with_reducible refine gate_ (.store 24 (.tmp 47) (.tmp 45)) rfl ?_); refine Hand.wpList_store_one rfl rfl 24 (.tmp 47) (.tmp 45) rfl (.slice A5 n5 c5) rfl rfl (N5.out _ _ _ HV.out) rfl size24 (Nat.le_trans (by decide) (ncs_size _ _ _ _ _ _)) rfl (fun w6 hw6 => ?_); have T6 := Aside0.mk (show Tr w w6 _ tb _ _ _ c by rw [hw6]; exact T5.out); have K6 := Aside0.mk (show Kept wo w6 S by rw [hw6]; exact (HK.out.then_ K5.out (fun k hk => hk)).setCell (p := ⟨B2' Bt (nk a Bt), 0, none⟩) (HT.out.sb _ _ _ HV.out).1 _); clear hw6 hz0 hx; have hcnt := T6.out.cnt)
  | ((with_reducible refine gate_ (.store 3 (.tmp 54) (.tmp 52)) rfl ?_); obtain ⟨cs, hcs1, hcs2, hcs3⟩ := T6.out.rootBlk; refine Hand.wpList_store_one rfl rfl 3 (.tmp 54) (.tmp 52) rfl (.int .i64 (c + 1)) rfl (by first | rfl | exact congrArg (Value.int .i64) hcs) hcs1 rfl size3 hcs2 rfl (fun w7 hw7 => ?_); have T7 := Aside0.mk (show Tr w w7 _ tb _ _ _ (c + 1) by rw [hw7]; exact T6.out.setCnt (c + 1)); have K7 := Aside0.mk (show Kept wo w7 S by rw [hw7]; exact K6.out.setCell (p := ⟨tb, 3, none⟩) HTB.out _); clear hw7 hcnt hcs1 hcs2 hcs3)
  )
 go_ret
 have T8 := T7.out.mono (T := fun k => S k ∨ wo.heap.size ≤ k) (fun k hk => hk.elim id (fun hk => .inr (Nat.le_trans HK.out.1 hk)))
 rw [← HINS.out] at T8
 exact ⟨B2', _, rfl, T8, K7.out⟩


open Go.Proofs.Ytbmibakhpealjaa.TrieP Go.Proofs.Ytbmibakhpealjaa.Facts Go.Proofs.Ytbmibakhpealjaa.Bits
/-! ### A tree that holds a list of entries -/
structure TrL (w wr : World) (S : Nat → Prop) (tb : Nat) (l : List En) : Prop where
 tr : ∃ (B : Nat → Nat → Nat) (V : Nat → Nat → Value), Tr w wr S tb (X l) B V (l.length : Int)
 srt : Srt l
 rts : Rts l
section
variable {w wr w1 : World} {S T : Nat → Prop} {tb : Nat} {l : List En}
theorem TrL.below (h : TrL w wr S tb l) (hb : Below wr.heap.size wr w1) : TrL w w1 S tb l := by
 obtain ⟨⟨B, V, ht⟩, hs, hr⟩ := h
 exact ⟨⟨B, V, ht.below hb⟩, hs, hr⟩
theorem TrL.mono (h : TrL w wr S tb l) (hs : ∀ k, S k → T k) : TrL w wr T tb l := by
 obtain ⟨⟨B, V, ht⟩, h1, hr⟩ := h
 exact ⟨⟨B, V, ht.mono hs⟩, h1, hr⟩
theorem TrL.kept (h : TrL w wr S tb l) (hk : Kept wr w1 T) (hn : ∀ k, S k → ¬ T k) (hb : Below w.heap.size w w1) : TrL w w1 S tb l := by
 obtain ⟨⟨B, V, ht⟩, h1, hr⟩ := h
 exact ⟨⟨B, V, ht.kept hk hn hb⟩, h1, hr⟩
theorem TrL.bound (h : TrL w wr S tb l) : TrL w wr (fun k => S k ∧ k < wr.heap.size) tb l := by
 obtain ⟨⟨B, V, ht⟩, h1, hr⟩ := h
 exact ⟨⟨B, V, ht.bound⟩, h1, hr⟩
theorem TrL.bl (h : TrL w wr S tb l) : Below w.heap.size w wr := by
 obtain ⟨⟨B, V, ht⟩, h1, hr⟩ := h
 exact ht.bl
theorem TrL.has (h : TrL w wr S tb l) : S tb ∧ w.heap.size ≤ tb := by
 obtain ⟨⟨B, V, ht⟩, h1, hr⟩ := h
 exact ht.rootBlk.choose_spec.2.2
end
theorem Fw_X {l : List En} {e : En} (he : e ∈ l) : Fw (X l) e.a e.b = X l := by
 funext b n
 unfold Fw
 rw [if_neg]
 rintro ⟨⟨h1, rfl⟩, h3⟩
 exact X_way he h1 h3
theorem Fw_X_ins {l : List En} {e : En} (hs : Srt l) (hr : Rts l) (he : rt e) (hn : e ∉ l) : upd2 (Fw (X l) e.a e.b) e.b (nk e.a e.b) (some (insI e.v ((l.filter (atN e.b (nk e.a e.b))).map En.v))) = X (ins e l) := by
 funext b n
 rw [X_ins hs hr he hn]
 by_cases h1 : b = e.b ∧ n = nk e.a e.b
 ·rw [if_pos h1, h1.1, h1.2, upd2_same, X_vals]
 ·rw [if_neg h1, upd2_ne _ _ h1]
  rfl
theorem Fw_vals (l : List En) (a b : Nat) : Fw (X l) a b b (nk a b) = some ((l.filter (atN b (nk a b))).map En.v) := by
 unfold Fw
 by_cases h : X l b (nk a b) = none
 ·rw [if_pos ⟨⟨Nat.le_refl _, rfl⟩, h⟩, ← X_vals, h]; rfl
 ·rw [if_neg (fun k => h k.2), X_get h]
theorem mem_vals {l : List En} (hr : Rts l) {e : En} (he : rt e) : e.v ∈ (l.filter (atN e.b (nk e.a e.b))).map En.v ↔ e ∈ l := by
 constructor
 ·intro h
  obtain ⟨x, hx, hv⟩ := List.mem_map.1 h
  obtain ⟨h1, h2⟩ := List.mem_filter.1 hx
  have e1 := at_addr h2 (hr x h1)
  have e2 := at_addr (atN_iff.2 ⟨rfl, rfl⟩ : atN e.b (nk e.a e.b) e = true) he
  rw [hv] at e1
  rw [← e2] at e1
  rw [← e1]
  exact h1
 ·intro h
  exact List.mem_map.2 ⟨e, List.mem_filter.2 ⟨h, atN_iff.2 ⟨rfl, rfl⟩⟩, rfl⟩
def addL (l : List En) (a : Nat) (b x : Int) : Int × List En := if rightB a b = true then (if (⟨a, b.toNat, x⟩ : En) ∈ l then (4, l) else (0, ins ⟨a, b.toNat, x⟩ l)) else (13, l)
theorem addL_len (l : List En) (a : Nat) (b x : Int) : (addL l a b x).2.length ≤ l.length + 1 := by
 unfold addL
 split
 ·split
  ·exact Nat.le_succ _
  ·exact Nat.le_of_eq ins_len
 ·exact Nat.le_succ _
set_option maxHeartbeats 8000000 in
set_option maxRecDepth 100000 in
theorem add_bad (a : Nat) (b x : Int) (ha : a < 4294967296) (hr : rightB a b = false) (wo : World) (tb : Nat) :
  Calls Try.prog 8 #[.pointer (some ⟨tb, 0, none⟩), .agg #[.int .u32 (a : Int), .int .i64 b], .int .i64 x] wo fun e w' => e = .returned (.int .i64 13) ∧ Below wo.heap.size wo w' := by
 have B0 := Aside0.mk (Below.refl wo.heap.size wo)
 have HRT := Aside0.mk (show cidr_Right.f (a : Int) b = some false from (tright_eq (by omega) (by omega)).trans (congrArg some hr))
 clear ha hr
 go_enter Try.func8, Try.ntmps8
 go_wp2_with (first
  | ((with_reducible refine gate_dst (N := 4) rfl ?_); refine box_event ?hg (N := 4) ?hd (cs := #[.int .u32 (a : Int), .int .i64 b]) (t := 33) ?hr ?_; (case hd => rfl); (case hg => rfl); (case hr => first | (go_simp; done) | (go_simp; rfl)); intro gp hgx wx hbox hb; have PB := Aside0.mk hbox; have B1 := Aside0.mk hb; have z0 : wx.cell? ⟨gp, 0, none⟩ = some (.int .u32 (a : Int)) := (blk_cell hbox 0).trans rfl; have z1 : wx.cell? ⟨gp, 1, none⟩ = some (.int .i64 b) := (blk_cell hbox 1).trans rfl; clear hgx hbox hb)
  | (go_at_call 21; (with_reducible refine (cidr_Right.calls _ _ _ _ HRT.out).mono ?_); rintro e w1 ⟨rfl, hz⟩; have B2 := Aside0.mk (below_step B1.out hz); have PB2 := Aside0.mk (blk_below PB.out hz); clear z0 z1 hz))
 go_ret
 exact ⟨rfl, by repeat (first | exact B2.out | apply pw_below_drewN | apply below_drew1)⟩
theorem add_.calls {w wo : World} {S : Nat → Prop} {tb : Nat} {l : List En} (h : TrL w wo S tb l) (hl : l.length ≤ 1000) (a : Nat) (ha : a < 4294967296) (b x : Int) :
  Calls Try.prog 8 #[.pointer (some ⟨tb, 0, none⟩), .agg #[.int .u32 (a : Int), .int .i64 b], .int .i64 x] wo fun e w' => e = .returned (.int .i64 (addL l a b x).1) ∧ TrL w w' (fun k => S k ∨ wo.heap.size ≤ k) tb (addL l a b x).2 ∧ Kept wo w' S := by
 unfold addL
 cases hrb : rightB a b with
 | false =>
  refine (add_bad a b x ha hrb wo tb).mono ?_
  rintro e w' ⟨rfl, hb⟩
  rw [if_neg (by decide)]
  exact ⟨rfl, (h.below hb).mono (fun _ hk => .inl hk), Kept.of_below hb S⟩
 | true =>
  obtain ⟨n, rfl, hn, hz⟩ := right_rt hrb
  obtain ⟨⟨B, V, ht⟩, hs, hr⟩ := h
  have he : rt ⟨a, n, x⟩ := ⟨hn, ha, hz⟩
  have hvs := vals_srt hs hr n (nk a n)
  have hvl : ((l.filter (atN n (nk a n))).map En.v).length ≤ 1000 := by
   rw [List.length_map]
   exact Nat.le_trans (List.length_filter_le _ _) hl
  have hmem := mem_vals hr he
  rw [if_pos rfl, Int.toNat_natCast]
  by_cases hx : (⟨a, n, x⟩ : En) ∈ l
  ·rw [if_pos hx]
   refine (add_there a n x ha hn hz w wo S tb (X l) B V _ ht _ (Fw_vals l a n) hvs hvl (hmem.2 hx)).mono ?_
   rintro e w' ⟨B2, V2, rfl, h2, hk⟩
   rw [Fw_X hx] at h2
   exact ⟨rfl, ⟨⟨B2, V2, h2⟩, hs, hr⟩, hk⟩
  ·rw [if_neg hx]
   refine (add_new a n x ha hn hz w wo S tb (X l) B V _ ht _ (Fw_vals l a n) hvs hvl (fun k => hx (hmem.1 k)) (by omega) (by omega)).mono ?_
   rintro e w' ⟨B2, V2, rfl, h2, hk⟩
   rw [Fw_X_ins hs hr he hx] at h2
   refine ⟨rfl, ⟨⟨B2, V2, ?_⟩, ins_srt hs hx, fun y hy => (mem_ins.1 hy).elim (fun e => e ▸ he) (hr y)⟩, hk⟩
   rw [ins_len]
   exact h2


open Go.Proofs.Ytbmibakhpealjaa.TrieP Go.Proofs.Ytbmibakhpealjaa.Facts Go.Proofs.Ytbmibakhpealjaa.Bits
theorem info42 : (Try.prog.info? 42).map (fun i => (i.zero, i.size, i.bytes)) = some (some (.agg #[(.int .u32 0), (.int .i64 0), (.int .i64 0)]), 3, 24) := by kernel_rfl
def eS (i n : Nat) (v : Int) : S42 := ⟨⟨((n * 2 ^ (32 - i) : Nat) : Int), (i : Int)⟩, v⟩
def accF (F : Nat → Nat → Option (List Int)) (a : Nat) : Nat → List S42
 | 0 => []
 | i + 1 => accF F a i ++ ((F i (nk a i)).getD []).map (eS i (nk a i))
theorem accF_len {F : Nat → Nat → Option (List Int)} (hF : ∀ b n vs, F b n = some vs → vs.length ≤ 1000) (a : Nat) : ∀ i, (accF F a i).length ≤ i * 1000
 | 0 => Nat.le_refl _
 | i + 1 => by
  rw [accF, List.length_append, List.length_map]
  have h1 := accF_len hF a i
  have h2 : ((F i (nk a i)).getD []).length ≤ 1000 := by
   cases h : F i (nk a i) with
   | none => exact Nat.zero_le _
   | some vs => exact hF _ _ _ h
  omega
theorem take_rd {vs : List Int} {j : Nat} (hj : j < vs.length) (f : Int → S42) (acc : List S42) : acc ++ (vs.take j).map f ++ [f (rd vs (j : Int))] = acc ++ (vs.take (j + 1)).map f := by
 rw [List.take_succ_eq_append_getElem hj, List.map_append, List.append_assoc, rd_at hj]
 rfl
theorem Tr.valsC {w wr : World} {S : Nat → Prop} {tb : Nat} {F : Nat → Nat → Option (List Int)} {B : Nat → Nat → Nat} {V : Nat → Nat → Value} {c : Int} (h : Tr w wr S tb F B V c) {b n : Nat} {vs : List Int} (hf : F b n = some vs) {A : Option Addr} {cp : Nat} (hV : V b n = .slice A vs.length cp) : (Kd.int .i64).C wr A vs.length vs := by
 have h1 := h.row b n vs hf
 rw [hV] at h1
 exact (Kd.R_reads' h1).2.2
/-- The way, not made, asked of a later world than the tree's. -/
theorem wayN_at {a Bt : Nat} (ha : a < 4294967296) (hb : Bt ≤ 32) {w wo w1 : World} {S : Nat → Prop} {tb : Nat} {F : Nat → Nat → Option (List Int)} {B : Nat → Nat → Nat} {V : Nat → Nat → Value} {c : Int} (h : Tr w wo S tb F B V c) (hb1 : Below wo.heap.size wo w1) :
  Calls Try.prog 22 #[.pointer (some ⟨tb, 0, none⟩), .agg #[.int .u32 (a : Int), .int .i64 (Bt : Int)], .bool false] w1 fun e w' => ∃ (A : Option Addr) (cp m : Nat), e = .returned (.slice A (m + 1) cp) ∧ m ≤ Bt ∧ (∀ j, j ≤ m → F j (nk a j) ≠ none) ∧ (m < Bt → F (m + 1) (nk a (m + 1)) = none) ∧ kP.C w' A (m + 1) (wayL B a m) ∧ Below wo.heap.size wo w' := by
 refine (wayN_.calls a Bt ha hb w w1 S tb F B V c (h.below hb1)).mono ?_
 rintro e w' ⟨v, m, rfl, h1, h2, h3, ho, hb2⟩
 obtain ⟨A, cp, rfl, hle, hC⟩ := Kd.R_reads ho
 rw [wayL_len] at hC
 exact ⟨A, cp, m, by rw [wayL_len], h1, h2, h3, hC, below_step hb1 hb2⟩
theorem wayN_32 {a : Nat} (ha : a < 4294967296) {w wo w1 : World} {S : Nat → Prop} {tb : Nat} {F : Nat → Nat → Option (List Int)} {B : Nat → Nat → Nat} {V : Nat → Nat → Value} {c : Int} (h : Tr w wo S tb F B V c) (hb1 : Below wo.heap.size wo w1) :
  Calls Try.prog 22 #[.pointer (some ⟨tb, 0, none⟩), .agg #[.int .u32 (a : Int), .int .i64 32], .bool false] w1 fun e w' => ∃ (A : Option Addr) (cp m : Nat), e = .returned (.slice A (m + 1) cp) ∧ m ≤ 32 ∧ (∀ j, j ≤ m → F j (nk a j) ≠ none) ∧ (m < 32 → F (m + 1) (nk a (m + 1)) = none) ∧ kP.C w' A (m + 1) (wayL B a m) ∧ Below wo.heap.size wo w' :=
 wayN_at ha (Nat.le_refl 32) h hb1
set_option maxHeartbeats 8000000 in
set_option maxRecDepth 100000 in
theorem of_walk (a : Nat) (ha : a < 4294967296) (w wo : World) (S : Nat → Prop) (tb : Nat) (F : Nat → Nat → Option (List Int)) (B : Nat → Nat → Nat) (V : Nat → Nat → Value) (c : Int) (h : Tr w wo S tb F B V c) (hF : ∀ b n vs, F b n = some vs → vs.length ≤ 1000) :
  Calls Try.prog 11 #[.pointer (some ⟨tb, 0, none⟩), .int .u32 (a : Int)] wo fun e w' => ∃ (v : Value) (m : Nat), e = .returned v ∧ m ≤ 32 ∧ (∀ j, j ≤ m → F j (nk a j) ≠ none) ∧ (m < 32 → F (m + 1) (nk a (m + 1)) = none) ∧ Kd.R k42 42 w' wo.heap.size (fun _ => True) v (accF F a (m + 1)) ∧ Below wo.heap.size wo w' := by
 have B0 := Aside0.mk (Below.refl wo.heap.size wo)
 have HT0 := Aside0.mk h
 have A1 := Aside0.mk ha
 have HF := Aside0.mk hF
 clear h ha hF
 go_enter Try.func11, Try.ntmps11
 go_wp2_with (first
  | (go_at_call 22; (with_reducible refine (wayN_32 A1.out HT0.out (by repeat (first | exact B0.out | apply pw_below_drewN | apply below_drew1))).mono ?_); rintro e w2 ⟨A0, c0, m, rfl, h1, h2, h3, hC, hb⟩; have M1 := Aside0.mk h1; have M2 := Aside0.mk h2; have M3 := Aside0.mk h3; have HC := Aside0.mk hC; have B2 := Aside0.mk hb; clear h1 h2 h3 hC hb))
 go_loopg [5, 17] (m + 1) (fun kq v5 v17 wl => ∃ (i : Nat) (ji : Int), i + kq = m + 1 ∧ v17 = .int .i64 ji ∧ Aside0 (ji = (i : Int)) ∧ Aside0 (Kd.R k42 42 wl w2.heap.size (fun _ => True) v5 (accF F a i)) ∧ Aside0 (Below w2.heap.size w2 wl))
 case atStart => exact ⟨0, 0, by omega, rfl, ⟨rfl⟩, ⟨Kd.R_nil _ _ _ _ _⟩, ⟨Below.refl _ _⟩⟩
 case round =>
  obtain ⟨i, ji, hi, rfl, HJ, OL, BL⟩ := hrel
  have HI := Aside0.mk hi
  by_cases hlt : i < m + 1
  ·have hcn : decide (ji < (m : Int) + 1) = true := decide_eq_true (by have := HJ.out; omega)
   have HLT := Aside0.mk hlt
   have p : 0 ≤ ji := by have := HJ.out; omega
   have q : ji < ((m + 1 : Nat) : Int) := by have := HJ.out; omega
   obtain ⟨ad, ee, hx⟩ := at_P (Kd.C_below HC.out BL.out) ji p q (g := B i (nk a i)) (by rw [HJ.out]; exact (List.getElem?_eq_getElem (by rw [wayL_len]; exact hlt)).trans (congrArg some (wayL_get B a (Nat.le_of_lt_succ hlt))))
   cases ee
   obtain ⟨vs, hfi⟩ : ∃ vs, F i (nk a i) = some vs := by
    cases hx : F i (nk a i) with
    | none => exact (M2.out i (Nat.le_of_lt_succ hlt) hx).elim
    | some x => exact ⟨x, rfl⟩
   have TL := Aside0.mk (HT0.out.below (below_step B2.out BL.out))
   obtain ⟨A1', c1, hV2, hle, hCV, hz0⟩ := TL.out.vals hfi
   have HV2 := Aside0.mk hV2
   have FI := Aside0.mk hfi
   replace p := eq_true p
   replace q := eq_true (show ji < (m : Int) + 1 by have := HJ.out; omega)
   obtain ⟨xi, hxi⟩ : ∃ xi : Int, xi = ((nk a i * 2 ^ (32 - i) : Nat) : Int) := ⟨_, rfl⟩
   have XI := Aside0.mk hxi
   have HOF := Aside0.mk (show cidr_Of.f (a : Int) ji = some (xi, (i : Int)) by rw [HJ.out, hxi]; exact of_f A1.out (by have := M1.out; omega))
   clear hxi
   clear hi hlt hV2 hle hCV hfi
   go_wp2
   go_loopg [5, 27] vs.length (fun kq v5 v27 wl' => ∃ (j : Nat) (jj : Int), j + kq = vs.length ∧ v27 = .int .i64 jj ∧ Aside0 (jj = (j : Int)) ∧ Aside0 (Kd.R k42 42 wl' w2.heap.size (fun _ => True) v5 (accF F a i ++ (vs.take j).map (eS i (nk a i)))) ∧ Aside0 (Below w2.heap.size w2 wl'))
   case atStart => exact ⟨0, 0, by omega, rfl, ⟨rfl⟩, ⟨by simpa using OL.out⟩, BL⟩
   case round =>
    clear OL
    obtain ⟨j, jj, hj, rfl, HJJ, OJ, BJ2⟩ := hrel
    have HIJ := Aside0.mk hj
    by_cases hlj : j < vs.length
    ·have hcj : decide (jj < (vs.length : Int)) = true := decide_eq_true (by have := HJJ.out; omega)
     have HLJ := Aside0.mk hlj
     have p2 : 0 ≤ jj := by have := HJJ.out; omega
     have q2 : jj < (vs.length : Int) := by have := HJJ.out; omega
     obtain ⟨ad2, ee, hx2⟩ := Kd.at_int ((HT0.out.below (below_step B2.out BJ2.out)).valsC FI.out HV2.out) jj p2 q2
     cases ee
     replace p2 := eq_true p2
     replace q2 := eq_true q2
     have HAL := Aside0.mk (show (accF F a i ++ (vs.take j).map (eS i (nk a i))).length ≤ 100000 by
      have h1 := accF_len HF.out a i
      have h2 := HF.out _ _ _ FI.out
      have h3 := HLT.out
      have h4 := M1.out
      rw [List.length_append, List.length_map, List.length_take]
      omega)
     clear hj hlj
     go_wp2_with (first
      | (go_at_call 28; (with_reducible refine (cidr_Of.calls _ _ _ _ _ HOF.out).mono ?_); rintro e wz ⟨rfl, hz⟩; have OZ := Aside0.mk (Kd.R_below OJ.out hz); have BZ := Aside0.mk (below_step BJ2.out hz); clear hz)
      | ((with_reducible refine gate_builtin (b := .append) (xs := #[.tmp 31, .tmp 37]) rfl ?_); at_builtin; refine Kd.R_append k42 (w0 := w2) w2.heap.size rfl (.tmp 31) (.tmp 37) 38 42 (.agg #[.int .u32 0, .int .i64 0, .int .i64 0]) 24 rfl Try.underlying38 info42 rfl (by decide) (by omega) u5 (accF F a i ++ (vs.take j).map (eS i (nk a i))) ⟨⟨xi, (i : Int)⟩, rd vs jj⟩ [.int .u32 xi, .int .i64 (i : Int), .int .i64 (rd vs jj)] (fun _ => True) (fun _ => False) rfl (by first | rfl | (go_simp; done) | (go_simp; rfl)) ?aP (fun _ hk => hk.elim) ?aF ?aO ?aB ?aS ?aL ?_; (case aP => exact k42_mkM _ _ _ ⟨⟨xi, (i : Int)⟩, rd vs jj⟩); (case aF => exact (fun k hk => trivial)); (case aO => exact OZ.out); (case aB => exact BZ.out); (case aS => exact BZ.out.size); (case aL => have := HAL.out; omega); intro v9 w9 ho hb9 hg9 hat9; have HO9 := Aside0.mk ho; have HB9 := Aside0.mk hb9; clear ho hb9 hg9 hat9))
     go_roundg (vs.length - (j + 1))
     case measure => have := HIJ.out; have := HLJ.out; omega
     case rel => exact ⟨j + 1, jj + 1, by have := HLJ.out; omega, by rw [wrap64_id _ (by have := HJJ.out; have := HAL.out; have := p2; have := HLJ.out; have := HF.out _ _ _ FI.out; omega) (by have := HJJ.out; have := HLJ.out; have := HF.out _ _ _ FI.out; omega)], ⟨by have := HJJ.out; omega⟩, ⟨by
      have h9 := HO9.out
      rw [XI.out, HJJ.out, show (⟨⟨((nk a i * 2 ^ (32 - i) : Nat) : Int), (i : Int)⟩, rd vs (j : Int)⟩ : S42) = eS i (nk a i) (rd vs (j : Int)) from rfl, take_rd HLJ.out] at h9
      exact h9⟩, HB9⟩
    ·have hcj : decide (jj < (vs.length : Int)) = false := decide_eq_false (by have := HJJ.out; omega)
     obtain rfl : j = vs.length := by omega
     clear hj hlj
     go_wp2
     go_roundg (m + 1 - (i + 1))
     case measure => have := HI.out; have := HLT.out; omega
     case rel => exact ⟨i + 1, ji + 1, by have := HLT.out; omega, by rw [wrap64_id _ (by have := HJ.out; omega) (by have := HJ.out; have := HLT.out; have := M1.out; omega)], ⟨by have := HJ.out; omega⟩, ⟨by
      have h9 := OJ.out
      rw [List.take_length] at h9
      rw [accF, FI.out]
      exact h9⟩, BJ2⟩
  ·have hcn : decide (ji < (m : Int) + 1) = false := decide_eq_false (by have := HJ.out; omega)
   obtain rfl : i = m + 1 := by omega
   clear hi hlt
   go_wp2
   go_ret
   exact ⟨_, m, rfl, M1.out, M2.out, M3.out, Kd.R_lower OL.out B2.out.size, below_step B2.out BL.out⟩


open Go.Proofs.Ytbmibakhpealjaa.TrieP Go.Proofs.Ytbmibakhpealjaa.Facts Go.Proofs.Ytbmibakhpealjaa.Bits
def toS (e : En) : S42 := ⟨⟨(e.a : Int), (e.b : Int)⟩, e.v⟩
def ofE (l : List En) (a : Nat) : Nat → List En
 | 0 => []
 | i + 1 => ofE l a i ++ l.filter (atN i (nk a i))
theorem eS_toS {l : List En} (hr : Rts l) (i n : Nat) : ((l.filter (atN i n)).map En.v).map (eS i n) = (l.filter (atN i n)).map toS := by
 have h := ents_at hr i n
 have : ((l.filter (atN i n)).map En.v).map (eS i n) = (ents i n ((l.filter (atN i n)).map En.v)).map toS := by
  unfold ents
  rw [List.map_map, List.map_map, List.map_map]
  rfl
 rw [this, h]
theorem accF_of {l : List En} (hr : Rts l) (a : Nat) : ∀ i, accF (X l) a i = (ofE l a i).map toS
 | 0 => rfl
 | i + 1 => by
  rw [accF, ofE, accF_of hr a i, X_vals, eS_toS hr, List.map_append]
theorem X_len {l : List En} (hl : l.length ≤ 1000) : ∀ b n vs, X l b n = some vs → vs.length ≤ 1000 := fun b n vs h => by
 rw [X_some h, List.length_map]
 exact Nat.le_trans (List.length_filter_le _ _) hl
theorem X_none_up {l : List En} (hr : Rts l) (a : Nat) {m : Nat} (h : X l (m + 1) (nk a (m + 1)) = none) : ∀ j, m + 1 ≤ j → j ≤ 32 → X l j (nk a j) = none := by
 intro j
 induction j with
 | zero => intro h1; omega
 | succ j ih =>
  intro h1 h2
  by_cases e : m + 1 = j + 1
  ·rw [← e]; exact h
  ·have hj := ih (by omega) (by omega)
   cases hx : X l (j + 1) (nk a (j + 1)) with
   | none => rfl
   | some vs => exact (X_up hr (by omega) (nk_half (by omega)).symm (by rw [hx]; exact fun e => by cases e) hj).elim
theorem ofE_stop {l : List En} (hr : Rts l) (a : Nat) {m : Nat} (hm : m ≤ 32) (h : m < 32 → X l (m + 1) (nk a (m + 1)) = none) : ∀ d, m + 1 + d ≤ 33 → ofE l a (m + 1 + d) = ofE l a (m + 1)
 | 0, _ => rfl
 | d + 1, hd => by
  rw [show m + 1 + (d + 1) = (m + 1 + d) + 1 by omega, ofE, ofE_stop hr a hm h d (by omega)]
  have hx := X_none_up hr a (h (by omega)) (m + 1 + d) (by omega) (by omega)
  have hv := X_none hx
  have : l.filter (atN (m + 1 + d) (nk a (m + 1 + d))) = [] := by
   rw [List.filter_eq_nil_iff] at hv ⊢
   exact fun x hx hw => hv x hx (at_win hw)
  rw [this, List.append_nil]
theorem of_.calls {w wo : World} {S : Nat → Prop} {tb : Nat} {l : List En} (h : TrL w wo S tb l) (hl : l.length ≤ 1000) (a : Nat) (ha : a < 4294967296) :
  Calls Try.prog 11 #[.pointer (some ⟨tb, 0, none⟩), .int .u32 (a : Int)] wo fun e w' => ∃ v : Value, e = .returned v ∧ Kd.R k42 42 w' wo.heap.size (fun _ => True) v ((ofE l a 33).map toS) ∧ Below wo.heap.size wo w' := by
 obtain ⟨⟨B, V, ht⟩, hs, hr⟩ := h
 refine (of_walk a ha w wo S tb (X l) B V _ ht (X_len hl)).mono ?_
 rintro e w' ⟨v, m, rfl, h1, h2, h3, ho, hb⟩
 rw [accF_of hr, ← ofE_stop hr a h1 h3 (32 - m) (by omega), show m + 1 + (32 - m) = 33 by omega] at ho
 exact ⟨v, rfl, ho, hb⟩
set_option maxHeartbeats 8000000 in
set_option maxRecDepth 100000 in
theorem len_.calls {w wo : World} {S : Nat → Prop} {tb : Nat} {l : List En} (h : TrL w wo S tb l) :
  Calls Try.prog 13 #[.pointer (some ⟨tb, 0, none⟩)] wo fun e w' => e = .returned (.int .i64 (l.length : Int)) ∧ Below wo.heap.size wo w' := by
 obtain ⟨⟨B, V, ht⟩, hs, hr⟩ := h
 have hc := ht.cnt
 clear ht hs hr
 go_enter Try.func13, Try.ntmps13
 go_wp2
 go_ret
 exact ⟨rfl, by repeat (first | exact Below.refl _ _ | apply pw_below_drewN | apply below_drew1)⟩

end Go.Proofs.Ytbmibakhpealjaa.PTr
