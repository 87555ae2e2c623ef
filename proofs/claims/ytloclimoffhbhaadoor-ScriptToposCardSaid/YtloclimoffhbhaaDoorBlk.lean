/- Blocks made, read and written whole, by one step each; several new blocks in whatever order. No condition of its own. -/
import Derived.Test.YtloclimoffhbhaaDoorV0
namespace Go.Proofs.YtloclimoffhbhaaDoor.Hand
open Go Go.RowKit Go.Proofs.YtloclimoffhbhaaDoorW.PrintWords Go.Proofs.YtloclimoffhbhaaDoorW.PrintLast Go.Proofs.YtloclimoffhbhaaDoorW.PrintMore
set_option linter.unusedVariables false
set_option linter.unusedSimpArgs false
/-- The cells of a block, some of them written anew. -/
def putSeg : Array Value → Nat → List Value → Array Value
  | cs, _, [] => cs
  | cs, o, v :: l => putSeg (cs.setIfInBounds o v) (o + 1) l
theorem setCells_heap (g : Nat) (t : TypeId) : ∀ (l : List Value) (w : World) (o : Nat) (cs : Array Value), w.heap[g]? = some (.cells cs t (0, 0)) → (w.setCells g o l).heap[g]? = some (.cells (putSeg cs o l) t (0, 0))
  | [], w, o, cs, h => h
  | v :: l, w, o, cs, h => setCells_heap g t l (w.setCell ⟨g, o, none⟩ v) (o + 1) _ (blk_set h o v)
theorem setCells_far (g k : Nat) (hk : k ≠ g) : ∀ (l : List Value) (w : World) (o : Nat), (w.setCells g o l).heap[k]? = w.heap[k]?
  | [], w, o => rfl
  | v :: l, w, o => (setCells_far g k hk l (w.setCell ⟨g, o, none⟩ v) (o + 1)).trans (Below.heap_setCell w ⟨g, o, none⟩ v k hk)
theorem setCells_below {w0 : World} (g : Nat) (hg : w0.heap.size ≤ g) : ∀ (l : List Value) (w : World) (o : Nat), Below w0.heap.size w0 w → Below w0.heap.size w0 (w.setCells g o l)
  | [], w, o, h => h
  | v :: l, w, o, h => setCells_below g hg l (w.setCell ⟨g, o, none⟩ v) (o + 1) (below_set h hg)
theorem setCells_size (g : Nat) : ∀ (l : List Value) (w : World) (o : Nat), (w.setCells g o l).heap.size = w.heap.size
  | [], w, o => rfl
  | v :: l, w, o => (setCells_size g l (w.setCell ⟨g, o, none⟩ v) (o + 1)).trans (by simp)
/-- What a store leaves: the block, written; all else as it was. -/
structure Put (w w1 : World) (g : Nat) (t : TypeId) (cs : Array Value) : Prop where
  box : w1.heap[g]? = some (.cells cs t (0, 0))
  far : ∀ k, k ≠ g → w1.heap[k]? = w.heap[k]?
  size : w1.heap.size = w.heap.size
  bl : ∀ w0 : World, Below w0.heap.size w0 w → w0.heap.size ≤ g → Below w0.heap.size w0 w1
theorem Put.keep {w w1 : World} {g k : Nat} {t : TypeId} {cs : Array Value} {o : Obj} (h : Put w w1 g t cs) (hk : w.heap[k]? = some o) (hne : k ≠ g) : w1.heap[k]? = some o := (h.far k hne).trans hk
section
variable {P : Program} {ops : Array Oper} {rest : List Oper} {o : Oper} {a : Act} {Q : Exit → Act → World → Prop} {w : World} {K : Act → World → Prop}
theorem exec_store (t : TypeId) (p x : Operand) (hop : o.op = .store t p x) {g off : Nat} {e : TypeId} {cur : Array Value} {u : Value} (seg : List Value) (hp : a.eval p = .pointer (some ⟨g, off, none⟩)) (hx : a.eval x = u) (hb : w.heap[g]? = some (.cells cur e (0, 0)))
    (hu : u.cells.toList = seg) (ht : (P.info? t).map (·.size) = some seg.length) (hfit : off + seg.length ≤ cur.size) (h1 : ∀ q ∈ seg, q.oneCell' = true) : (execOp a.eval o).run P w = .ok .skip (w.setCells g off seg) := by
  have hr := run_store_run t u seg hb hu ht hfit h1
  simp [execOp, hop, hp, hx, hr, Result.andThen]
theorem put_of {g off : Nat} {e : TypeId} {cur cur' : Array Value} (seg : List Value) (hb : w.heap[g]? = some (.cells cur e (0, 0))) (hc : putSeg cur off seg = cur') : Put w (w.setCells g off seg) g e cur' :=
  ⟨by rw [← hc]; exact setCells_heap g e seg w off cur hb, fun k hk => setCells_far g k hk seg w off, setCells_size g seg w off, fun w0 h0 hg => setCells_below g hg seg w off h0⟩
/-- A store, in a plain region. -/
theorem wpList_store_blk (hg : o.guard = none) (hN : o.dst = none) (t : TypeId) (p x : Operand) (hop : o.op = .store t p x) {g off : Nat} {e : TypeId} {cur : Array Value} {u : Value} (seg : List Value) (cur' : Array Value) (hp : a.eval p = .pointer (some ⟨g, off, none⟩)) (hx : a.eval x = u) (hb : w.heap[g]? = some (.cells cur e (0, 0)))
    (hu : u.cells.toList = seg) (ht : (P.info? t).map (·.size) = some seg.length) (hfit : off + seg.length ≤ cur.size) (h1 : ∀ q ∈ seg, q.oneCell' = true) (hc : putSeg cur off seg = cur')
    (h : ∀ w1, Put w w1 g e cur' → wpList P ops Q rest a w1) : wpList P ops Q (o :: rest) a w := by
  refine wpList_plain hg fun K' hK' => ?_
  have hr := exec_store (P := P) (a := a) t p x hop seg hp hx hb hu ht hfit h1
  unfold Oper.wp
  rw [hr]
  have := hK' _ _ (h _ (put_of seg hb hc))
  show K' (a.put o.dst undef) _
  rw [hN]
  exact this
/-- One cell is stored, in a drawn region. -/
theorem store_one (hw : Region.wanted o (yielded ops a.tmps) = true) (hN : o.dst = none) (t : TypeId) (p x : Operand) (hop : o.op = .store t p x) {g off : Nat} {e : TypeId} {cur : Array Value} (u : Value) (hp : a.eval p = .pointer (some ⟨g, off, none⟩)) (hx : a.eval x = u) (hb : w.heap[g]? = some (.cells cur e (0, 0)))
    (hu : u.cells.toList = [u]) (ht : (P.info? t).map (·.size) = some 1) (hfit : off + 1 ≤ cur.size) (h1 : u.oneCell' = true)
    (h : ∀ w1, w1 = w.setCell ⟨g, off, none⟩ u → K a w1) : if Region.wanted o (yielded ops a.tmps) = true then Oper.wp P o a w K Q else K (a.put none undef) w :=
  skip_ hw hN (exec_store (w := w) t p x hop [u] hp hx hb hu ht hfit (fun q hq => by obtain rfl := List.mem_singleton.1 hq; exact h1)) (h _ rfl)
end
/-! ### Several new blocks -/
/-! ### Blocks of the call's own, by a list -/
structure Bx (w wr : World) (l : List (Nat × TypeId × Array Value)) : Prop where
  box : ∀ p ∈ l, wr.heap[p.1]? = some (.cells p.2.2 p.2.1 (0, 0)) ∧ w.heap.size ≤ p.1
  ne : l.Pairwise (fun p q => p.1 ≠ q.1)
  bl : Below w.heap.size w wr
section
variable {w wr w1 : World} {l : List (Nat × TypeId × Array Value)}
theorem Bx.nil (h : Below w.heap.size w wr) : Bx w wr [] := ⟨fun _ h => (by cases h), List.Pairwise.nil, h⟩
theorem Bx.lt (h : Bx w wr l) {p : Nat × TypeId × Array Value} (hp : p ∈ l) : p.1 < wr.heap.size := blk_lt (h.box p hp).1
theorem Bx.below (h : Bx w wr l) (hb : Below wr.heap.size wr w1) : Bx w w1 l := ⟨fun p hp => ⟨blk_below (h.box p hp).1 hb, (h.box p hp).2⟩, h.ne, below_step h.bl hb⟩
theorem Bx.many (h : Bx w wr l) (hb : Below wr.heap.size wr w1) (m : List (Nat × TypeId × Array Value)) (hm : ∀ p ∈ m, wr.heap.size ≤ p.1 ∧ w1.heap[p.1]? = some (.cells p.2.2 p.2.1 (0, 0))) (hn : m.Pairwise (fun p q => p.1 ≠ q.1)) : Bx w w1 (m ++ l) := by
  refine ⟨fun p hp => ?_, List.pairwise_append.2 ⟨hn, h.ne, fun p hp q hq e => ?_⟩, below_step h.bl hb⟩
  · rcases List.mem_append.1 hp with hp | hp
    · exact ⟨(hm p hp).2, Nat.le_trans h.bl.size (hm p hp).1⟩
    · exact (h.below hb).box p hp
  · have := (hm p hp).1
    have := h.lt hq
    omega
theorem Bx.cons (h : Bx w wr l) {g : Nat} {t : TypeId} {cs : Array Value} (hb : Below wr.heap.size wr w1) (hg : wr.heap.size ≤ g) (hc : w1.heap[g]? = some (.cells cs t (0, 0))) : Bx w w1 ((g, t, cs) :: l) :=
  h.many hb [(g, t, cs)] (fun p hp => by obtain rfl := List.mem_singleton.1 hp; exact ⟨hg, hc⟩) (List.pairwise_singleton _ _)
theorem Bx.ge (h : Bx w wr l) (i : Nat) {g : Nat} {t : TypeId} {cs : Array Value} (hi : l[i]? = some (g, t, cs)) : w.heap.size ≤ g := (h.box (g, t, cs) (List.mem_of_getElem? hi)).2
theorem Bx.put (h : Bx w wr l) (i : Nat) {g : Nat} {t : TypeId} {cs cs' : Array Value} (hi : l[i]? = some (g, t, cs)) (hp : Put wr w1 g t cs') : Bx w w1 (l.set i (g, t, cs')) := by
  obtain ⟨hlt, hget⟩ := List.getElem?_eq_some_iff.1 hi
  have hmap : (l.set i (g, t, cs')).map (·.1) = l.map (·.1) := by
    apply List.ext_getElem (by simp)
    intro j h1 h2
    simp only [List.getElem_map, List.getElem_set]
    split
    · rename_i e
      subst e
      rw [hget]
    · rfl
  refine ⟨fun p hm => ?_, ?_, hp.bl w h.bl (h.ge i hi)⟩
  · obtain ⟨j, hj, e⟩ := List.getElem_of_mem hm
    rw [List.getElem_set] at e
    split at e
    · subst e
      exact ⟨hp.box, h.ge i hi⟩
    · rename_i hij
      subst e
      have hj' : j < l.length := by simpa using hj
      have hm' := h.box l[j] (List.getElem_mem hj')
      refine ⟨hp.keep hm'.1 ?_, hm'.2⟩
      have hpw := List.pairwise_iff_getElem.1 h.ne
      rcases Nat.lt_or_gt_of_ne hij with hlt2 | hlt2
      · have := hpw i j hlt hj' hlt2
        rw [hget] at this
        exact fun e => this e.symm
      · have := hpw j i hj' hlt hlt2
        rw [hget] at this
        exact this
  · have h1 : ((l.set i (g, t, cs')).map (·.1)).Pairwise (· ≠ ·) := by
      rw [hmap, List.pairwise_map]
      exact h.ne
    rw [List.pairwise_map] at h1
    exact h1
theorem Bx.rest (h : Bx w wr l) (k : Nat) : Bx w wr (l.drop k) := ⟨fun p hp => h.box p (List.mem_of_mem_drop hp), h.ne.sublist (List.drop_sublist _ _), h.bl⟩
end
end Go.Proofs.YtloclimoffhbhaaDoor.Hand
