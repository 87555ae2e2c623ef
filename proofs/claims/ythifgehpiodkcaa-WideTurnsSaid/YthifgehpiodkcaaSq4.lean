/- More short words for a long printed walk with many orders. Plain theorems. No condition of its own. -/
import Derived.Test.YthifgehpiodkcaaSq
namespace Go.Proofs.YthifgehpiodkcaaW.PrintSq
open Go Go.RowKit Go.Proofs.YthifgehpiodkcaaW.PrintWords Go.Proofs.YthifgehpiodkcaaW.PrintLast Go.Proofs.YthifgehpiodkcaaW.PrintMore
theorem its {P : Prop} (h : P := by
    (try dsimp only)
    repeat' (first
      | with_reducible assumption
      | with_reducible refine And.intro ?_ ?_
      | (refine Eq.trans (blk_cell (Aside0.out (by with_reducible assumption)) _) ?_; rfl)
      | (refine Aside0.mk ?_; (with_reducible repeat (first | refine blk_drewN ?_ _ | refine blk_drew ?_ | refine blk_alloc ?_ _)); exact Aside0.out (by with_reducible assumption))
      | (refine Aside0.mk ?_; repeat (first | exact Aside0.out (by with_reducible assumption) | apply below_alloc | apply pw_below_drewN | apply below_drew1 | refine below_set ?_ (Aside0.out (by with_reducible assumption))))
      | refine Eq.trans (cell_far (Aside0.out (by with_reducible assumption)) _) ?_)) : P := h
theorem hbs {w W0 W W' : World} (H : Aside0 (Below w.heap.size w W0)) (hb : Below W.heap.size W W')
    (f : Below w.heap.size w W0 → Below w.heap.size w W := by intro h_; repeat (first | (with_reducible first | exact h_ | apply below_alloc | apply pw_below_drewN | apply below_drew1 | refine below_set ?_ (Aside0.out (by with_reducible assumption))) | exact h_)) :
    Aside0 (Below w.heap.size w W') := Aside0.mk (below_step (f H.out) hb)
theorem gew {w W0 W : World} {g : Nat} (H : Aside0 (Below w.heap.size w W0)) (hg : g = W.heap.size)
    (f : Below w.heap.size w W0 → Below w.heap.size w W := by intro h_; repeat (first | (with_reducible first | exact h_ | apply below_alloc | apply pw_below_drewN | apply below_drew1 | refine below_set ?_ (Aside0.out (by with_reducible assumption))) | exact h_)) :
    Aside0 (w.heap.size ≤ g) := Aside0.mk (by rw [hg]; exact below_size (f H.out))
theorem nea {W W0 : World} {a b : Nat} {o : Obj} (h : Aside0 (W0.heap[a]? = some o)) (hg : b = W.heap.size)
    (f : W0.heap[a]? = some o → W.heap[a]? = some o := by intro h_; (with_reducible repeat (first | refine blk_drewN ?_ _ | refine blk_drew ?_ | refine blk_alloc ?_ _)); exact h_) : Aside0 (a ≠ b) := Aside0.mk (ne1 h.out hg f)
theorem neb {W W0 : World} {a b : Nat} {o : Obj} (h : Aside0 (W0.heap[a]? = some o)) (hg : b = W.heap.size)
    (f : W0.heap[a]? = some o → W.heap[a]? = some o := by intro h_; (with_reducible repeat (first | refine blk_drewN ?_ _ | refine blk_drew ?_ | refine blk_alloc ?_ _)); exact h_) : Aside0 (b ≠ a) := Aside0.mk (ne2 h.out hg f)
theorem bba {W W0 W' : World} {g : Nat} {o : Obj} (h : Aside0 (W0.heap[g]? = some o)) (hb : Below W.heap.size W W')
    (f : W0.heap[g]? = some o → W.heap[g]? = some o := by intro h_; (with_reducible repeat (first | refine blk_drewN ?_ _ | refine blk_drew ?_ | refine blk_alloc ?_ _)); exact h_) : Aside0 (W'.heap[g]? = some o) := Aside0.mk (bb h.out hb f)
theorem gs {P : Prop} (h : P := by first | (go_simp; done) | (go_simp; rfl)) : P := h
theorem aok {P : Prop} (h : P := by (try simp only [List.map_toArray, List.map_cons, List.map_nil]); first | done | rfl | (simp only [List.length_drop, List.length_take]; rfl)) : P := h
section
variable {P : Program} {ops : Array Oper} {Q : Exit → Act → World → Prop} {md : Region.Mode} {S : World → Prop} {ds : List Nat}
theorem nput {fuel : Nat} {l : Array Bool} {a a' : Act} {w : World} (h : wpAnyLast P md ops Q S ds fuel l a' w)
    (e : a = a' := by show Act.put _ (some _) _ = _; simp only [Act.put, List.setIfInBounds_toArray, List.set_cons_zero, List.set_cons_succ, i64_w, i32_w]; rfl) : wpAnyLast P md ops Q S ds fuel l a w := norm_ e h
theorem nall {fuel : Nat} {l : Array Bool} {a a' : Act} {w : World} (h : wpAnyLast P md ops Q S ds fuel l a' w)
    (e : a = a' := by simp only [putAll, Act.put, List.setIfInBounds_toArray, List.set_cons_zero, List.set_cons_succ]; rfl) : wpAnyLast P md ops Q S ds fuel l a w := norm_ e h
end
end Go.Proofs.YthifgehpiodkcaaW.PrintSq
