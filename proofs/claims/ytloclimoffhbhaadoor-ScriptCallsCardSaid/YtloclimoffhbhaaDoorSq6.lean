/- More short words for long printed walks: a world's stay, a block behind stores. Plain theorems. No condition of its own. -/
import Derived.Test.YtloclimoffhbhaaDoorSq
namespace Go.Proofs.YtloclimoffhbhaaDoorW.PrintSq
open Go Go.RowKit Go.Proofs.YtloclimoffhbhaaDoorW.PrintWords Go.Proofs.YtloclimoffhbhaaDoorW.PrintLast Go.Proofs.YtloclimoffhbhaaDoorW.PrintMore
theorem bel {w W0 W : World} (H : Aside0 (Below w.heap.size w W0))
    (f : Below w.heap.size w W0 → Below w.heap.size w W := by intro h_; repeat (first | (with_reducible first | exact h_ | apply below_alloc | apply pw_below_drewN | apply below_drew1 | refine below_set ?_ (Aside0.out (by with_reducible assumption))) | exact h_)) : Below w.heap.size w W := f H.out
theorem bkp {P : Prop} (h : P := by
    repeat' (first
      | exact Aside0.out (by with_reducible assumption)
      | with_reducible refine blk_drewN ?_ _
      | with_reducible refine blk_drew ?_
      | with_reducible refine blk_alloc ?_ _
      | with_reducible refine (Below.heap_setCell _ _ _ _ (Aside0.out (by (try dsimp only); with_reducible assumption))).trans ?_
      | with_reducible apply blk_put
      | (simp only [List.setIfInBounds_toArray, List.set_cons_zero, List.set_cons_succ]; done)
      | (simp only [List.setIfInBounds_toArray, List.set_cons_zero, List.set_cons_succ]; rfl)
      | with_reducible rfl)) : P := h
theorem gs {P : Prop} (h : P := by first | (go_simp; done) | (go_simp; rfl)) : P := h
theorem aok {P : Prop} (h : P := by (try simp only [List.map_toArray, List.map_cons, List.map_nil]); first | done | rfl | (simp only [List.length_drop, List.length_take]; rfl)) : P := h
end Go.Proofs.YtloclimoffhbhaaDoorW.PrintSq
