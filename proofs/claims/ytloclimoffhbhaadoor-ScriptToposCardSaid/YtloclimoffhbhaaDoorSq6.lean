/- More short words for long printed walks: a world's stay, a block behind stores. Plain theorems. No condition of its own. -/
import Derived.Test.YtloclimoffhbhaaDoorSq
namespace Go.Proofs.YtloclimoffhbhaaDoorW.PrintSq
open Go Go.RowKit Go.Proofs.YtloclimoffhbhaaDoorW.PrintWords Go.Proofs.YtloclimoffhbhaaDoorW.PrintLast Go.Proofs.YtloclimoffhbhaaDoorW.PrintMore
theorem bel {w W0 W : World} (H : Aside0 (Below w.heap.size w W0))
    (f : Below w.heap.size w W0 → Below w.heap.size w W := by intro h_; repeat (first | (with_reducible first | exact h_ | apply below_alloc | apply pw_below_drewN | apply below_drew1 | refine below_set ?_ (Aside0.out (by with_reducible assumption))) | exact h_)) : Below w.heap.size w W := f H.out
theorem bkp {P : Prop} (h : P := by
    repeat' (first
      | exact Aside0.out (by with_reducible assumption)
      | with_reducible refine blk_drewN ?_ _
      | with_reducible refine blk_drew ?_
      | with_reducible refine blk_alloc ?_ _
      | with_reducible refine (Below.heap_setCell _ _ _ _ (Aside0.out (by (try dsimp only); with_reducible assumption))).trans ?_
      | with_reducible apply blk_put
      | (simp only [List.setIfInBounds_toArray, List.set_cons_zero, List.set_cons_succ]; done)
      | (simp only [List.setIfInBounds_toArray, List.set_cons_zero, List.set_cons_succ]; rfl)
      | with_reducible rfl)) : P := h
theorem gs {P : Prop} (h : P := by first | (go_simp; done) | (go_simp; rfl)) : P := h
theorem aok {P : Prop} (h : P := by (try simp only [List.map_toArray, List.map_cons, List.map_nil]); first | done | rfl | (simp only [List.length_drop, List.length_take]; rfl)) : P := h
theorem rp {α : Type} {d : Kd α} {e base : Nat} {ok : Nat → Prop} {W0 W : World} {v : Value} {xs : List α} (H : Aside0 (d.R e W0 base ok v xs))
    (f : d.R e W0 base ok v xs → d.R e W base ok v xs := by intro h_; (with_reducible repeat (first | apply Kd.R_alloc | apply Kd.R_drewN | apply Kd.R_drew)); exact h_) : d.R e W base ok v xs := f H.out
theorem mv {w W : World} {a : Addr} {v : Value} (H : Aside0 (Below w.heap.size w W)) (h : w.cell? a = some v) : W.cell? a = some v := (H.out.cell (World.block_lt_of_cell? w _ h)).trans h
theorem gew {w W0 W : World} {g : Nat} (H : Aside0 (Below w.heap.size w W0)) (hg : g = W.heap.size)
    (f : Below w.heap.size w W0 → Below w.heap.size w W := by intro h_; repeat (first | (with_reducible first | exact h_ | apply below_alloc | apply pw_below_drewN | apply below_drew1 | refine below_set ?_ (Aside0.out (by with_reducible assumption))) | exact h_)) : Aside0 (w.heap.size ≤ g) := Aside0.mk (by rw [hg]; exact below_size (f H.out))
theorem fin {P : Prop} (h : P := by first | rfl | (simp [errW_none, errW_some] <;> rfl) | (simp [*, errW_none, errW_some] <;> rfl)) : P := h
section
variable {P : Program} {ops : Array Oper} {Q : Exit → Act → World → Prop} {md : Region.Mode} {S : World → Prop} {ds : List Nat}
theorem nput {fuel : Nat} {l : Array Bool} {a a' : Act} {w : World} (h : wpAnyLast P md ops Q S ds fuel l a' w)
    (e : a = a' := by show Act.put _ (some _) _ = _; simp only [Act.put, List.setIfInBounds_toArray, List.set_cons_zero, List.set_cons_succ, i64_w, i32_w]; rfl) : wpAnyLast P md ops Q S ds fuel l a w := norm_ e h
theorem pu {fuel : Nat} {l : Array Bool} {a a' : Act} {w : World} {v : Value} {oi : Oper} (i : Nat) (N : Option Tmp) (l' : Array Bool) (hc : anyB md ops l l' i = true) (h : wpAnyLast P md ops Q S ds fuel l' a' w)
    (hi : ops[i]? = some oi := by rfl) (hN : oi.dst = N := by rfl) (hQ : ∀ c a w, Q (.panic c) (a.put oi.dst v) w → Q (.panic c) a w := by exact fun _ _ _ h => h)
    (hw : Region.wanted oi (yielded ops a.tmps) = true := by rfl) (hr : ∀ w' : World, (execOp a.eval oi).run P w' = .ok (.value v) w' := by intro w'; go_simp; with_reducible rfl)
    (ha : a.put N v = a' := by simp only [Act.put, List.setIfInBounds_toArray, List.set_cons_zero, List.set_cons_succ, i64_w, i32_w]; rfl) : wpAnyLast P md ops Q S ds (fuel + 1) l a w := pure_ l' hi hN hc hQ (Or.inl ⟨hw, hr⟩) ha h
end
end Go.Proofs.YtloclimoffhbhaaDoorW.PrintSq
