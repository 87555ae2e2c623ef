/- Blocks made, read and written whole, by one step each; several new blocks in whatever order. No condition of its own. -/
import Derived.Test.YtloclimoffhbhaaDoorV0
namespace Go.Proofs.YtloclimoffhbhaaDoor.Hand
open Go Go.RowKit Go.Proofs.YtloclimoffhbhaaDoorW.PrintWords Go.Proofs.YtloclimoffhbhaaDoorW.PrintLast Go.Proofs.YtloclimoffhbhaaDoorW.PrintMore
set_option linter.unusedVariables false
set_option linter.unusedSimpArgs false
/-- The cells of a block, some of them written anew. -/
def putSeg : Array Value → Nat → List Value → Array Value
  | cs, _, [] => cs
  | cs, o, v :: l => putSeg (cs.setIfInBounds o v) (o + 1) l
theorem setCells_heap (g : Nat) (t : TypeId) : ∀ (l : List Value) (w : World) (o : Nat) (cs : Array Value), w.heap[g]? = some (.cells cs t (0, 0)) → (w.setCells g o l).heap[g]? = some (.cells (putSeg cs o l) t (0, 0))
  | [], w, o, cs, h => h
  | v :: l, w, o, cs, h => setCells_heap g t l (w.setCell ⟨g, o, none⟩ v) (o + 1) _ (blk_set h o v)
theorem setCells_far (g k : Nat) (hk : k ≠ g) : ∀ (l : List Value) (w : World) (o : Nat), (w.setCells g o l).heap[k]? = w.heap[k]?
  | [], w, o => rfl
  | v :: l, w, o => (setCells_far g k hk l (w.setCell ⟨g, o, none⟩ v) (o + 1)).trans (Below.heap_setCell w ⟨g, o, none⟩ v k hk)
theorem setCells_below {w0 : World} (g : Nat) (hg : w0.heap.size ≤ g) : ∀ (l : List Value) (w : World) (o : Nat), Below w0.heap.size w0 w → Below w0.heap.size w0 (w.setCells g o l)
  | [], w, o, h => h
  | v :: l, w, o, h => setCells_below g hg l (w.setCell ⟨g, o, none⟩ v) (o + 1) (below_set h hg)
theorem setCells_size (g : Nat) : ∀ (l : List Value) (w : World) (o : Nat), (w.setCells g o l).heap.size = w.heap.size
  | [], w, o => rfl
  | v :: l, w, o => (setCells_size g l (w.setCell ⟨g, o, none⟩ v) (o + 1)).trans (by simp)
/-- What a store leaves: the block, written; all else as it was. -/
structure Put (w w1 : World) (g : Nat) (t : TypeId) (cs : Array Value) : Prop where
  box : w1.heap[g]? = some (.cells cs t (0, 0))
  far : ∀ k, k ≠ g → w1.heap[k]? = w.heap[k]?
  size : w1.heap.size = w.heap.size
  bl : ∀ w0 : World, Below w0.heap.size w0 w → w0.heap.size ≤ g → Below w0.heap.size w0 w1
theorem Put.keep {w w1 : World} {g k : Nat} {t : TypeId} {cs : Array Value} {o : Obj} (h : Put w w1 g t cs) (hk : w.heap[k]? = some o) (hne : k ≠ g) : w1.heap[k]? = some o := (h.far k hne).trans hk
theorem Put.kept {w w1 : World} {g : Nat} {t : TypeId} {cs : Array Value} (h : Put w w1 g t cs) : Kept w w1 (fun k => k = g) := ⟨Nat.le_of_eq h.size.symm, fun i _ hn => h.far i hn⟩
section
variable {P : Program} {ops : Array Oper} {rest : List Oper} {o : Oper} {a : Act} {Q : Exit → Act → World → Prop} {w : World} {K : Act → World → Prop}
theorem exec_store (t : TypeId) (p x : Operand) (hop : o.op = .store t p x) {g off : Nat} {e : TypeId} {cur : Array Value} {u : Value} (seg : List Value) (hp : a.eval p = .pointer (some ⟨g, off, none⟩)) (hx : a.eval x = u) (hb : w.heap[g]? = some (.cells cur e (0, 0)))
    (hu : u.cells.toList = seg) (ht : (P.info? t).map (·.size) = some seg.length) (hfit : off + seg.length ≤ cur.size) (h1 : ∀ q ∈ seg, q.oneCell' = true) : (execOp a.eval o).run P w = .ok .skip (w.setCells g off seg) := by
  have hr := run_store_run t u seg hb hu ht hfit h1
  simp [execOp, hop, hp, hx, hr, Result.andThen]
theorem put_of {g off : Nat} {e : TypeId} {cur cur' : Array Value} (seg : List Value) (hb : w.heap[g]? = some (.cells cur e (0, 0))) (hc : putSeg cur off seg = cur') : Put w (w.setCells g off seg) g e cur' :=
  ⟨by rw [← hc]; exact setCells_heap g e seg w off cur hb, fun k hk => setCells_far g k hk seg w off, setCells_size g seg w off, fun w0 h0 hg => setCells_below g hg seg w off h0⟩
/-- A store, in a drawn region. -/
theorem store_step (hw : Region.wanted o (yielded ops a.tmps) = true) (hN : o.dst = none) (t : TypeId) (p x : Operand) (hop : o.op = .store t p x) {g off : Nat} {e : TypeId} {cur : Array Value} {u : Value} (seg : List Value) (cur' : Array Value) (hp : a.eval p = .pointer (some ⟨g, off, none⟩)) (hx : a.eval x = u) (hb : w.heap[g]? = some (.cells cur e (0, 0)))
    (hu : u.cells.toList = seg) (ht : (P.info? t).map (·.size) = some seg.length) (hfit : off + seg.length ≤ cur.size) (h1 : ∀ q ∈ seg, q.oneCell' = true) (hc : putSeg cur off seg = cur')
    (h : ∀ w1, Put w w1 g e cur' → K a w1) : if Region.wanted o (yielded ops a.tmps) = true then Oper.wp P o a w K Q else K (a.put none undef) w :=
  skip_ hw hN (exec_store t p x hop seg hp hx hb hu ht hfit h1) (h _ (put_of seg hb hc))
/-- A store, in a plain region. -/
theorem wpList_store_blk (hg : o.guard = none) (hN : o.dst = none) (t : TypeId) (p x : Operand) (hop : o.op = .store t p x) {g off : Nat} {e : TypeId} {cur : Array Value} {u : Value} (seg : List Value) (cur' : Array Value) (hp : a.eval p = .pointer (some ⟨g, off, none⟩)) (hx : a.eval x = u) (hb : w.heap[g]? = some (.cells cur e (0, 0)))
    (hu : u.cells.toList = seg) (ht : (P.info? t).map (·.size) = some seg.length) (hfit : off + seg.length ≤ cur.size) (h1 : ∀ q ∈ seg, q.oneCell' = true) (hc : putSeg cur off seg = cur')
    (h : ∀ w1, Put w w1 g e cur' → wpList P ops Q rest a w1) : wpList P ops Q (o :: rest) a w := by
  refine wpList_plain hg fun K' hK' => ?_
  have hr := exec_store (P := P) (a := a) t p x hop seg hp hx hb hu ht hfit h1
  unfold Oper.wp
  rw [hr]
  have := hK' _ _ (h _ (put_of seg hb hc))
  show K' (a.put o.dst undef) _
  rw [hN]
  exact this
/-- One cell is stored, in a plain region: the world takes a letter. -/
theorem wpList_store_one (hg : o.guard = none) (hN : o.dst = none) (t : TypeId) (p x : Operand) (hop : o.op = .store t p x) {g off : Nat} {e : TypeId} {cur : Array Value} (u : Value) (hp : a.eval p = .pointer (some ⟨g, off, none⟩)) (hx : a.eval x = u) (hb : w.heap[g]? = some (.cells cur e (0, 0)))
    (hu : u.cells.toList = [u]) (ht : (P.info? t).map (·.size) = some 1) (hfit : off + 1 ≤ cur.size) (h1 : u.oneCell' = true)
    (h : ∀ w1, w1 = w.setCell ⟨g, off, none⟩ u → wpList P ops Q rest a w1) : wpList P ops Q (o :: rest) a w := by
  refine wpList_plain hg fun K' hK' => ?_
  have hr := exec_store (P := P) (a := a) (w := w) t p x hop [u] hp hx hb hu ht hfit (fun q hq => by obtain rfl := List.mem_singleton.1 hq; exact h1)
  unfold Oper.wp
  rw [hr]
  have := hK' _ _ (h _ rfl)
  show K' (a.put o.dst undef) _
  rw [hN]
  exact this
/-- One cell is stored, in a drawn region. -/
theorem store_one (hw : Region.wanted o (yielded ops a.tmps) = true) (hN : o.dst = none) (t : TypeId) (p x : Operand) (hop : o.op = .store t p x) {g off : Nat} {e : TypeId} {cur : Array Value} (u : Value) (hp : a.eval p = .pointer (some ⟨g, off, none⟩)) (hx : a.eval x = u) (hb : w.heap[g]? = some (.cells cur e (0, 0)))
    (hu : u.cells.toList = [u]) (ht : (P.info? t).map (·.size) = some 1) (hfit : off + 1 ≤ cur.size) (h1 : u.oneCell' = true)
    (h : ∀ w1, w1 = w.setCell ⟨g, off, none⟩ u → K a w1) : if Region.wanted o (yielded ops a.tmps) = true then Oper.wp P o a w K Q else K (a.put none undef) w :=
  skip_ hw hN (exec_store (w := w) t p x hop [u] hp hx hb hu ht hfit (fun q hq => by obtain rfl := List.mem_singleton.1 hq; exact h1)) (h _ rfl)
/-- A whole block, read. -/
theorem exec_load_blk (t : TypeId) (p : Operand) (hop : o.op = .load t p) {g : Nat} {e : TypeId} {cs : Array Value} (d : TypeDesc) (hp : a.eval p = .pointer (some ⟨g, 0, none⟩)) (hb : w.heap[g]? = some (.cells cs e (0, 0)))
    (hu : P.underlying t = some d) (hd : (match d with | .struct _ | .array _ _ => true | _ => false) = true) (hi : (P.info? t).map (·.size) = some cs.size) : (execOp a.eval o).run P w = .ok (.value (.agg cs)) w := by
  unfold execOp
  simp only [hop, hp, Instr.loadAt, Instr.sureAddr, Sem.run_bind, Sem.run_pure, Result.andThen_ok, run_loadVar_row w g e t cs (0, 0) d hb hu hd hi]
end
/-! ### Several new blocks -/
theorem act_put_comm (a : Act) {m n : Tmp} (h : m ≠ n) (u v : Value) : (a.put (some m) u).put (some n) v = (a.put (some n) v).put (some m) u := by
  simp only [Act.put]
  congr 1
  exact Array.setIfInBounds_comm _ _ h
theorem act_put_same (a : Act) (m : Tmp) (u v : Value) : (a.put (some m) u).put (some m) v = a.put (some m) v := by
  simp only [Act.put]
  congr 1
  simp
theorem World.heap_alloc_lt' (w : World) (o : Obj) (i : Nat) (h : i < w.heap.size) : (w.alloc o).heap[i]? = w.heap[i]? := (below_alloc (Below.refl w.heap.size w) o).block i h
def fill (a : Act) : List (Nat × Tmp) → (Nat → Value) → Act
  | [], _ => a
  | (i, t) :: r, v => fill (a.put (some t) (v i)) r v
theorem fill_far (t : Tmp) (x : Value) (v : Nat → Value) : ∀ (ps : List (Nat × Tmp)) (a : Act), (∀ p ∈ ps, p.2 ≠ t) → (fill a ps v).put (some t) x = fill (a.put (some t) x) ps v
  | [], a, _ => rfl
  | (i, s) :: r, a, h => by
    rw [fill, fill_far t x v r _ (fun p hp => h p (List.mem_cons_of_mem _ hp)), fill, act_put_comm a (h (i, s) List.mem_cons_self)]
theorem fill_congr : ∀ (ps : List (Nat × Tmp)) (a : Act) (v v' : Nat → Value), (∀ p ∈ ps, v p.1 = v' p.1) → fill a ps v = fill a ps v'
  | [], a, v, v', _ => rfl
  | (i, s) :: r, a, v, v', h => by
    rw [fill, fill, show v i = v' i from h (i, s) List.mem_cons_self]
    exact fill_congr r _ v v' (fun p hp => h p (List.mem_cons_of_mem _ hp))
theorem fill_put (x : Value) (v : Nat → Value) (i : Nat) (t : Tmp) : ∀ (ps : List (Nat × Tmp)) (a : Act), (ps.map (·.1)).Nodup → (ps.map (·.2)).Nodup → (i, t) ∈ ps → (fill a ps v).put (some t) x = fill a ps (fun j => if j = i then x else v j)
  | [], a, _, _, h => by cases h
  | (k, s) :: r, a, h1, h2, h => by
    obtain ⟨n1, m1⟩ := List.nodup_cons.1 h1
    obtain ⟨n2, m2⟩ := List.nodup_cons.1 h2
    rcases List.mem_cons.1 h with e | hm
    · injection e with e1 e2
      subst e1; subst e2
      rw [fill, fill_far t x v r _ (fun p hp e => n2 (by rw [← e]; exact List.mem_map.2 ⟨p, hp, rfl⟩)), act_put_same, fill, if_pos rfl]
      refine fill_congr r _ _ _ (fun p hp => ?_)
      rw [if_neg]
      intro e
      exact n1 (by rw [← e]; exact List.mem_map.2 ⟨p, hp, rfl⟩)
    · have hk : k ≠ i := fun e => n1 (by rw [e]; exact List.mem_map.2 ⟨(i, t), hm, rfl⟩)
      rw [fill, fill_put x v i t r _ m1 m2 hm, fill, if_neg hk]
theorem allocs_from {P : Program} {ops : Array Oper} {Q : Exit → Act → World → Prop} {md : Region.Mode} {S : World → Prop} {ds : List Nat} {a : Act}
    (ps : List (Nat × Tmp)) (cs : Array Value) (ty : TypeId) (L : (Nat → Bool) → Array Bool) (hn1 : (ps.map (·.1)).Nodup) (hn2 : (ps.map (·.2)).Nodup)
    (hop : ∀ p ∈ ps, p.1 ∉ ds ∧ ∃ o, ops[p.1]? = some o ∧ o.dst = some p.2 ∧ (∀ a : Act, Region.wanted o (yielded ops a.tmps) = true) ∧ ∀ (a : Act) (w : World), (execOp a.eval o).run P w = .ok (.value (.pointer (some ⟨w.heap.size, 0, none⟩))) (w.alloc (.cells cs ty)))
    (hready : ∀ D : Nat → Bool, (∃ p ∈ ps, D p.1 = false) → Region.ready md ops (L D) = (ps.map (·.1)).filter (fun i => !D i))
    (hset : ∀ (D : Nat → Bool), ∀ p ∈ ps, (L D).setIfInBounds p.1 true = L (fun j => if j = p.1 then true else D j))
    (hL : ∀ D D' : Nat → Bool, (∀ p ∈ ps, D p.1 = D' p.1) → L D = L D')
    (hS : ∀ (w : World) (o : Obj), S w → S (w.alloc o)) (fuel : Nat) (w0 : World)
    (hcont : ∀ (b : Nat → Nat) (w' : World), Below w0.heap.size w0 w' → (∀ p ∈ ps, w0.heap.size ≤ b p.1 ∧ w'.heap[b p.1]? = some (.cells cs ty (0, 0))) → (∀ p ∈ ps, ∀ q ∈ ps, b p.1 = b q.1 → p.1 = q.1) → S w' → wpAnyLast P md ops Q S ds fuel (L (fun _ => true)) (fill a ps (fun i => .pointer (some ⟨b i, 0, none⟩))) w') :
    ∀ (n : Nat) (D : Nat → Bool) (b : Nat → Nat) (v : Nat → Value) (w : World), ((ps.map (·.1)).filter (fun i => !D i)).length = n → Below w0.heap.size w0 w →
      (∀ p ∈ ps, D p.1 = true → v p.1 = .pointer (some ⟨b p.1, 0, none⟩) ∧ w0.heap.size ≤ b p.1 ∧ w.heap[b p.1]? = some (.cells cs ty (0, 0))) →
      (∀ p ∈ ps, ∀ q ∈ ps, D p.1 = true → D q.1 = true → b p.1 = b q.1 → p.1 = q.1) → S w → wpAnyLast P md ops Q S ds (fuel + n) (L D) (fill a ps v) w := by
  intro n
  induction n with
  | zero =>
    intro D b v w hlen hB hd hi hSw
    have hall : ∀ p ∈ ps, D p.1 = true := fun p hp => by
      have := List.filter_eq_nil_iff.1 (List.eq_nil_of_length_eq_zero hlen) p.1 (List.mem_map.2 ⟨p, hp, rfl⟩)
      simpa using this
    rw [hL D (fun _ => true) hall, fill_congr ps a v (fun i => .pointer (some ⟨b i, 0, none⟩)) (fun p hp => (hd p hp (hall p hp)).1)]
    exact hcont b w hB (fun p hp => (hd p hp (hall p hp)).2) (fun p hp q hq e => hi p hp q hq (hall p hp) (hall q hq) e) hSw
  | succ n ih =>
    intro D b v w hlen hB hd hi hSw
    have hex : ∃ p ∈ ps, D p.1 = false := by
      cases hf : (ps.map (·.1)).filter (fun i => !D i) with
      | nil => rw [hf] at hlen; simp at hlen
      | cons i r =>
        have hm : i ∈ (ps.map (·.1)).filter (fun i => !D i) := by rw [hf]; exact List.mem_cons_self
        obtain ⟨h1, h2⟩ := List.mem_filter.1 hm
        obtain ⟨p, hp, rfl⟩ := List.mem_map.1 h1
        exact ⟨p, hp, by simpa using h2⟩
    have hr := hready D hex
    refine wpAnyLast_ready (fuel := fuel + n) hr (fun e => ?_) (fun i hi' => ?_)
    · rw [e] at hlen
      simp at hlen
    · obtain ⟨h1, h2⟩ := List.mem_filter.1 hi'
      obtain ⟨p, hp, rfl⟩ := List.mem_map.1 h1
      have hDp : D p.1 = false := by simpa using h2
      obtain ⟨hds, o, ho, hdst, hwant, hrun⟩ := hop p hp
      refine wpOp_step ho (fun K' hK => ?_)
      have hv := value_ (Q := Q) (ops := ops) (K := K') (N := some p.2) (hwant (fill a ps v)) hdst (hrun (fill a ps v) w) (by
        refine hK _ _ ⟨fun _ _ => hS w _ hSw, ?_⟩
        rw [hset D p hp, fill_put _ v p.1 p.2 ps a hn1 hn2 hp]
        have hold : ∀ q ∈ ps, D q.1 = true → b q.1 < w.heap.size := fun q hq hDq => blk_lt (hd q hq hDq).2.2
        refine ih (fun j => if j = p.1 then true else D j) (fun j => if j = p.1 then w.heap.size else b j) _ _ ?_ (below_alloc hB _) (fun q hq hDq => ?_) (fun q hq q' hq' hDq hDq' e => ?_) (hS w _ hSw)
        · -- one less is to come
          have hcount : ∀ l : List Nat, l.Nodup → p.1 ∈ l → (l.filter (fun i => !(if i = p.1 then true else D i))).length + 1 = (l.filter (fun i => !D i)).length := by
            intro l
            induction l with
            | nil => intro _ h; cases h
            | cons x l ihl =>
              intro hnd hm
              obtain ⟨nx, ml⟩ := List.nodup_cons.1 hnd
              by_cases hx : x = p.1
              · subst hx
                have hsame : l.filter (fun i => !(if i = p.1 then true else D i)) = l.filter (fun i => !D i) := List.filter_congr (fun y hy => by
                  have : y ≠ p.1 := fun e => nx (by rw [← e]; exact hy)
                  simp [this])
                rw [List.filter_cons, if_neg (by simp), List.filter_cons, if_pos (by simp [hDp]), hsame]
                rfl
              · have hm' : p.1 ∈ l := by
                  rcases List.mem_cons.1 hm with e | h
                  · exact (hx e.symm).elim
                  · exact h
                have := ihl ml hm'
                cases hDx : D x with
                | true =>
                  rw [List.filter_cons, if_neg (by simp [hx, hDx]), List.filter_cons, if_neg (by simp [hDx])]
                  exact this
                | false =>
                  rw [List.filter_cons, if_pos (by simp [hx, hDx]), List.filter_cons, if_pos (by simp [hDx])]
                  simp only [List.length_cons]
                  omega
          have := hcount (ps.map (·.1)) hn1 (List.mem_map.2 ⟨p, hp, rfl⟩)
          omega
        · by_cases e : q.1 = p.1
          · simp only [if_pos e]
            exact ⟨trivial, hB.size, heap_alloc_new w _⟩
          · simp only [if_neg e] at hDq ⊢
            obtain ⟨x1, x2, x3⟩ := hd q hq hDq
            exact ⟨x1, x2, (World.heap_alloc_lt' w _ _ (hold q hq hDq)).trans x3⟩
        · by_cases e1 : q.1 = p.1
          · by_cases e2 : q'.1 = p.1
            · rw [e1, e2]
            · simp only [if_neg e2] at hDq' e
              rw [if_pos e1] at e
              have := hold q' hq' hDq'
              omega
          · simp only [if_neg e1] at hDq e
            by_cases e2 : q'.1 = p.1
            · rw [if_pos e2] at e
              have := hold q hq hDq
              omega
            · simp only [if_neg e2] at hDq' e
              exact hi q hq q' hq' hDq hDq' e)
      rw [hdst]
      exact hv
/-- The same, from the region's head: none is made yet. -/
theorem allocs_ {P : Program} {ops : Array Oper} {Q : Exit → Act → World → Prop} {md : Region.Mode} {S : World → Prop} {ds : List Nat} {a : Act} {l : Array Bool} {w : World}
    (ps : List (Nat × Tmp)) (cs : Array Value) (ty : TypeId) (L : (Nat → Bool) → Array Bool) (ha0 : fill a ps (fun _ => undef) = a) (hl0 : L (fun _ => false) = l) (hn1 : (ps.map (·.1)).Nodup) (hn2 : (ps.map (·.2)).Nodup)
    (hop : ∀ p ∈ ps, p.1 ∉ ds ∧ ∃ o, ops[p.1]? = some o ∧ o.dst = some p.2 ∧ (∀ a : Act, Region.wanted o (yielded ops a.tmps) = true) ∧ ∀ (a : Act) (w : World), (execOp a.eval o).run P w = .ok (.value (.pointer (some ⟨w.heap.size, 0, none⟩))) (w.alloc (.cells cs ty)))
    (hready : ∀ D : Nat → Bool, (∃ p ∈ ps, D p.1 = false) → Region.ready md ops (L D) = (ps.map (·.1)).filter (fun i => !D i))
    (hset : ∀ (D : Nat → Bool), ∀ p ∈ ps, (L D).setIfInBounds p.1 true = L (fun j => if j = p.1 then true else D j))
    (hL : ∀ D D' : Nat → Bool, (∀ p ∈ ps, D p.1 = D' p.1) → L D = L D')
    (hS : ∀ (w : World) (o : Obj), S w → S (w.alloc o)) (fuel n : Nat) (hn : ps.length = n) (hSw : S w)
    (hcont : ∀ (b : Nat → Nat) (w' : World), Below w.heap.size w w' → (∀ p ∈ ps, w.heap.size ≤ b p.1 ∧ w'.heap[b p.1]? = some (.cells cs ty (0, 0))) → (∀ p ∈ ps, ∀ q ∈ ps, b p.1 = b q.1 → p.1 = q.1) → S w' → wpAnyLast P md ops Q S ds fuel (L (fun _ => true)) (fill a ps (fun i => .pointer (some ⟨b i, 0, none⟩))) w') :
    wpAnyLast P md ops Q S ds (fuel + n) l a w := by
  subst hl0
  subst hn
  have hmain := allocs_from (a := a) ps cs ty L hn1 hn2 hop hready hset hL hS fuel w hcont ps.length (fun _ => false) (fun _ => 0) (fun _ => undef) w ?_ (Below.refl _ _) (fun p hp h => by cases h) (fun p hp q hq h => by cases h) hSw
  · rw [ha0] at hmain
    exact hmain
  have e : (ps.map (·.1)).filter (fun i => !(false : Bool)) = ps.map (·.1) := List.filter_eq_self.2 (fun _ _ => rfl)
  rw [e, List.length_map]
/-! ### Blocks of the call's own, by a list -/
structure Bx (w wr : World) (l : List (Nat × TypeId × Array Value)) : Prop where
  box : ∀ p ∈ l, wr.heap[p.1]? = some (.cells p.2.2 p.2.1 (0, 0)) ∧ w.heap.size ≤ p.1
  ne : l.Pairwise (fun p q => p.1 ≠ q.1)
  bl : Below w.heap.size w wr
section
variable {w wr w1 : World} {l : List (Nat × TypeId × Array Value)}
theorem Bx.nil (h : Below w.heap.size w wr) : Bx w wr [] := ⟨fun _ h => (by cases h), List.Pairwise.nil, h⟩
theorem Bx.lt (h : Bx w wr l) {p : Nat × TypeId × Array Value} (hp : p ∈ l) : p.1 < wr.heap.size := blk_lt (h.box p hp).1
theorem Bx.below (h : Bx w wr l) (hb : Below wr.heap.size wr w1) : Bx w w1 l := ⟨fun p hp => ⟨blk_below (h.box p hp).1 hb, (h.box p hp).2⟩, h.ne, below_step h.bl hb⟩
theorem Bx.many (h : Bx w wr l) (hb : Below wr.heap.size wr w1) (m : List (Nat × TypeId × Array Value)) (hm : ∀ p ∈ m, wr.heap.size ≤ p.1 ∧ w1.heap[p.1]? = some (.cells p.2.2 p.2.1 (0, 0))) (hn : m.Pairwise (fun p q => p.1 ≠ q.1)) : Bx w w1 (m ++ l) := by
  refine ⟨fun p hp => ?_, List.pairwise_append.2 ⟨hn, h.ne, fun p hp q hq e => ?_⟩, below_step h.bl hb⟩
  · rcases List.mem_append.1 hp with hp | hp
    · exact ⟨(hm p hp).2, Nat.le_trans h.bl.size (hm p hp).1⟩
    · exact (h.below hb).box p hp
  · have := (hm p hp).1
    have := h.lt hq
    omega
theorem Bx.cons (h : Bx w wr l) {g : Nat} {t : TypeId} {cs : Array Value} (hb : Below wr.heap.size wr w1) (hg : wr.heap.size ≤ g) (hc : w1.heap[g]? = some (.cells cs t (0, 0))) : Bx w w1 ((g, t, cs) :: l) :=
  h.many hb [(g, t, cs)] (fun p hp => by obtain rfl := List.mem_singleton.1 hp; exact ⟨hg, hc⟩) (List.pairwise_singleton _ _)
theorem Bx.at_ (h : Bx w wr l) (i : Nat) {g : Nat} {t : TypeId} {cs : Array Value} (hi : l[i]? = some (g, t, cs)) : wr.heap[g]? = some (.cells cs t (0, 0)) := (h.box (g, t, cs) (List.mem_of_getElem? hi)).1
theorem Bx.ge (h : Bx w wr l) (i : Nat) {g : Nat} {t : TypeId} {cs : Array Value} (hi : l[i]? = some (g, t, cs)) : w.heap.size ≤ g := (h.box (g, t, cs) (List.mem_of_getElem? hi)).2
theorem Bx.put (h : Bx w wr l) (i : Nat) {g : Nat} {t : TypeId} {cs cs' : Array Value} (hi : l[i]? = some (g, t, cs)) (hp : Put wr w1 g t cs') : Bx w w1 (l.set i (g, t, cs')) := by
  obtain ⟨hlt, hget⟩ := List.getElem?_eq_some_iff.1 hi
  have hmap : (l.set i (g, t, cs')).map (·.1) = l.map (·.1) := by
    apply List.ext_getElem (by simp)
    intro j h1 h2
    simp only [List.getElem_map, List.getElem_set]
    split
    · rename_i e
      subst e
      rw [hget]
    · rfl
  refine ⟨fun p hm => ?_, ?_, hp.bl w h.bl (h.ge i hi)⟩
  · obtain ⟨j, hj, e⟩ := List.getElem_of_mem hm
    rw [List.getElem_set] at e
    split at e
    · subst e
      exact ⟨hp.box, h.ge i hi⟩
    · rename_i hij
      subst e
      have hj' : j < l.length := by simpa using hj
      have hm' := h.box l[j] (List.getElem_mem hj')
      refine ⟨hp.keep hm'.1 ?_, hm'.2⟩
      have hpw := List.pairwise_iff_getElem.1 h.ne
      rcases Nat.lt_or_gt_of_ne hij with hlt2 | hlt2
      · have := hpw i j hlt hj' hlt2
        rw [hget] at this
        exact fun e => this e.symm
      · have := hpw j i hj' hlt hlt2
        rw [hget] at this
        exact this
  · have h1 : ((l.set i (g, t, cs')).map (·.1)).Pairwise (· ≠ ·) := by
      rw [hmap, List.pairwise_map]
      exact h.ne
    rw [List.pairwise_map] at h1
    exact h1
theorem Bx.rest (h : Bx w wr l) (k : Nat) : Bx w wr (l.drop k) := ⟨fun p hp => h.box p (List.mem_of_mem_drop hp), h.ne.sublist (List.drop_sublist _ _), h.bl⟩
end
end Go.Proofs.YtloclimoffhbhaaDoor.Hand
