-- The walks of the chain's functions (version), by hand; the library's few by the print.
import Derived.Test.YtdemogdagemagaaPVcx5
import Derived.Maps.RangeWalk
namespace Go.Proofs.Ytdemogdagemagaa.PVc
open Go.RowKit Go.Proofs.YtdemogdagemagaaW.PrintWords Go.Proofs.YtdemogdagemagaaW.PrintLast Go.Proofs.YtdemogdagemagaaW.PrintMore
attribute [local go_sem] max2_int min2_int max_two min_two max_three min_three max_four min_four   -- for this text's walks alone
set_option linter.unusedVariables false
set_option linter.unusedSimpArgs false

open Go.Proofs.Ytdemogdagemagaa.Hand
/-! ### A map[int]int, told as a function -/
def w64 (x : Int) : Prop := -9223372036854775808 ≤ x ∧ x ≤ 9223372036854775807
theorem w64_wf {x : Int} (h : w64 x) : (Lit.int .i64 x).wf = true := WalkArith.wf_i64 (by unfold w64 at h; omega)
theorem wf_w64 {x : Int} (h : (Lit.int .i64 x).wf = true) : w64 x := by
  simp [Lit.wf] at h
  exact h
def MapI (w : World) (b n : Nat) (f : Int → Int) : Prop := ∃ D : DataW Unit, w.ownsMap Try.prog 3 (plainElem Try.prog 3) b n D ∧ ∀ x, w64 x → D.atKey (.int .i64 x) (.lit (.int .i64 0)) = .lit (.int .i64 (f x))
theorem lit_inj {a b : Int} (h : (DataW.lit (.int .i64 a) : DataW Unit) = .lit (.int .i64 b)) : a = b := by
  cases h
  rfl
theorem zeroI (w : World) : (zeroValue 3).run Try.prog w = .ok (.int .i64 0) w := by kernel_rfl
theorem MapI.made (w : World) : MapI (w.alloc (.map #[] 0)) w.heap.size 0 (fun _ => 0) := ⟨.map [], World.ownsMap_made w _ _ _, fun _ _ => rfl⟩
theorem MapI.same {w w1 : World} {b n : Nat} {f : Int → Int} (h : MapI w b n f) (he : w1.heap[b]? = w.heap[b]?) : MapI w1 b n f := by
  obtain ⟨D, ⟨es, clock, hb, r⟩, hf⟩ := h
  exact ⟨D, ⟨es, clock, he.trans hb, r⟩, hf⟩
theorem MapI.lt {w : World} {b n : Nat} {f : Int → Int} (h : MapI w b n f) : b < w.heap.size := let ⟨_, h, _⟩ := h; h.lt
theorem mapB_same {w w1 : World} {b n : Nat} {f : Int → Bool} (h : MapB Try.prog 3 4 (Value.int .i64) w b n f) (he : w1.heap[b]? = w.heap[b]?) : MapB Try.prog 3 4 (Value.int .i64) w1 b n f := by
  obtain ⟨D, ⟨es, clock, hb, r⟩, hf⟩ := h
  exact ⟨D, ⟨es, clock, he.trans hb, r⟩, hf⟩
theorem MapI.lookup {w : World} {b n : Nat} {f : Int → Int} (h : MapI w b n f) {x : Int} (hx : w64 x) : (Instr.lookup 78 (.map (some b)) (.int .i64 x) false).run Try.prog w = .ok (.int .i64 (f x)) w := by
  obtain ⟨D, h, hf⟩ := h
  obtain ⟨c, hrun, hat, hwc⟩ := h.lookup_int law3 Try.underlying78 Try.underlying3 (zeroI w) (key3 x hx.1 hx.2)
  rw [hf x hx] at hat
  rw [lit_inj hat]
  exact hrun
theorem mapB_lookup {w : World} {b n : Nat} {f : Int → Bool} (h : MapB Try.prog 3 4 (Value.int .i64) w b n f) {x : Int} (hx : w64 x) : (Instr.lookup 79 (.map (some b)) (.int .i64 x) false).run Try.prog w = .ok (.bool (f x)) w :=
  h.lookup law3 Try.underlying79 Try.underlying4 (zeroB w) (key3 x hx.1 hx.2)
theorem MapI.update {w : World} {b n : Nat} {f : Int → Int} (h : MapI w b n f) (hn : n < maxLen) {x c : Int} (hx : w64 x) (hc : w64 c) : ∃ w', (Instr.mapUpdate 78 (.map (some b)) (.int .i64 x) (.int .i64 c)).run Try.prog w = .ok () w' ∧ MapI w' b (n + 1) (fun y => if y = x then c else f y) ∧ w.grownBy w' (some b) := by
  obtain ⟨D, h, hf⟩ := h
  obtain ⟨w', hr, h2, hg⟩ := h.update law3 Try.underlying78 hn (key3 x hx.1 hx.2) (plainElem_int Try.underlying3 (w64_wf hc))
  refine ⟨w', hr, ⟨_, h2, fun y hy => ?_⟩, hg⟩
  by_cases e : y = x
  · subst e
    simp only [if_true]
    exact Go.Maps.atKey_put_same h.isMap (law3.key (key3 y hx.1 hx.2)) _ _
  · have hne : (Lit.int .i64 y) ≠ .int .i64 x := fun e2 => e (by injection e2)
    simp only [if_neg e]
    exact (Go.Maps.atKey_put_other hne _ _).trans (hf y hy)
theorem wpList_update_i {w : World} {b n : Nat} {f : Int → Int} {ops : Array Oper} {rest : List Oper} {o : Oper} {a : Act} {Q : Exit → Act → World → Prop} (hg : o.guard = none) (m x v : Operand) (hop : o.op = Op.mapUpdate 78 m x v)
    (hn : n < maxLen) (hm : a.eval m = .map (some b)) (h : MapI w b n f) (y c : Int) (hx : a.eval x = .int .i64 y) (hv : a.eval v = .int .i64 c) (hy : w64 y) (hc : w64 c)
    (hK : ∀ w', MapI w' b (n + 1) (fun z => if z = y then c else f z) → w.grownBy w' (some b) → wpList Try.prog ops Q rest (a.put o.dst undef) w') : wpList Try.prog ops Q (o :: rest) a w := by
  refine wpList_plain hg fun K' hK' => ?_
  obtain ⟨w', hr, h2, h3⟩ := h.update hn hy hc
  unfold Oper.wp
  simp [execOp, hop, hm, hx, hv, hr, Result.andThen]
  exact hK' _ _ (hK w' h2 h3)
/-- A range over such a map under way: 'left x': x is still to come. -/
def RanI (w : World) (b r n : Nat) (f : Int → Int) (left : Int → Bool) (cnt : Nat) : Prop := ∃ (D : DataW Unit) (lf : Lit → Bool), w.ranges Try.prog 3 (plainElem Try.prog 3) b r n D lf cnt ∧ (∀ x, w64 x → D.atKey (.int .i64 x) (.lit (.int .i64 0)) = .lit (.int .i64 (f x))) ∧ ∀ x, w64 x → left x = lf (.int .i64 x)
theorem RanI.owns {w : World} {b r n : Nat} {f : Int → Int} {left : Int → Bool} {cnt : Nat} (h : RanI w b r n f left cnt) : MapI w b n f := let ⟨D, _, h, hf, _⟩ := h; ⟨D, h.owns, hf⟩
theorem RanI.same {w w1 : World} {b r n : Nat} {f : Int → Int} {left : Int → Bool} {cnt : Nat} (h : RanI w b r n f left cnt) (he : w1.heap[b]? = w.heap[b]?) (he' : w1.heap[r]? = w.heap[r]?) : RanI w1 b r n f left cnt := by
  obtain ⟨D, lf, ⟨es, clock, since, seen, c0, hb, F, hs, hD, hr, rest⟩, h2⟩ := h
  exact ⟨D, lf, ⟨es, clock, since, seen, c0, he.trans hb, F, hs, hD, he'.trans hr, rest⟩, h2⟩
theorem wpList_range_i {w : World} {b n : Nat} {f : Int → Int} {ops : Array Oper} {rest : List Oper} {o : Oper} {a : Act} {Q : Exit → Act → World → Prop} (hg : o.guard = none) (m : Operand) (hop : o.op = Op.range 78 m) (hm : a.eval m = .map (some b)) (h : MapI w b n f)
    (hK : ∀ w' left cnt, RanI w' b w.heap.size n f left cnt → (∀ x, w64 x → left x = false → f x = 0) → w.grownBy w' none → w'.heap.size = w.heap.size + 1 → wpList Try.prog ops Q rest (a.put o.dst (.pointer (some ⟨w.heap.size, 0, none⟩))) w') :
    wpList Try.prog ops Q (o :: rest) a w := by
  obtain ⟨D, h, hf⟩ := h
  refine wpList_range_own w hg m 78 hop 3 3 law3 Try.underlying78 _ b n D hm h (fun w' hr hgr hs => ?_)
  refine hK w' (fun x => Maps.has D (.int .i64 x)) _ ⟨D, Maps.has D, hr, hf, fun _ _ => rfl⟩ (fun x hx hn => ?_) hgr hs
  have := hf x hx
  rw [Go.Maps.atKey_of_not_has hn] at this
  exact (lit_inj this).symm
theorem wpList_next_i {w : World} {b r n : Nat} {f : Int → Int} {left : Int → Bool} {cnt : Nat} {ops : Array Oper} {rest : List Oper} {o : Oper} {a : Act} {Q : Exit → Act → World → Prop} (hg : o.guard = none) (it : Operand) (hop : o.op = Op.next it false) (hit : a.eval it = .pointer (some ⟨r, 0, none⟩)) (h : RanI w b r n f left cnt)
    (hDone : (∀ x, w64 x → left x = false) → wpList Try.prog ops Q rest (a.put o.dst (.tuple #[.bool false])) w)
    (hMore : ∀ (x : Int) (w' : World) (cnt' : Nat), w64 x → left x = true → RanI w' b r n f (fun z => left z && !decide (z = x)) cnt' → cnt' < cnt → w.grownBy w' (some r) → w'.heap.size = w.heap.size →
      (Instr.entry (.pointer (some ⟨r, 0, none⟩))).run Try.prog w' = .ok (.tuple #[.int .i64 x, .int .i64 (f x)]) w' → wpList Try.prog ops Q rest (a.put o.dst (.tuple #[.bool true, .int .i64 x, .int .i64 (f x)])) w') :
    wpList Try.prog ops Q (o :: rest) a w := by
  obtain ⟨D, lf, h, hf, hl⟩ := h
  refine wpList_next_ranges_ii w hg it hop 3 3 .i64 .i64 law3 Try.underlying3 Try.underlying3 b r n D lf cnt hit h (fun _ h0 => hDone (fun x hx => by rw [hl x hx, h0])) (fun x c w' cnt' wx wc hlx hat hr hlt hgr hs hen => ?_)
  have hx := wf_w64 wx
  have hc : c = f x := by
    have h1 := hat (.lit (.int .i64 0))
    rw [hf x hx] at h1
    exact (lit_inj h1).symm
  subst hc
  refine hMore x w' cnt' hx (by rw [hl x hx]; exact hlx) ⟨D, _, hr, hf, fun z hz => ?_⟩ hlt hgr hs hen
  show (left z && !decide (z = x)) = (lf (.int .i64 z) && !(Lit.int .i64 z).sameKey (.int .i64 x))
  rw [hl z hz]
  congr 2
  by_cases e : z = x
  · subst e
    rw [decide_eq_true rfl]
    exact (WideAt.sameKey_self (law3.key (key3 z hz.1 hz.2))).symm
  · rw [decide_eq_false e]
    exact (Go.Maps.sameKey_ne (fun e2 => e (by injection e2))).symm
/-! ### The chain and the two maps -/
structure Hd (w wr : World) (S : Nat → Prop) (g : Nat) (its : List S96) (ps : List Int) (bh bx nh nx : Nat) (f : Int → Int) (fx : Int → Bool) : Prop where
  chn : Chn w wr S g its ps
  hm : MapI wr bh nh f
  xm : MapB Try.prog 3 4 (Value.int .i64) wr bx nx fx
  sh : ¬ S bh
  sx : ¬ S bx
  ne : bh ≠ bx
  gh : w.heap.size ≤ bh
  gx : w.heap.size ≤ bx
  bl : Below w.heap.size w wr
section
variable {w wr w1 : World} {S : Nat → Prop} {g : Nat} {its its2 : List S96} {ps ps2 : List Int} {bh bx nh nx : Nat} {f : Int → Int} {fx : Int → Bool}
theorem Hd.bound (h : Hd w wr S g its ps bh bx nh nx f fx) : Hd w wr (fun k => S k ∧ k < wr.heap.size) g its ps bh bx nh nx f fx :=
  { h with chn := Chn.mono h.chn.bound (fun k hk => ⟨hk.1, hk.2.2⟩), sh := fun hk => h.sh hk.1, sx := fun hk => h.sx hk.1 }
theorem Hd.below (h : Hd w wr S g its ps bh bx nh nx f fx) (hb : Below wr.heap.size wr w1) : Hd w w1 S g its ps bh bx nh nx f fx :=
  { h with chn := h.chn.below hb, hm := h.hm.same (hb.block _ h.hm.lt), xm := mapB_same h.xm (hb.block _ h.xm.lt), bl := below_step h.bl hb }
theorem Hd.done (h : Hd w wr S g its ps bh bx nh nx f fx) (d : Done w wr w1 S g its2 ps2) : Hd w w1 (fun k => S k ∨ wr.heap.size ≤ k) g its2 ps2 bh bx nh nx f fx :=
  ⟨d.chn, h.hm.same (d.2.2.2 _ h.hm.lt h.sh), mapB_same h.xm (d.2.2.2 _ h.xm.lt h.sx), fun hk => hk.elim h.sh (fun hk => by have := h.hm.lt; omega), fun hk => hk.elim h.sx (fun hk => by have := h.xm.lt; omega), h.ne, h.gh, h.gx, d.bl⟩
theorem Hd.upH {f2 : Int → Int} {n2 : Nat} (h : Hd w wr S g its ps bh bx nh nx f fx) (hm : MapI w1 bh n2 f2) (hg : wr.grownBy w1 (some bh)) : Hd w w1 S g its ps bh bx n2 nx f2 fx :=
  { h with chn := h.chn.kept (T := fun k => k = bh) (Kept.of_grown hg (Kept.refl _ _) (fun k hk => .inl (by injection hk with hk; exact hk.symm))) (fun k hk e => h.sh (by rw [← e]; exact hk)), hm := hm, xm := h.xm.kept hg (fun e => h.ne (by injection e with e; exact e.symm)), bl := below_upd h.bl hg h.gh }
theorem Hd.upX {fx2 : Int → Bool} {n2 : Nat} (h : Hd w wr S g its ps bh bx nh nx f fx) (hm : MapB Try.prog 3 4 (Value.int .i64) w1 bx n2 fx2) (hg : wr.grownBy w1 (some bx)) : Hd w w1 S g its ps bh bx nh n2 f fx2 :=
  { h with chn := h.chn.kept (T := fun k => k = bx) (Kept.of_grown hg (Kept.refl _ _) (fun k hk => .inl (by injection hk with hk; exact hk.symm))) (fun k hk e => h.sx (by rw [← e]; exact hk)), xm := hm, hm := h.hm.same (hg.block _ h.hm.lt (fun e => h.ne (by injection e with e))), bl := below_upd h.bl hg h.gx }
/-- An iterator's block has turned. -/
theorem Hd.upR {r : Nat} (h : Hd w wr S g its ps bh bx nh nx f fx) (hg : wr.grownBy w1 (some r)) (hs : ¬ S r) (h1 : r ≠ bh) (h2 : r ≠ bx) (h3 : w.heap.size ≤ r) : Hd w w1 S g its ps bh bx nh nx f fx :=
  { h with chn := h.chn.kept (T := fun k => k = r) (Kept.of_grown hg (Kept.refl _ _) (fun k hk => .inl (by injection hk with hk; exact hk.symm))) (fun k hk e => hs (by rw [← e]; exact hk)), hm := h.hm.same (hg.block _ h.hm.lt (fun e => h1 (by injection e with e; exact e.symm))), xm := h.xm.kept hg (fun e => h2 (by injection e with e; exact e.symm)), bl := below_upd h.bl hg h3 }
theorem Hd.grown (h : Hd w wr S g its ps bh bx nh nx f fx) (hg : wr.grownBy w1 none) : Hd w w1 S g its ps bh bx nh nx f fx :=
  h.below ⟨hg.os, hg.tape, hg.output, hg.size, fun i hi => hg.block i hi (by simp)⟩
theorem Hd.view (h : Hd w wr S g its ps bh bx nh nx f fx) : View wr g its ps := h.chn.view
end
/-! ### The plain facts -/
theorem val_at {its : List S96} {ps E : List Int} (h : Rel its ps E E) (a : Int) (ha : a ∈ ps) : ∃ v, getE its ps a = (v, true) ∧ v ≤ a ∧ (a ∈ E → v = a) := by
  have hh : hasR E ps a = true := by simp [hasR]; exact .inr ha
  obtain ⟨h0, h1, h2⟩ := h.get_ a hh
  refine ⟨_, h2, ?_⟩
  obtain ⟨j, hj⟩ : ∃ j : Nat, atR E a = (j : Int) := ⟨(atR E a).toNat, by omega⟩
  rw [hj] at h0 h1 ⊢
  have hjl : j < E.length := by omega
  rw [rd_lt hjl]
  have hz : j < (Z E E).length := by rw [Z_len rfl]; exact hjl
  have hat := (isAt_iff h.inc a hz).1 (by rw [← atR_eq rfl, hj])
  rw [Z_get rfl hjl] at hat
  obtain ⟨_, h3, h4⟩ := hat
  refine ⟨h3, fun hm => ?_⟩
  obtain ⟨k, hk, e⟩ := List.getElem_of_mem hm
  have := h4 ⟨E[k], E[k]⟩ (by rw [← Z_get (E := E) (V := E) rfl hk]; exact List.getElem_mem _) (by show E[k] ≤ a; omega)
  have h5 : E[k] ≤ E[j] := this
  have h6 : E[j] ≤ a := h3
  omega
theorem nodup_less {L : List S96} (h : IncL L) (a : S96) : L.length ≤ (L.filter (fun x => decide (x.f0 ≠ a.f0))).length + 1 := by
  induction L with
  | nil => simp
  | cons x L ih =>
    obtain ⟨h1, h2⟩ := List.pairwise_cons.1 h
    by_cases e : x.f0 = a.f0
    · have : L.filter (fun x => decide (x.f0 ≠ a.f0)) = L := by
        rw [List.filter_eq_self]
        intro y hy
        have := h1 y hy
        simp only [decide_eq_true_eq]
        omega
      rw [List.filter_cons, if_neg (by simpa using e), this]
      simp
    · rw [List.filter_cons, if_pos (by simpa using e)]
      have := ih h2
      simp only [List.length_cons]
      omega
/-- A rising list, each member of which is the one of some of vis, or the last: it isn't longer. -/
theorem few {M : List S96} (P : Int → S96 → Prop) (hP : ∀ p x y, P p x → P p y → x.f0 = y.f0) : ∀ (vis : List Int) (L : List S96), IncL L → (∀ x ∈ L, ∃ p ∈ vis, P p x) → L.length ≤ vis.length := by
  intro vis
  induction vis with
  | nil =>
    intro L _ h
    cases L with
    | nil => simp
    | cons x L => obtain ⟨p, hp, _⟩ := h x List.mem_cons_self; cases hp
  | cons p vis ih =>
    intro L hL h
    by_cases he : ∃ x ∈ L, P p x
    · obtain ⟨a, ha, hpa⟩ := he
      have h1 := nodup_less hL a
      have h2 := ih (L.filter (fun x => decide (x.f0 ≠ a.f0))) (hL.sublist List.filter_sublist) (fun x hx => by
        obtain ⟨hx1, hx2⟩ := List.mem_filter.1 hx
        obtain ⟨q, hq, hqx⟩ := h x hx1
        rcases List.mem_cons.1 hq with rfl | hq
        · have := hP q x a hqx hpa
          simp at hx2
          exact (hx2 this).elim
        · exact ⟨q, hq, hqx⟩)
      simp only [List.length_cons]
      omega
    · have := ih L hL (fun x hx => by
        obtain ⟨q, hq, hqx⟩ := h x hx
        rcases List.mem_cons.1 hq with rfl | hq
        · exact (he ⟨x, hx, hqx⟩).elim
        · exact ⟨q, hq, hqx⟩)
      simp only [List.length_cons]
      omega
theorem live_few {its : List S96} {ps E V : List Int} (h : Rel its ps E V) (vis : List Int) (hv : ∀ p ∈ ps, p ∈ vis) : its.length ≤ vis.length + 1 := by
  have hi : IncL its := by rw [h.items]; exact retire_inc h.inc ps
  cases its with
  | nil => simp
  | cons z t =>
    have hlast := last_max hi (by simp)
    -- the last one is left out
    have h1 := nodup_less hi ((z :: t)[(z :: t).length - 1]'(by simp))
    have hL : IncL ((z :: t).filter (fun x => decide (x.f0 ≠ ((z :: t)[(z :: t).length - 1]'(by simp)).f0))) := hi.sublist List.filter_sublist
    have h2 := few (M := Z E V) (fun p x => isAt (Z E V) p x) (fun p x y hx hy => by
      have a := hx.2.2 y hy.1 hy.2.1
      have b := hy.2.2 x hx.1 hx.2.1
      omega) vis _ hL (fun x hx => by
        obtain ⟨hx1, hx2⟩ := List.mem_filter.1 hx
        have hm : x ∈ retireE (Z E V) ps := by rw [← h.items]; exact hx1
        obtain ⟨hz, hl⟩ := (mem_retire h.inc ps x).1 hm
        rcases hl with hl | ⟨p, hp, hat⟩
        · have hsub := retGo_sub (keepB (Z E V) ps) (Z E V) 0
          rw [show retGo (keepB (Z E V) ps) (Z E V) 0 = z :: t from h.items.symm] at hsub
          have hin := hsub.subset (List.getElem_mem (show (z :: t).length - 1 < (z :: t).length by simp))
          have a := hl _ hin
          have b := hlast x hx1
          simp at hx2
          simp at a b
          omega
        · exact ⟨p, hv p hp, hat⟩)
    simp only [List.length_cons] at *
    omega


open Go.Proofs.Ytdemogdagemagaa.Hand
structure Ih (i : Nat) (its : List S96) (ps E : List Int) (now : Int) (f : Int → Int) (fx : Int → Bool) : Prop where
  rel : Rel its ps E E
  now_ : lst E = now
  cnt : ∀ x, f x = ((ps.count x : Nat) : Int)
  exa : ∀ x, fx x = true → x ∈ E
  b1 : ps.length ≤ i
  b2 : E.length ≤ i + 1
  b3 : 0 ≤ now ∧ now ≤ 3 * i
  b4 : ∀ p ∈ ps, 0 ≤ p ∧ p ≤ 3 * i + 10
theorem Ih.start : Ih 0 [⟨0, 0⟩] [] [0] 0 (fun _ => 0) (fun _ => false) :=
  ⟨Rel.new_ 0, (by simp [lst]), (fun _ => by simp), (fun _ h => by cases h), (by simp), (by simp), (by simp), (fun p hp => by cases hp)⟩
theorem Hd.start {w w1 : World} {g : Nat} (hc : Chn w w1 (fun k => w.heap.size ≤ k) g [⟨0, 0⟩] []) (hb : Below w.heap.size w w1) :
    Hd w ((w1.alloc (.map #[] 0)).alloc (.map #[] 0)) (fun k => w.heap.size ≤ k ∧ k < w1.heap.size) g [⟨0, 0⟩] [] w1.heap.size (w1.heap.size + 1) 0 0 (fun _ => 0) (fun _ => false) := by
  have hs := hb.size
  have hz : (w1.alloc (.map #[] 0)).heap.size = w1.heap.size + 1 := by simp
  have b1 : Below w1.heap.size w1 (w1.alloc (.map #[] 0)) := below_alloc (Below.refl _ _) _
  have b2 : Below (w1.alloc (.map #[] 0)).heap.size (w1.alloc (.map #[] 0)) ((w1.alloc (.map #[] 0)).alloc (.map #[] 0)) := below_alloc (Below.refl _ _) _
  have c1 : Chn w w1 (fun k => w.heap.size ≤ k ∧ k < w1.heap.size) g [⟨0, 0⟩] [] := Chn.mono hc.bound (fun k hk => ⟨hk.1, hk.2.2⟩)
  refine ⟨(c1.below b1).below b2, (MapI.made w1).same (b2.block _ (by omega)), by rw [← hz]; exact MapB.made _ _ _ _ _, by omega, by omega, by omega, hs, by omega, below_step (below_step hb b1) b2⟩
theorem step3 {a gi : Int} (h0 : 0 ≤ gi) (h1 : gi < 256) (ha : 0 ≤ a) (hb : a ≤ 1000) : ∃ b, wrap64 (a + wrap64 (1 + (wrap64 gi).tmod 3)) = b ∧ a < b ∧ b ≤ a + 3 := by
  rw [wrap64_id gi (by omega) (by omega)]
  have e : gi.tmod 3 = gi % 3 := Int.tmod_eq_emod_of_nonneg h0
  rw [e, wrap64_id (1 + gi % 3) (by omega) (by omega), wrap64_id _ (by omega) (by omega)]
  exact ⟨_, rfl, by omega, by omega⟩
theorem step5 {a gi : Int} (h0 : 0 ≤ gi) (h1 : gi < 256) (ha : 0 ≤ a) (hb : a ≤ 1000) : ∃ b, wrap64 (a + (wrap64 gi).tmod 5) = b ∧ a ≤ b ∧ b ≤ a + 4 ∧ b = a + gi % 5 := by
  rw [wrap64_id gi (by omega) (by omega)]
  have e : gi.tmod 5 = gi % 5 := Int.tmod_eq_emod_of_nonneg h0
  rw [e, wrap64_id _ (by omega) (by omega)]
  exact ⟨_, rfl, by omega, by omega, by omega⟩
section
variable {i : Nat} {its : List S96} {ps E : List Int} {now : Int} {f : Int → Int} {fx : Int → Bool}
theorem ilens (h : Ih i its ps E now f fx) (hi : i < 61) : 0 < its.length ∧ its.length ≤ 61 := by
  have h3 := h.rel.posI
  have h4 := (retGo_sub (keepB (Z E E) ps) (Z E E) 0).length_le
  rw [show retGo (keepB (Z E E) ps) (Z E E) 0 = its from h.rel.items.symm, Z_len rfl] at h4
  have := h.b2
  omega
theorem Ih.pubs (h : Ih i its ps E now f fx) (b : Int) (hb : now < b) : ∃ its2, pubE its ps b b = (0, its2) ∧ Rel its2 ps (E ++ [b]) (E ++ [b]) := by
  obtain ⟨its2, h1, h2⟩ := h.rel.pub_ b b
  have e : pubR E E b b = (E ++ [b], E ++ [b], 0) := by unfold pubR; rw [if_neg (by rw [h.now_]; omega)]
  rw [e] at h1 h2
  exact ⟨its2, h1, h2⟩
theorem Ih.pub (h : Ih i its ps E now f fx) (b : Int) (hb : now < b) (hb2 : b ≤ now + 3) {its2 : List S96} (hr : Rel its2 ps (E ++ [b]) (E ++ [b])) : Ih (i + 1) its2 ps (E ++ [b]) b f fx :=
  ⟨hr, lst_snoc E b, h.cnt, fun x hx => List.mem_append.2 (.inl (h.exa x hx)), by have := h.b1; omega, by have := h.b2; simp; omega, by have := h.b3; omega, fun p hp => by have := h.b4 p hp; omega⟩
theorem Ih.pins (h : Ih i its ps E now f fx) (a : Int) (ha : now ≤ a) : pinE its ps a = (0, ps ++ [a]) ∧ Rel its (ps ++ [a]) E E := by
  obtain ⟨h1, h2⟩ := h.rel.pin_ a
  have e : pinR E ps a = (0, ps ++ [a]) := by
    unfold pinR
    rw [if_pos]
    refine ⟨by have := h.b3.1; omega, ?_⟩
    simp [hasR]
    left
    rw [h.now_]
    exact ha
  rw [e] at h1 h2
  exact ⟨h1, h2⟩
theorem lst_mem {E : List Int} (h : 0 < E.length) : lst E ∈ E := by
  rw [lst_eq h]
  exact List.getElem_mem _
theorem Ih.pin (h : Ih i its ps E now f fx) (a ca c1 : Int) (z : Bool) (ha : now ≤ a) (ha2 : a ≤ now + 4) (hca : f a = ca) (hc : c1 = ca + 1) (hr : Rel its (ps ++ [a]) E E) :
    Ih (i + 1) its (ps ++ [a]) E now (fun y => if y = a then c1 else f y) (fun y => if y = now then z else fx y) := by
  refine ⟨hr, h.now_, fun x => ?_, fun x hx => ?_, by have := h.b1; simp; omega, by have := h.b2; omega, by have := h.b3; omega, fun p hp => ?_⟩
  · show (if x = a then c1 else f x) = _
    rw [List.count_append]
    by_cases e : x = a
    · subst e
      rw [if_pos rfl, hc, ← hca, h.cnt x]
      simp
    · rw [if_neg e, h.cnt x]
      have : [a].count x = 0 := by simp [List.count_singleton, Ne.symm e]
      rw [this]
      simp
  · by_cases e : x = now
    · rw [e, ← h.now_]
      exact lst_mem h.rel.pos
    · rw [if_neg e] at hx
      exact h.exa x hx
  · rcases List.mem_append.1 hp with hp | hp
    · have := h.b4 p hp
      omega
    · obtain rfl := List.mem_singleton.1 hp
      have := h.b3
      omega
theorem Ih.stay (h : Ih i its ps E now f fx) : Ih (i + 1) its ps E now f fx :=
  ⟨h.rel, h.now_, h.cnt, h.exa, by have := h.b1; omega, by have := h.b2; omega, by have := h.b3; omega, fun p hp => by have := h.b4 p hp; omega⟩
theorem Ih.unps (h : Ih i its ps E now f fx) (x : Int) (hx : 0 < f x) : x ∈ ps ∧ ∃ its2, unpE its ps x = (0, its2, ps.erase x) ∧ Rel its2 (ps.erase x) E E := by
  have hm : x ∈ ps := by
    rw [h.cnt x] at hx
    exact List.count_pos_iff.1 (by omega)
  obtain ⟨its2, h1, h2⟩ := h.rel.unp_ x
  have e : unpR ps x = (0, ps.erase x) := by unfold unpR; rw [if_pos hm]
  rw [e] at h1 h2
  exact ⟨hm, its2, h1, h2⟩
theorem Ih.unp (h : Ih i its ps E now f fx) (x cx c1 : Int) (hcx : f x = cx) (hc : c1 = cx - 1) (hm : x ∈ ps) {its2 : List S96} (hr : Rel its2 (ps.erase x) E E) :
    Ih (i + 1) its2 (ps.erase x) E now (fun y => if y = x then c1 else f y) fx := by
  have hle := List.length_erase_le (a := x) (l := ps)
  refine ⟨hr, h.now_, fun y => ?_, h.exa, by have := h.b1; omega, by have := h.b2; omega, by have := h.b3; omega, fun p hp => by have := h.b4 p (List.mem_of_mem_erase hp); omega⟩
  show (if y = x then c1 else f y) = _
  by_cases e : y = x
  · subst e
    rw [if_pos rfl, hc, ← hcx, h.cnt y, List.count_erase_self]
    have : 0 < ps.count y := List.count_pos_iff.2 hm
    omega
  · rw [if_neg e, h.cnt y, List.count_erase_of_ne e]
end
theorem RanI.few {w : World} {b r n : Nat} {f : Int → Int} {left : Int → Bool} {cnt : Nat} (h : RanI w b r n f left cnt) : cnt ≤ n := by
  obtain ⟨D, lf, ⟨es, clock, since, seen, c0, hb, F, hs, hD, hr, h1, h2, rest⟩, _⟩ := h
  have : (leftOf es seen).size ≤ es.size := by unfold leftOf; exact Array.size_filter_le
  omega
theorem RanI.ltr {w : World} {b r n : Nat} {f : Int → Int} {left : Int → Bool} {cnt : Nat} (h : RanI w b r n f left cnt) : r < w.heap.size := let ⟨_, _, h, _⟩ := h; h.lt
theorem not_new {S : Nat → Prop} {r n : Nat} (h : ¬ S r) (hr : r < n) : ¬ (fun k => S k ∨ n ≤ k) r := fun hk => hk.elim h (fun hk => by omega)
/-- What the last loop keeps. -/
structure Il (its : List S96) (ps E : List Int) (now : Int) (f : Int → Int) (left : Int → Bool) : Prop where
  rel : Rel its ps E E
  now_ : lst E = now
  cnt : ∀ x, w64 x → ((ps.count x : Nat) : Int) = if left x = true then f x else 0
  b1 : ps.length ≤ 60
  b2 : E.length ≤ 61
  w4 : ∀ p ∈ ps, w64 p
theorem Il.few {its : List S96} {ps E : List Int} {now : Int} {f : Int → Int} {left : Int → Bool} (h : Il its ps E now f left) : 0 < its.length ∧ its.length ≤ 1000000 := by
  have h3 := h.rel.posI
  have h4 := (retGo_sub (keepB (Z E E) ps) (Z E E) 0).length_le
  rw [show retGo (keepB (Z E E) ps) (Z E E) 0 = its from h.rel.items.symm, Z_len rfl] at h4
  have := h.b2
  omega
/-- While the pins of one epoch are let go: j of them are. -/
structure Ij (its : List S96) (ps E : List Int) (now : Int) (f : Int → Int) (left : Int → Bool) (x : Int) (j : Nat) : Prop where
  rel : Rel its ps E E
  now_ : lst E = now
  cnt : ∀ y, w64 y → ((ps.count y : Nat) : Int) = if y = x then f x - j else if left y = true then f y else 0
  b1 : ps.length ≤ 60
  b2 : E.length ≤ 61
  w4 : ∀ p ∈ ps, w64 p
theorem Ij.few {its : List S96} {ps E : List Int} {now : Int} {f : Int → Int} {left : Int → Bool} {x : Int} {j : Nat} (h : Ij its ps E now f left x j) : 0 < its.length ∧ its.length ≤ 1000000 := by
  have h3 := h.rel.posI
  have h4 := (retGo_sub (keepB (Z E E) ps) (Z E E) 0).length_le
  rw [show retGo (keepB (Z E E) ps) (Z E E) 0 = its from h.rel.items.symm, Z_len rfl] at h4
  have := h.b2
  omega
theorem Ij.start {its : List S96} {ps E : List Int} {now : Int} {f : Int → Int} {left : Int → Bool} (h : Il its ps E now f left) (x : Int) (hx : left x = true) (hw : w64 x) : Ij its ps E now f left x 0 :=
  ⟨h.rel, h.now_, fun y hy => by
    by_cases e : y = x
    · subst e; rw [if_pos rfl, h.cnt y hy, if_pos hx]; omega
    · rw [if_neg e]; exact h.cnt y hy, h.b1, h.b2, h.w4⟩
theorem Ij.close {its : List S96} {ps E : List Int} {now : Int} {f : Int → Int} {left : Int → Bool} {x : Int} {j : Nat} (h : Ij its ps E now f left x j) (hj : f x = j) : Il its ps E now f (fun z => left z && !decide (z = x)) :=
  ⟨h.rel, h.now_, fun y hy => by
    rw [h.cnt y hy]
    by_cases e : y = x
    · subst e; simp [hj]
    · simp [e], h.b1, h.b2, h.w4⟩
theorem Ij.unps {its : List S96} {ps E : List Int} {now : Int} {f : Int → Int} {left : Int → Bool} {x : Int} {j : Nat} (h : Ij its ps E now f left x j) (hw : w64 x) (hj : (j : Int) < f x) : ∃ its2, unpE its ps x = (0, its2, ps.erase x) ∧ Ij its2 (ps.erase x) E now f left x (j + 1) := by
  have hc := h.cnt x hw
  rw [if_pos rfl] at hc
  have hm : x ∈ ps := List.count_pos_iff.1 (by omega)
  obtain ⟨its2, h1, h2⟩ := h.rel.unp_ x
  have e : unpR ps x = (0, ps.erase x) := by unfold unpR; rw [if_pos hm]
  rw [e] at h1 h2
  have hle := List.length_erase_le (a := x) (l := ps)
  refine ⟨its2, h1, h2, h.now_, fun y hy => ?_, by have := h.b1; omega, h.b2, fun p hp => h.w4 p (List.mem_of_mem_erase hp)⟩
  by_cases e : y = x
  · subst e
    rw [if_pos rfl, List.count_erase_self]
    have : 0 < ps.count y := List.count_pos_iff.2 hm
    omega
  · have := h.cnt y hy
    rw [if_neg e] at this
    rw [if_neg e, List.count_erase_of_ne e]
    exact this
theorem Il.done {its : List S96} {ps E : List Int} {now : Int} {f : Int → Int} {left : Int → Bool} (h : Il its ps E now f left) (hl : ∀ x, w64 x → left x = false) : ps = [] ∧ its.length = 1 := by
  have hp : ps = [] := by
    cases ps with
    | nil => rfl
    | cons p t =>
      have hw := h.w4 p List.mem_cons_self
      have := h.cnt p hw
      rw [hl p hw] at this
      simp at this
      omega
  refine ⟨hp, ?_⟩
  have h1 := live_few h.rel [] (fun p hq => by rw [hp] at hq; exact hq)
  have h2 := h.rel.posI
  simp at h1
  omega
set_option maxHeartbeats 16000000 in
set_option maxRecDepth 100000 in
theorem holds_ (A0 : Option Addr) (c0 : Nat) (l0 : List Int) (w : World) (hr0 : Kd.C (Kd.int .u8) w A0 l0.length l0) (hG : ∀ g ∈ l0, 0 ≤ g ∧ g < 256) (hl0 : l0.length ≤ 60) :
    Calls Try.prog 8 #[.slice A0 l0.length c0] w fun e w' => e = .returned (.bool true) ∧ Below w.heap.size w w' := by
  have B0 := Aside0.mk (Below.refl w.heap.size w)
  have HR0 := Aside0.mk hr0
  have HL0 := Aside0.mk hl0
  have HG := Aside0.mk hG
  have q1 : decide (60 < l0.length) = false := decide_eq_false (by omega)
  have q3 : decide ((60 : Int) < (l0.length : Int)) = false := decide_eq_false (by omega)
  have hmm := @run_makeMap Try.prog
  clear hr0 hl0 hG
  go_enter Try.func8, Try.ntmps8
  go_wp2_with (first
    | (go_at_call 25; refine (new_.calls 0 _).mono ?_; rintro e w1 ⟨g, rfl, hc, hb⟩; have C1 := Aside0.mk hc; have B1 := Aside0.mk (below_step B0.out hb); clear hc hb))
  have HD := Aside0.mk (Hd.start C1.out B1.out)
  obtain ⟨bx, hbx⟩ : ∃ b, w1.heap.size + 1 = b := ⟨_, rfl⟩
  obtain ⟨bh, hbh⟩ : ∃ b, w1.heap.size = b := ⟨_, rfl⟩
  rw [hbx, hbh] at HD ⊢
  obtain ⟨S0, HD⟩ : ∃ S, Aside0 (Hd w ((w1.alloc (.map #[] 0)).alloc (.map #[] 0)) S g [⟨0, 0⟩] [] bh bx 0 0 (fun _ => 0) (fun _ => false)) := ⟨_, HD⟩
  clear hbx hbh C1 B1
  go_loopg [29, 4] l0.length (fun kq v29 v4 wr => ∃ (i : Nat) (S : Nat → Prop) (its : List S96) (ps E : List Int) (now : Int) (f : Int → Int) (fx : Int → Bool) (nh nx : Nat), i + kq = l0.length ∧ v29 = .int .i64 i ∧ v4 = .int .i64 now ∧ Aside0 (Hd w wr S g its ps bh bx nh nx f fx) ∧ Aside0 (Ih i its ps E now f fx) ∧ Aside0 (nh ≤ 2 * i ∧ nx ≤ i))
  case atStart => exact ⟨0, S0, _, _, _, _, _, _, _, _, by omega, rfl, rfl, HD, ⟨Ih.start⟩, ⟨by omega, by omega⟩⟩
  case round =>
    clear HD
    obtain ⟨i, S, its, ps, E, now, f, fx, nh, nx, hi, rfl, rfl, HD, HI, HN⟩ := hrel
    have HII := Aside0.mk hi
    by_cases hlt : i < l0.length
    · have hcn : decide (i < l0.length) = true := decide_eq_true hlt
      have p : 0 ≤ (i : Int) := by omega
      have q : (i : Int) < (l0.length : Int) := by omega
      obtain ⟨ad, e1, hx0⟩ := Kd.at_int (Kd.C_below HR0.out HD.out.bl) (i : Int) p q
      cases e1
      have e2 : (i : Int).toNat = i := by omega
      rw [e2] at hx0
      have hgi := HG.out (rd l0 (i : Int)) (by rw [show rd l0 (i : Int) = l0[i] by simp [rd, List.getD, hlt]]; exact List.getElem_mem hlt)
      generalize rd l0 (i : Int) = gi at hx0 hgi
      have HGI := Aside0.mk hgi
      have HLT := Aside0.mk hlt
      replace p := eq_true p
      replace q := eq_true q
      clear hi hlt e2 hgi
      obtain ⟨m, hm⟩ : ∃ m, gi.tmod 4 = m := ⟨_, rfl⟩
      go_upto_block 2 with fail
      clear hm
      go_cut [4] (fun s4 wx => ∃ (S : Nat → Prop) (its : List S96) (ps E : List Int) (now : Int) (f : Int → Int) (fx : Int → Bool) (nh nx : Nat), s4 = .int .i64 now ∧ Aside0 (Hd w wx S g its ps bh bx nh nx f fx) ∧ Aside0 (Ih (i + 1) its ps E now f fx) ∧ Aside0 (nh ≤ 2 * (i + 1) ∧ nx ≤ i + 1))
      case first =>
        have M0 := Aside0.mk (ilens HI.out (show i < 61 by have := HLT.out; have := HL0.out; omega))
        have M1 := Aside0.mk (show 0 < its.length from M0.out.1)
        have M2 := Aside0.mk (show its.length < 1000000 by have := M0.out.2; omega)
        have M2' := Aside0.mk (Nat.le_of_lt M2.out)
        have M3 := Aside0.mk (show ps.length ≤ 1000000 by have := HI.out.b1; have := HLT.out; have := HL0.out; omega)
        have M3' := Aside0.mk (show ps.length < 1000000 by have := HI.out.b1; have := HLT.out; have := HL0.out; omega)
        by_cases k0 : m = 0 ∨ m = 1
        · obtain ⟨b, hb, hb1, hb2⟩ := step3 HGI.out.1 HGI.out.2 HI.out.b3.1 (show now ≤ 1000 by have := HI.out.b3; have := HLT.out; have := HL0.out; omega)
          obtain ⟨its2, hpub, hrel⟩ := HI.out.pubs b hb1
          have IP := Aside0.mk (HI.out.pub b hb1 hb2 hrel)
          clear hb1 hb2
          by_cases k1 : m = 0
          · have q5 : (m == 0) = true := beq_iff_eq.mpr k1
            clear k0 k1
            have PU := Aside0.mk hpub
            have hbb := hb
            clear hb hpub hrel
            go_wp2_with (first
              | (go_at_call 27; (with_reducible refine (publish_.calls g S its its2 ps b b 0 w _ HD.out.chn HD.out.bl M1.out M2.out M3.out PU.out).mono ?_); rintro e w6 ⟨rfl, d⟩; have HX6 := Aside0.mk (HD.out.done d); clear d))
            go_meet
            exact ⟨_, its2, ps, E ++ [b], b, f, fx, nh, nx, rfl, HX6, IP, ⟨by have := HN.out.1; omega, by have := HN.out.2; omega⟩⟩
          · have q5 : (m == 0) = false := beq_eq_false_iff_ne.mpr k1
            have q6 : (m == 1) = true := beq_iff_eq.mpr (by omega)
            clear k0 k1
            have PU := Aside0.mk hpub
            have hbb := hb
            clear hb hpub hrel
            go_wp2_with (first
              | (go_at_call 27; (with_reducible refine (publish_.calls g S its its2 ps b b 0 w _ HD.out.chn HD.out.bl M1.out M2.out M3.out PU.out).mono ?_); rintro e w6 ⟨rfl, d⟩; have HX6 := Aside0.mk (HD.out.done d); clear d))
            go_meet
            exact ⟨_, its2, ps, E ++ [b], b, f, fx, nh, nx, rfl, HX6, IP, ⟨by have := HN.out.1; omega, by have := HN.out.2; omega⟩⟩
        · by_cases k2 : m = 2
          · have q5 : (m == 0) = false := beq_eq_false_iff_ne.mpr (by omega)
            have q6 : (m == 1) = false := beq_eq_false_iff_ne.mpr (by omega)
            have q7 : (m == 2) = true := beq_iff_eq.mpr k2
            clear k0 k2
            obtain ⟨a, ha, ha1, ha2, ha3⟩ := step5 HGI.out.1 HGI.out.2 HI.out.b3.1 (show now ≤ 1000 by have := HI.out.b3; have := HLT.out; have := HL0.out; omega)
            obtain ⟨hpin, hrel⟩ := HI.out.pins a ha1
            have PU := Aside0.mk hpin
            have WA := Aside0.mk (show w64 a by unfold w64; have := HI.out.b3; have := HLT.out; have := HL0.out; omega)
            have WN := Aside0.mk (show w64 now by unfold w64; have := HI.out.b3; have := HLT.out; have := HL0.out; omega)
            obtain ⟨ca, hca⟩ : ∃ c, f a = c := ⟨_, rfl⟩
            have hcb : 0 ≤ ca ∧ ca ≤ 60 := by
              have h1 := HI.out.cnt a
              have h2 : ps.count a ≤ ps.length := List.count_le_length
              have := HI.out.b1; have := HLT.out; have := HL0.out
              omega
            obtain ⟨c1, hc1, hc2⟩ : ∃ c, wrap64 (ca + 1) = c ∧ c = ca + 1 := ⟨_, rfl, wrap64_id _ (by omega) (by omega)⟩
            have WC := Aside0.mk (show w64 c1 by unfold w64; omega)
            have CA := Aside0.mk hca
            obtain ⟨z5, hz5⟩ : ∃ z : Bool, (gi.tmod 5 == 0) = z := ⟨_, rfl⟩
            obtain ⟨fn, hfn⟩ : ∃ z : Bool, fx now = z := ⟨_, rfl⟩
            have FN := Aside0.mk hfn
            have IP := Aside0.mk (HI.out.pin a ca c1 (fn || z5) ha1 ha2 hca hc2 hrel)
            have NH := Aside0.mk (show nh < maxLen by unfold maxLen; have := HN.out.1; have := HLT.out; have := HL0.out; omega)
            have NX := Aside0.mk (show nx < maxLen by unfold maxLen; have := HN.out.2; have := HLT.out; have := HL0.out; omega)
            clear ha1 ha2 ha3 hpin hrel hca hcb hc2 hfn
            cases fn with
            | true =>
              go_wp2_with (first
                | (go_at_call 29; (with_reducible refine (pin_.calls g S its ps a 0 (ps ++ [a]) w _ HD.out.chn HD.out.bl M1.out M2'.out M3'.out PU.out).mono ?_); rintro e w6 ⟨rfl, d⟩; have HX6 := Aside0.mk (HD.out.done d); clear d; have hl6 := HX6.out.hm.lookup WA.out; rw [CA.out] at hl6)
                | (at_mapUpdate; rw [ha, hc1]; refine wpList_update_i rfl _ _ _ rfl NH.out rfl HX6.out.hm a c1 rfl rfl WA.out WC.out ?_; intro w7 hm7 hg7; have HX7 := Aside0.mk (HX6.out.upH hm7 hg7); clear hm7 hg7 hl6; have hl7 := mapB_lookup HX7.out.xm WN.out; rw [FN.out] at hl7)
                | (at_mapUpdate; refine wpList_update_b rfl _ _ _ 79 rfl law3 Try.underlying79 Try.underlying4 NX.out int_inj rfl HX7.out.xm now true rfl rfl (key3 now WN.out.1 WN.out.2) ?_; intro w8 hm8 hg8; have HX8 := Aside0.mk (HX7.out.upX hm8 hg8); clear hm8 hg8 hl7))
              go_meet
              exact ⟨_, its, ps ++ [a], E, now, _, _, nh + 1, nx + 1, rfl, HX8, IP, ⟨by have := HN.out.1; omega, by have := HN.out.2; omega⟩⟩
            | false =>
              go_wp2_with (first
                | (go_at_call 29; (with_reducible refine (pin_.calls g S its ps a 0 (ps ++ [a]) w _ HD.out.chn HD.out.bl M1.out M2'.out M3'.out PU.out).mono ?_); rintro e w6 ⟨rfl, d⟩; have HX6 := Aside0.mk (HD.out.done d); clear d; have hl6 := HX6.out.hm.lookup WA.out; rw [CA.out] at hl6)
                | (at_mapUpdate; rw [ha, hc1]; refine wpList_update_i rfl _ _ _ rfl NH.out rfl HX6.out.hm a c1 rfl rfl WA.out WC.out ?_; intro w7 hm7 hg7; have HX7 := Aside0.mk (HX6.out.upH hm7 hg7); clear hm7 hg7 hl6; have hl7 := mapB_lookup HX7.out.xm WN.out; rw [FN.out] at hl7)
                | (at_mapUpdate; refine wpList_update_b rfl _ _ _ 79 rfl law3 Try.underlying79 Try.underlying4 NX.out int_inj rfl HX7.out.xm now z5 rfl rfl (key3 now WN.out.1 WN.out.2) ?_; intro w8 hm8 hg8; have HX8 := Aside0.mk (HX7.out.upX hm8 hg8); clear hm8 hg8 hl7))
              go_meet
              exact ⟨_, its, ps ++ [a], E, now, _, _, nh + 1, nx + 1, rfl, HX8, IP, ⟨by have := HN.out.1; omega, by have := HN.out.2; omega⟩⟩
          · have q5 : (m == 0) = false := beq_eq_false_iff_ne.mpr (by omega)
            have q6 : (m == 1) = false := beq_eq_false_iff_ne.mpr (by omega)
            have q7 : (m == 2) = false := beq_eq_false_iff_ne.mpr k2
            clear k0 k2
            have IS := Aside0.mk HI.out.stay
            have HDb := Aside0.mk HD.out.bound
            go_wp2_with (first
              | (at_range; refine wpList_range_i rfl _ rfl rfl HDb.out.hm ?_; intro wq left cnt hran h0 hgr hsz; have RN := Aside0.mk hran; have HX := Aside0.mk (HDb.out.grown hgr); clear hran h0 hgr hsz))
            go_frame
            have R1 := HDb.out.hm.lt
            have R2 := HDb.out.xm.lt
            have R3 := HDb.out.bl.size
            generalize wr.heap.size = r at RN HX R1 R2 R3 ⊢
            have RA := Aside0.mk (show r ≠ bh ∧ r ≠ bx ∧ w.heap.size ≤ r by omega)
            clear R1 R2 R3 HDb
            go_loopg [] cnt (fun kq wl => ∃ left, Aside0 (RanI wl bh r nh f left kq) ∧ Aside0 (Hd w wl (fun k => S k ∧ k < r) g its ps bh bx nh nx f fx))
            case atStart => exact ⟨left, RN, HX⟩
            case round =>
              clear RN HX
              obtain ⟨left, RN, HX⟩ := hrel
              go_wp2_with (first
                | (at_next; refine wpList_next_i rfl _ rfl rfl RN.out ?_ ?_))
              · intro hz
                clear hz
                go_wp2
                go_meet
                exact ⟨_, its, ps, E, now, f, fx, nh, nx, rfl, HX, IS, ⟨by have := HN.out.1; omega, by have := HN.out.2; omega⟩⟩
              · intro x w5 cnt5 hwx hlx hr5 hlt5 hg5 hs5 hen
                have RN5 := Aside0.mk hr5
                have HX5 := Aside0.mk (HX.out.upR hg5 (fun h => by have := h.2; omega) RA.out.1 RA.out.2.1 RA.out.2.2)
                have WX := Aside0.mk hwx
                have LT5 := Aside0.mk hlt5
                clear hwx hlx hr5 hlt5 hg5 hs5
                obtain ⟨cx, hcx⟩ : ∃ c, f x = c := ⟨_, rfl⟩
                rw [hcx] at hen ⊢
                by_cases hpos : 0 < cx
                · have qp : decide (0 < cx) = true := decide_eq_true hpos
                  obtain ⟨hxm, its2, hunp, hrel⟩ := HI.out.unps x (by omega)
                  obtain ⟨c1, hc1, hc2⟩ : ∃ c, wrap64 (cx - 1) = c ∧ c = cx - 1 := ⟨_, rfl, wrap64_id _ (by omega) (by have h1 := HI.out.cnt x; have h2 : ps.count x ≤ ps.length := List.count_le_length; have := HI.out.b1; have := HLT.out; have := HL0.out; omega)⟩
                  have PU := Aside0.mk hunp
                  have IP := Aside0.mk (HI.out.unp x cx c1 hcx hc2 hxm hrel)
                  have WC := Aside0.mk (show w64 c1 by have h1 := HI.out.cnt x; have h2 : ps.count x ≤ ps.length := List.count_le_length; have := HI.out.b1; have := HLT.out; have := HL0.out; unfold w64; omega)
                  have NH := Aside0.mk (show nh < maxLen by unfold maxLen; have := HN.out.1; have := HLT.out; have := HL0.out; omega)
                  have CX := Aside0.mk hcx
                  clear hpos hcx hxm hunp hrel hc2
                  go_wp2_with (first
                    | (go_at_call 31; (with_reducible refine (unpin_.calls g _ its its2 ps (ps.erase x) x 0 w _ HX5.out.chn HX5.out.bl M1.out M2'.out M3.out PU.out).mono ?_); rintro e w6 ⟨rfl, d⟩; have HX6 := Aside0.mk (HX5.out.done d); clear d; have hl6 := HX6.out.hm.lookup WX.out; rw [CX.out] at hl6)
                    | (at_mapUpdate; rw [hc1]; refine wpList_update_i rfl _ _ _ rfl NH.out rfl HX6.out.hm x c1 rfl rfl WX.out WC.out ?_; intro w7 hm7 hg7; have HX7 := Aside0.mk (HX6.out.upH hm7 hg7); clear hm7 hg7 hl6))
                  go_meet
                  exact ⟨_, its2, ps.erase x, E, now, _, _, nh + 1, nx, rfl, HX7, IP, ⟨by have := HN.out.1; omega, by have := HN.out.2; omega⟩⟩
                · have qp : decide (0 < cx) = false := decide_eq_false hpos
                  clear hpos hcx
                  go_wp2
                  go_roundg cnt5
                  case measure => exact LT5.out
                  case rel => exact ⟨_, RN5, HX5⟩
      case rest =>
        clear HD HI HN
        obtain ⟨S, its, ps, E, now, f, fx, nh, nx, rfl, HD, HI, HN⟩ := hcut
        have M0 := Aside0.mk (ilens HI.out (show i + 1 < 61 by have := HLT.out; have := HL0.out; omega))
        have M1 := Aside0.mk (show 0 < its.length from M0.out.1)
        have M2 := Aside0.mk (show its.length ≤ 1000000 by have := M0.out.2; omega)
        have M3 := Aside0.mk (show ps.length ≤ 1000000 by have := HI.out.b1; have := HLT.out; have := HL0.out; omega)
        have HDb := Aside0.mk HD.out.bound
        clear HD
        go_wp2_with (first
          | (at_range; refine wpList_range_i rfl _ rfl rfl HDb.out.hm ?_; intro wq left cnt hran h0 hgr hsz; have RN := Aside0.mk hran; have HX := Aside0.mk (HDb.out.grown hgr); have H0 := Aside0.mk h0; clear hran h0 hgr hsz))
        go_frame
        have R1 := HDb.out.hm.lt
        have R2 := HDb.out.xm.lt
        have R3 := HDb.out.bl.size
        generalize wc.heap.size = r at RN HX R1 R2 R3 ⊢
        have RA := Aside0.mk (show r ≠ bh ∧ r ≠ bx ∧ w.heap.size ≤ r by omega)
        clear R1 R2 R3 HDb
        have CN := Aside0.mk (show cnt ≤ 200 by have := RN.out.few; have := HN.out.1; have := HLT.out; have := HL0.out; omega)
        go_loopg [11] cnt (fun kq v11 wl => ∃ (left : Int → Bool) (vis : List Int) (mo : Int), v11 = .int .i64 mo ∧ Aside0 (mo = vis.length + 1 ∧ vis.length + kq ≤ 200) ∧ Aside0 (RanI wl bh r nh f left kq) ∧ Aside0 (Hd w wl (fun k => S k ∧ k < r) g its ps bh bx nh nx f fx) ∧ Aside0 (∀ x, w64 x → left x = false → f x = 0 ∨ x ∈ vis))
        case atStart => exact ⟨left, [], 1, rfl, ⟨by simp, by have := CN.out; simpa using this⟩, RN, HX, ⟨fun x hx hl => .inl (H0.out x hx hl)⟩⟩
        case round =>
          clear RN HX H0 CN
          obtain ⟨left, vis, mo, rfl, MO, RN, HX, HV⟩ := hrel
          go_wp2_with (first
            | (at_next; refine wpList_next_i rfl _ rfl rfl RN.out ?_ ?_))
          · intro hz
            have hfew := live_few HI.out.rel vis (fun p hp => by
              have h4 := HI.out.b4 p hp
              have hw : w64 p := by unfold w64; have := HLT.out; have := HL0.out; omega
              rcases HV.out p hw (hz p hw) with h | h
              · rw [HI.out.cnt p] at h
                have : 0 < ps.count p := List.count_pos_iff.2 hp
                omega
              · exact h)
            have qf : decide (mo < (its.length : Int)) = false := decide_eq_false (by have := MO.out.1; omega)
            clear hz hfew
            go_wp2_with (first
              | (go_at_call 33; (with_reducible refine (live_.calls g its ps _ HX.out.view).mono ?_); rintro e w6 ⟨rfl, hb⟩; have HX6 := Aside0.mk (HX.out.below hb); clear hb))
            go_roundg (l0.length - (i + 1))
            case measure => have := HII.out; have := HLT.out; omega
            case rel => exact ⟨i + 1, _, its, ps, E, now, f, fx, nh, nx, by have := HII.out; have := HLT.out; omega, by rw [wS (by have := HLT.out; have := HL0.out; omega)], rfl, HX6, HI, HN⟩
          · intro x w5 cnt5 hwx hlx hr5 hlt5 hg5 hs5 hen
            have RN5 := Aside0.mk hr5
            have HX5 := Aside0.mk (HX.out.upR hg5 (fun h => by have := h.2; omega) RA.out.1 RA.out.2.1 RA.out.2.2)
            have WX := Aside0.mk hwx
            have LT5 := Aside0.mk hlt5
            clear hwx hlx hr5 hlt5 hg5 hs5
            obtain ⟨cx, hcx⟩ : ∃ c, f x = c := ⟨_, rfl⟩
            rw [hcx] at hen ⊢
            by_cases hz : cx = 0
            · have qz : (cx == 0) = true := beq_iff_eq.mpr hz
              have HV5 := Aside0.mk (show ∀ y, w64 y → (left y && !decide (y = x)) = false → f y = 0 ∨ y ∈ vis from fun y hy hl => by
                by_cases e : y = x
                · exact .inl (by rw [e, hcx, hz])
                · exact HV.out y hy (by simpa [e] using hl))
              clear hz hcx
              go_wp2
              go_roundg cnt5
              case measure => exact LT5.out
              case rel => exact ⟨_, vis, mo, rfl, ⟨MO.out.1, by have := MO.out.2; have := LT5.out; omega⟩, RN5, HX5, HV5⟩
            · have qz : (cx == 0) = false := beq_eq_false_iff_ne.mpr hz
              have hxm : x ∈ ps := by
                have := HI.out.cnt x
                exact List.count_pos_iff.1 (by omega)
              obtain ⟨v, hgv, hv1, hv2⟩ := val_at HI.out.rel x hxm
              have GV := Aside0.mk hgv
              have qv : decide (x < v) = false := decide_eq_false (by omega)
              have HV5 := Aside0.mk (show ∀ y, w64 y → (left y && !decide (y = x)) = false → f y = 0 ∨ y ∈ x :: vis from fun y hy hl => by
                by_cases e : y = x
                · exact .inr (by rw [e]; exact List.mem_cons_self)
                · exact (HV.out y hy (by simpa [e] using hl)).imp id (List.mem_cons_of_mem _))
              obtain ⟨mo2, hmo, hmo2⟩ : ∃ c, wrap64 (mo + 1) = c ∧ c = mo + 1 := ⟨_, rfl, wrap64_id _ (by have := MO.out.1; omega) (by have := MO.out; omega)⟩
              have MO5 := Aside0.mk (show mo2 = (x :: vis).length + 1 ∧ (x :: vis).length + cnt5 ≤ 200 by
                have := MO.out; have := LT5.out
                simp only [List.length_cons]
                omega)
              have FE := Aside0.mk (show fx x = true → v = x from fun h => hv2 (HI.out.exa x h))
              clear hz hcx hxm hgv hv1 hv2 hmo2
              obtain ⟨fn, hfn⟩ : ∃ z : Bool, fx x = z := ⟨_, rfl⟩
              cases fn with
              | true =>
                obtain rfl := FE.out hfn
                have FN := Aside0.mk hfn
                clear hfn
                go_wp2_with (first
                  | (go_at_call 37; (with_reducible refine (get_.calls g its ps v v true _ HX5.out.view M1.out M2.out M3.out GV.out).mono ?_); rintro e w6 ⟨rfl, hb⟩; have HX6 := Aside0.mk (HX5.out.below hb); have RN6 := Aside0.mk (RN5.out.same (hb.block _ RN5.out.owns.lt) (hb.block _ RN5.out.ltr)); have hl6 := mapB_lookup HX6.out.xm WX.out; rw [FN.out] at hl6; clear hb))
                go_roundg cnt5
                case measure => exact LT5.out
                case rel => exact ⟨_, v :: vis, mo2, by first | rfl | rw [hmo], MO5, RN6, HX6, HV5⟩
              | false =>
                have FN := Aside0.mk hfn
                clear hfn
                go_wp2_with (first
                  | (go_at_call 37; (with_reducible refine (get_.calls g its ps x v true _ HX5.out.view M1.out M2.out M3.out GV.out).mono ?_); rintro e w6 ⟨rfl, hb⟩; have HX6 := Aside0.mk (HX5.out.below hb); have RN6 := Aside0.mk (RN5.out.same (hb.block _ RN5.out.owns.lt) (hb.block _ RN5.out.ltr)); have hl6 := mapB_lookup HX6.out.xm WX.out; rw [FN.out] at hl6; clear hb))
                go_roundg cnt5
                case measure => exact LT5.out
                case rel => exact ⟨_, x :: vis, mo2, by first | rfl | rw [hmo], MO5, RN6, HX6, HV5⟩
    · have hcn : decide (i < l0.length) = false := decide_eq_false hlt
      have HDb := Aside0.mk HD.out.bound
      have I60 := Aside0.mk (show i ≤ 60 by have := HL0.out; omega)
      clear hi hlt HD
      go_wp2_with (first
        | (at_range; refine wpList_range_i rfl _ rfl rfl HDb.out.hm ?_; intro wq left cnt hran h0 hgr hsz; have RN := Aside0.mk hran; have HX := Aside0.mk (HDb.out.grown hgr); have H0 := Aside0.mk h0; clear hran h0 hgr hsz))
      go_frame
      have R1 := HDb.out.hm.lt
      have R2 := HDb.out.xm.lt
      have R3 := HDb.out.bl.size
      generalize wr.heap.size = r at RN HX R1 R2 R3 ⊢
      have RA := Aside0.mk (show r ≠ bh ∧ r ≠ bx ∧ w.heap.size ≤ r by omega)
      clear R1 R2 R3 HDb
      have IL := Aside0.mk (show Il its ps E now f left from ⟨HI.out.rel, HI.out.now_, fun x hx => by
        have h1 := HI.out.cnt x
        cases hl : left x with
        | true => rw [if_pos rfl, h1]
        | false => rw [if_neg (by simp), ← h1]; exact H0.out x hx hl, by have := HI.out.b1; have := I60.out; omega, by have := HI.out.b2; have := I60.out; omega, fun p hp => by have := HI.out.b4 p hp; have := I60.out; unfold w64; omega⟩)
      have FB := Aside0.mk (show ∀ x, 0 ≤ f x ∧ f x ≤ 60 from fun x => by
        have h1 := HI.out.cnt x
        have h2 : ps.count x ≤ ps.length := List.count_le_length
        have := HI.out.b1; have := I60.out
        omega)
      clear HI HN H0 I60 HII
      obtain ⟨S2, HX, HS⟩ : ∃ S2 : Nat → Prop, Aside0 (Hd w wq S2 g its ps bh bx nh nx f fx) ∧ Aside0 (¬ S2 r) := ⟨_, HX, ⟨fun h => by have := h.2; omega⟩⟩
      go_loopg [] cnt (fun kq wl => ∃ (left : Int → Bool) (S : Nat → Prop) (its : List S96) (ps : List Int), Aside0 (RanI wl bh r nh f left kq) ∧ Aside0 (Hd w wl S g its ps bh bx nh nx f fx) ∧ Aside0 (¬ S r) ∧ Aside0 (Il its ps E now f left))
      case atStart => exact ⟨left, S2, its, ps, RN, HX, HS, IL⟩
      case round =>
        clear RN HX IL HS
        obtain ⟨left, S, its, ps, RN, HX, HS, IL⟩ := hrel
        go_wp2_with (first
          | (at_next; refine wpList_next_i rfl _ rfl rfl RN.out ?_ ?_))
        · intro hz
          obtain ⟨hps, hone⟩ := IL.out.done hz
          subst hps
          have E1 := Aside0.mk (show (its.length : Int) = 1 by omega)
          have M1 := Aside0.mk IL.out.few.1
          have M2 := Aside0.mk IL.out.few.2
          have NW := Aside0.mk (show nowV its = now by rw [IL.out.rel.now_, IL.out.now_])
          clear hz hone
          go_wp2_with (first
            | (go_at_call 24; refine (awake_.calls _).mono ?_; rintro e w5 ⟨rfl, hb⟩; have H5 := Aside0.mk (HX.out.below hb); clear hb)
            | (go_at_call 33; (with_reducible refine (live_.calls g its [] _ H5.out.view).mono ?_); rintro e w6 ⟨rfl, hb⟩; rw [E1.out]; have H6 := Aside0.mk (H5.out.below hb); clear hb)
            | (go_at_call 35; (with_reducible refine (pins_.calls g its [] _ H6.out.view).mono ?_); rintro e w7 ⟨rfl, hb⟩; have H7 := Aside0.mk (H6.out.below hb); clear hb)
            | (go_at_call 36; (with_reducible refine (now_.calls g its [] _ H7.out.view M1.out M2.out).mono ?_); rintro e w8 ⟨rfl, hb⟩; rw [NW.out]; have H8 := Aside0.mk (H7.out.below hb); clear hb))
          go_ret
          exact ⟨rfl, H8.out.bl⟩
        · intro x w5 cnt5 hwx hlx hr5 hlt5 hg5 hs5 hen
          have RN5 := Aside0.mk hr5
          have HX5 := Aside0.mk (HX.out.upR hg5 HS.out RA.out.1 RA.out.2.1 RA.out.2.2)
          have WX := Aside0.mk hwx
          have LT5 := Aside0.mk hlt5
          have IJ := Aside0.mk (Ij.start IL.out x hlx hwx)
          clear hwx hlx hr5 hlt5 hg5 hs5
          obtain ⟨cn, hcn2⟩ : ∃ c : Nat, f x = (c : Int) := ⟨(f x).toNat, by have := FB.out x; omega⟩
          have CB := Aside0.mk (show cn ≤ 60 by have := FB.out x; omega)
          have FX := Aside0.mk hcn2
          rw [hcn2] at hen ⊢
          clear hcn2
          go_wp2
          go_loopg [141] cn (fun kj v141 wm => ∃ (j : Nat) (S : Nat → Prop) (its : List S96) (ps : List Int), j + kj = cn ∧ v141 = .int .i64 j ∧ Aside0 (RanI wm bh r nh f (fun z => left z && !decide (z = x)) cnt5) ∧ Aside0 (Hd w wm S g its ps bh bx nh nx f fx) ∧ Aside0 (¬ S r) ∧ Aside0 (Ij its ps E now f left x j))
          case atStart => exact ⟨0, S, its, ps, by omega, rfl, RN5, HX5, HS, IJ⟩
          case round =>
            clear RN5 HX5 HS IJ HX RN IL
            obtain ⟨j, S, its, ps, hj, rfl, RN5, HX5, HS, IJ⟩ := hrel
            have HJ := Aside0.mk hj
            by_cases hlt2 : j < cn
            · have hcj : decide (j < cn) = true := decide_eq_true hlt2
              obtain ⟨its2, hunp, hij⟩ := IJ.out.unps WX.out (by have := FX.out; omega)
              have PU := Aside0.mk hunp
              have IJ2 := Aside0.mk hij
              have M1 := Aside0.mk IJ.out.few.1
              have M2 := Aside0.mk IJ.out.few.2
              have M3 := Aside0.mk (show ps.length ≤ 1000000 by have := IJ.out.b1; omega)
              have LT2 := Aside0.mk hlt2
              clear hj hlt2 hunp hij
              go_wp2_with (first
                | (go_at_call 31; (with_reducible refine (unpin_.calls g S its its2 ps (ps.erase x) x 0 w _ HX5.out.chn HX5.out.bl M1.out M2.out M3.out PU.out).mono ?_); rintro e w6 ⟨rfl, d⟩; have HX6 := Aside0.mk (HX5.out.done d); have RN6 := Aside0.mk (RN5.out.same (d.2.2.2 _ RN5.out.owns.lt HX5.out.sh) (d.2.2.2 _ RN5.out.ltr HS.out)); have HS6 := Aside0.mk (not_new HS.out RN5.out.ltr); clear d))
              go_roundg (cn - (j + 1))
              case measure => have := HJ.out; have := LT2.out; omega
              case rel => exact ⟨j + 1, _, its2, ps.erase x, by have := HJ.out; have := LT2.out; omega, by rw [wS (by have := LT2.out; have := CB.out; omega)], RN6, HX6, HS6, IJ2⟩
            · have hcj : decide (j < cn) = false := decide_eq_false hlt2
              have IL5 := Aside0.mk (IJ.out.close (by have := FX.out; omega))
              clear hj hlt2
              go_wp2
              go_roundg cnt5
              case measure => exact LT5.out
              case rel => exact ⟨_, S, its, ps, RN5, HX5, HS, IL5⟩


/-! ### crossbucklaw18_VersionHolds: function 8 (by hand) -/
def crossbucklaw18_VersionHolds.f (l0 : List Int) : Option Bool := if ∀ g ∈ l0, 0 ≤ g ∧ g < 256 then some true else none
set_option maxHeartbeats 8000000 in
set_option maxRecDepth 100000 in
theorem holds_long (A0 : Option Addr) (c0 : Nat) (l0 : List Int) (w : World) (h : 60 < l0.length) :
    Calls Try.prog 8 #[.slice A0 l0.length c0] w fun e w' => e = .returned (.bool true) ∧ Below w.heap.size w w' := by
  have B0 := Aside0.mk (Below.refl w.heap.size w)
  have q1 : decide (60 < l0.length) = true := decide_eq_true h
  have q3 : decide ((60 : Int) < (l0.length : Int)) = true := decide_eq_true (by omega)
  clear h
  go_enter Try.func8, Try.ntmps8
  go_wp2_with (first
    | (go_at_call 24; refine (awake_.calls _).mono ?_; rintro e w5 ⟨rfl, hb⟩; have B5 := Aside0.mk (below_step B0.out hb); clear hb))
  go_ret
  exact ⟨rfl, B5.out⟩
theorem crossbucklaw18_VersionHolds.calls (A0 : Option Addr) (c0 : Nat) (l0 : List Int) (r : Bool) (w : World) (hr0 : Kd.C (Kd.int .u8) w A0 l0.length l0) (hc0 : l0.length ≤ c0) (h : crossbucklaw18_VersionHolds.f l0 = some r) :
    Calls Try.prog 8 #[.slice A0 l0.length c0] w fun e w' => e = .returned (.bool r) ∧ Below w.heap.size w w' := by
  unfold crossbucklaw18_VersionHolds.f at h
  by_cases hG : ∀ g ∈ l0, 0 ≤ g ∧ g < 256
  case neg => rw [if_neg hG] at h; cases h
  rw [if_pos hG] at h
  obtain rfl := Option.some.inj h
  by_cases h1 : 60 < l0.length
  · exact holds_long A0 c0 l0 w h1
  · exact holds_ A0 c0 l0 w hr0 hG (by omega)

end Go.Proofs.Ytdemogdagemagaa.PVc
