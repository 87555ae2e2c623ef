/- A map whose elements are bools, told as a function of its keys: the look-up and the store, at the operation. No condition of its own. -/
import Derived.Maps.OwnOps
import Derived.Maps.OwnSet
import Derived.Below
namespace Go.Proofs.Ytbmibakhpealjaa.Hand
open Go Go.RowKit
open Go.Maps (Keyed)
set_option linter.unusedVariables false
set_option linter.unusedSimpArgs false
/-- Block b of w is a map of at most n entries that answers f x at the key x. -/
def MapB {κ : Type} (P : Program) (K E : TypeId) (enc : κ → Value) (w : World) (b n : Nat) (f : κ → Bool) : Prop :=
  ∃ D : DataW Unit, w.ownsMap P K (plainElem P E) b n D ∧ ∀ x kl, keyOf P K (enc x) = some kl → D.atKey kl (.lit (.bool false)) = .lit (.bool (f x))
theorem plainElem_bool_inv {H : Type} {P : Program} {e : TypeId} (he : P.underlying e = some .bool) {v : Value} {z : DataW H × List MemPlace} (h : plainElem P e v = some z) : ∃ a, v = .bool a ∧ z = (.lit (.bool a), []) := by
  unfold plainElem at h
  rw [he] at h
  cases v <;> simp at h
  subst h
  exact ⟨_, rfl, rfl⟩
section
variable {κ : Type} {P : Program} {K E : TypeId} {enc : κ → Value} {w : World} {b n : Nat} {f : κ → Bool}
theorem MapB.made (w : World) (P : Program) (K E : TypeId) (enc : κ → Value) : MapB P K E enc (w.alloc (.map #[] 0)) w.heap.size 0 (fun _ => false) :=
  ⟨.map [], World.ownsMap_made w P K _, fun x kl _ => rfl⟩
theorem MapB.lt (h : MapB P K E enc w b n f) : b < w.heap.size := let ⟨_, h, _⟩ := h; h.lt
theorem MapB.kept {w' : World} {row : Option Nat} (h : MapB P K E enc w b n f) (hg : w.grownBy w' row) (hne : some b ≠ row) : MapB P K E enc w' b n f :=
  let ⟨D, h, hf⟩ := h; ⟨D, h.kept hg hne, hf⟩
theorem MapB.below {w' : World} (h : MapB P K E enc w b n f) (hb : Below w.heap.size w w') : MapB P K E enc w' b n f :=
  h.kept (row := none) ⟨hb.os, hb.tape, hb.output, hb.size, fun k hk _ => hb.block k hk⟩ (by simp)
theorem MapB.lookup {T : TypeId} (h : MapB P K E enc w b n f) (KK : Keyed P K) (ht : P.underlying T = some (.map K E)) (he : P.underlying E = some .bool) (hz : (zeroValue E).run P w = .ok (.bool false) w)
    {x : κ} {kl : Lit} (hk : keyOf P K (enc x) = some kl) : (Instr.lookup T (.map (some b)) (enc x) false).run P w = .ok (.bool (f x)) w := by
  obtain ⟨D, h, hf⟩ := h
  obtain ⟨v, ps, hrun, hv⟩ := h.lookup KK ht hz (plainElem_bool he false) hk
  obtain ⟨c, rfl, hc⟩ := plainElem_bool_inv he hv
  have e := hf x kl hk
  simp only [Prod.mk.injEq] at hc
  rw [hc.1] at e
  cases e
  exact hrun
theorem MapB.update [DecidableEq κ] {T : TypeId} (h : MapB P K E enc w b n f) (KK : Keyed P K) (ht : P.underlying T = some (.map K E)) (he : P.underlying E = some .bool) (hn : n < maxLen) (hi : ∀ x y, enc x = enc y → x = y)
    {x : κ} {kl : Lit} (hk : keyOf P K (enc x) = some kl) (c : Bool) : ∃ w', (Instr.mapUpdate T (.map (some b)) (enc x) (.bool c)).run P w = .ok () w' ∧ MapB P K E enc w' b (n + 1) (fun y => if y = x then c else f y) ∧ w.grownBy w' (some b) := by
  obtain ⟨D, h, hf⟩ := h
  obtain ⟨w', hr, h2, hg⟩ := h.update KK ht hn hk (plainElem_bool he c)
  refine ⟨w', hr, ⟨_, h2, fun y kl' hk' => ?_⟩, hg⟩
  by_cases e : y = x
  · subst e
    obtain rfl : kl' = kl := Option.some.inj (hk'.symm.trans hk)
    simp only [if_true]
    exact Go.Maps.atKey_put_same h.isMap (KK.key hk) _ _
  · have hne : kl' ≠ kl := fun e2 => e (hi _ _ (KK.inj (e2 ▸ hk') hk))
    simp only [if_neg e]
    exact (Go.Maps.atKey_put_other hne _ _).trans (hf y kl' hk')
theorem wpList_lookup_b {ops : Array Oper} {rest : List Oper} {o : Oper} {a : Act} {Q : Exit → Act → World → Prop} (hg : o.guard = none) (m x : Operand) (T : TypeId) (hop : o.op = Op.lookup T m x false)
    (KK : Keyed P K) (ht : P.underlying T = some (.map K E)) (he : P.underlying E = some .bool) (hz : (zeroValue E).run P w = .ok (.bool false) w) (hm : a.eval m = .map (some b)) (h : MapB P K E enc w b n f)
    (y : κ) {kl : Lit} (hx : a.eval x = enc y) (hk : keyOf P K (enc y) = some kl) (hK : wpList P ops Q rest (a.put o.dst (.bool (f y))) w) : wpList P ops Q (o :: rest) a w := by
  refine wpList_plain hg fun K' hK' => ?_
  have hr := h.lookup KK ht he hz hk
  unfold Oper.wp
  simp [execOp, hop, hm, hx, hr, Result.andThen]
  exact hK' _ _ hK
theorem wpList_update_b [DecidableEq κ] {ops : Array Oper} {rest : List Oper} {o : Oper} {a : Act} {Q : Exit → Act → World → Prop} (hg : o.guard = none) (m x v : Operand) (T : TypeId) (hop : o.op = Op.mapUpdate T m x v)
    (KK : Keyed P K) (ht : P.underlying T = some (.map K E)) (he : P.underlying E = some .bool) (hn : n < maxLen) (hi : ∀ x y, enc x = enc y → x = y) (hm : a.eval m = .map (some b)) (h : MapB P K E enc w b n f)
    (y : κ) (c : Bool) {kl : Lit} (hx : a.eval x = enc y) (hv : a.eval v = .bool c) (hk : keyOf P K (enc y) = some kl)
    (hK : ∀ w', MapB P K E enc w' b (n + 1) (fun z => if z = y then c else f z) → w.grownBy w' (some b) → wpList P ops Q rest (a.put o.dst undef) w') : wpList P ops Q (o :: rest) a w := by
  refine wpList_plain hg fun K' hK' => ?_
  obtain ⟨w', hr, h2, h3⟩ := h.update KK ht he hn hi hk c
  unfold Oper.wp
  simp [execOp, hop, hm, hx, hv, hr, Result.andThen]
  exact hK' _ _ (hK w' h2 h3)
end
end Go.Proofs.Ytbmibakhpealjaa.Hand
