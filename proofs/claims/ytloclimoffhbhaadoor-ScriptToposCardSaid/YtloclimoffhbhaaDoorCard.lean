/- From a row's list of library tables to what the walks want of the world, and a world for the witness that holds the listed tables. No condition of its own. -/
import Derived.Test.YtloclimoffhbhaaDoorRows
import Derived.Test.YtloclimoffhbhaaDoorGood
import Derived.Deep.DeepHandedRow
import Derived.Lib.LaidTab
import Derived.LaidLaws
namespace Go.Proofs.YtloclimoffhbhaaDoor.Hand
open Go Go.RowKit

/-- The cells that a listed datum stands for: numbers, texts, aggregates of these. -/
def cellsD : Nat → DataW Unit → List Value
  | 0, _ => []
  | _ + 1, .lit (.int k z) => [.int k z]
  | _ + 1, .lit (.string b) => [.string ⟨b.toArray⟩]
  | n + 1, .agg l => (l.map (cellsD n)).flatten
  | _ + 1, _ => []
def laidHeap (P : Program) (l : List (String × DataW Unit)) (h : Array Obj) : Array Obj :=
  l.foldl (fun h x => match P.globalNamed x.1 with
    | some g => h.modify g fun
      | .cells _ t fz => .cells (cellsD 4 x.2).toArray t fz
      | o => o
    | none => h) h
noncomputable def laidWorld (l : List (String × DataW Unit)) (os : Os) : World :=
  { World.holding Tryd.prog os ⟨#[], #[], []⟩ with heap := laidHeap Tryd.prog l (World.holding Tryd.prog os ⟨#[], #[], []⟩).heap }

/-- A table that stands anywhere on the list. -/
theorem tab_at {P : Program} {W : World} {name : String} {k : IntKind} {zs : List Int} {g : Nat} {t e : TypeId} {n : Nat}
    (hg : P.globalNamed name = some g) (hty : (P.globals[g]?).map (·.type) = some t) (ht : P.underlying t = some (.array n e)) (he : P.underlying e = some (.int k)) (hce : P.cellsOf e = 1) (hct : P.cellsOf t = n) :
    ∀ (i : Nat) {l : List (String × DataW Unit)} {ps : List MemPlace}, DataW.LaidVars P W l ps → l[i]? = some (name, Lib.tabData k zs) → Lib.TabIs P W name k zs
  | _, [], _, _, h => by simp at h
  | 0, (n', d) :: r, _, ⟨g', t', cs, fuel, p, q, hg', ht', hvar, hd, _, _⟩, h => by
    obtain ⟨rfl, rfl⟩ : n' = name ∧ d = Lib.tabData k zs := by simpa using h
    obtain rfl := Option.some.inj (hg.symm.trans hg')
    obtain rfl := Option.some.inj (hty.symm.trans ht')
    unfold Lib.TabIs
    rw [hvar, ← Lib.cells_of_tab ht he hce hct hd]
  | i + 1, (n', d) :: r, _, ⟨_, _, _, _, _, q, _, _, _, _, hs, _⟩, h => tab_at hg hty ht he hce hct i hs (by simpa using h)

theorem max_of {W : World} (h : W.ShapedOpen Tryd.prog) : ∃ n, W.cell? ⟨1, 0, none⟩ = some (.int .i64 n) := Tryd.laysM145.s1_3 W h
theorem pow_of {W : World} {l : List (String × DataW Unit)} (i : Nat) (h : laidMet Tryd.prog l W) (hi : l[i]? = some ("internal/strconv.uint64pow10", Lib.tabData .u64 Lib.pow10Tab)) :
    Lib.TabIs Tryd.prog W "internal/strconv.uint64pow10" .u64 Lib.pow10Tab := by
  obtain ⟨ps, hs, _⟩ := h
  exact tab_at (g := 2) (t := 214) (n := 20) (by kernel_rfl) (by kernel_rfl) (Tryd.underlying214) (Tryd.underlying173) (by kernel_rfl) (by kernel_rfl) i hs hi
end Go.Proofs.YtloclimoffhbhaaDoor.Hand
