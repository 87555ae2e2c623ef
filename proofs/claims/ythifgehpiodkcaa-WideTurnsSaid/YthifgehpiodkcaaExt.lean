/- math/bits.Add64 and Sub64, which the model stands in for: what a call of them runs to. No condition of its own. -/
import Derived.Test.YthifgehpiodkcaaProg
import Derived.Laws.Externs
import Derived.KernelRfl
namespace Go.Proofs.Ythifgehpiodkcaa.Hand
open Go
/-- The sum, what is carried; the difference, what is borrowed. -/
def addS (x y c : Int) : Int := (((x.toNat + y.toNat + c.toNat) % 18446744073709551616 : Nat) : Int)
def addC (x y c : Int) : Int := (((x.toNat + y.toNat + c.toNat) / 18446744073709551616 : Nat) : Int)
def subS (x y c : Int) : Int := (((x.toNat + 18446744073709551616 - y.toNat - c.toNat) % 18446744073709551616 : Nat) : Int)
def subC (x y c : Int) : Int := ((if x.toNat < y.toNat + c.toNat then 1 else 0 : Nat) : Int)
def sub64Entry : Array Value → Sem Value := fun args => do
  let (x, y, b) ← Extern.MathBitsCarry.three "Sub64" args
  pure (Extern.MathBitsCarry.pair ((x + Extern.MathBitsCarry.m64 - y - b) % Extern.MathBitsCarry.m64) (if x < y + b then 1 else 0))
theorem add_run (x y c : Int) (w : World) (h0 : 0 ≤ c) (hc : c ≤ 1) : (callFunc 27 #[.int .u64 x, .int .u64 y, .int .u64 c]).run Try.prog w = .ok (.value (.tuple #[.int .u64 (addS x y c), .int .u64 (addC x y c)])) w := by
  have key : (add64Entry #[.int .u64 x, .int .u64 y, .int .u64 c]).run Try.prog w = .ok (.tuple #[.int .u64 (addS x y c), .int .u64 (addC x y c)]) w := by
    have : c = 0 ∨ c = 1 := by omega
    rcases this with rfl | rfl <;> rfl
  rw [run_callFunc_extern Try.func27 (by kernel_rfl) (by kernel_rfl) (by kernel_rfl) (e := add64Entry) (by kernel_rfl), key]
  rfl
theorem sub_run (x y c : Int) (w : World) (h0 : 0 ≤ c) (hc : c ≤ 1) : (callFunc 28 #[.int .u64 x, .int .u64 y, .int .u64 c]).run Try.prog w = .ok (.value (.tuple #[.int .u64 (subS x y c), .int .u64 (subC x y c)])) w := by
  have key : (sub64Entry #[.int .u64 x, .int .u64 y, .int .u64 c]).run Try.prog w = .ok (.tuple #[.int .u64 (subS x y c), .int .u64 (subC x y c)]) w := by
    have : c = 0 ∨ c = 1 := by omega
    rcases this with rfl | rfl <;> rfl
  rw [run_callFunc_extern Try.func28 (by kernel_rfl) (by kernel_rfl) (by kernel_rfl) (e := sub64Entry) (by kernel_rfl), key]
  rfl
theorem add_run0 (x y : Int) (w : World) : (callFunc 27 #[.int .u64 x, .int .u64 y, .int .u64 0]).run Try.prog w = .ok (.value (.tuple #[.int .u64 (addS x y 0), .int .u64 (addC x y 0)])) w := add_run x y 0 w (by decide) (by decide)
theorem sub_run0 (x y : Int) (w : World) : (callFunc 28 #[.int .u64 x, .int .u64 y, .int .u64 0]).run Try.prog w = .ok (.value (.tuple #[.int .u64 (subS x y 0), .int .u64 (subC x y 0)])) w := sub_run x y 0 w (by decide) (by decide)
theorem add_runC (x y a b d : Int) (w : World) (h : addC a b d ≤ 1) : (callFunc 27 #[.int .u64 x, .int .u64 y, .int .u64 (addC a b d)]).run Try.prog w = .ok (.value (.tuple #[.int .u64 (addS x y (addC a b d)), .int .u64 (addC x y (addC a b d))])) w := add_run x y _ w (Int.natCast_nonneg _) h
theorem sub_runC (x y a b d : Int) (w : World) : (callFunc 28 #[.int .u64 x, .int .u64 y, .int .u64 (subC a b d)]).run Try.prog w = .ok (.value (.tuple #[.int .u64 (subS x y (subC a b d)), .int .u64 (subC x y (subC a b d))])) w := by
  refine sub_run x y _ w (Int.natCast_nonneg _) ?_
  unfold subC
  split <;> decide
end Go.Proofs.Ythifgehpiodkcaa.Hand
