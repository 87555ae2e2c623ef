/- What the head of the program's dump says, word by word, and the facts of every row that hang on it. Written by program (wip/myhead.py). No condition of its own. -/
import Derived.Test.YtloclimoffhbhaaDoorRows
import Derived.KernelRfl
import Derived.JoinedCond
namespace Go.Proofs.YtloclimoffhbhaaDoor.Head
open Go
set_option maxRecDepth 20000
def signs : List Char := ['h', 'a', 'r', 'n', 'e', 's', 's', ' ', '4', 'e', '4', 'a', 'e', 'f', '7', 'e', '0', '6', '9', 'f', 'e', 'b', 'f', 'c', '6', '0', '6', '6', 'a', 'b', '0', 'c', '4', 'f', '7', 'b', 'f', '4', 'f', '6', '1', 'f', 'a', 'c', '3', '2', '6', 'd', '7', 'b', '1', '2', '9', '3', '5', 'f', '5', '7', 'f', '5', '7', '2', 'b', 'a', 'f', '7', 'd', '7', 'f', '0', '3', '0', ' ', 'c', 'u', 't', ' ', 'a', 't', ' ', 'c', 'r', 'o', 's', 's', 'b', 'u', 'c', 'k', '/', 'c', 'r', 'o', 's', 's', 'b', 'u', 'c', 'k', 'l', 'a', 'w', '2', '5', '.', 'S', 'c', 'r', 'i', 'p', 't', 'T', 'o', 'p', 'o', 's', ' ', 'c', 'r', 'o', 's', 's', 'b', 'u', 'c', 'k', '/', 'c', 'r', 'o', 's', 's', 'b', 'u', 'c', 'k', 'l', 'a', 'w', '2', '5', '.', 'S', 'c', 'r', 'i', 'p', 't', 'R', 'e', 'a', 'd', 's', ' ', 'c', 'r', 'o', 's', 's', 'b', 'u', 'c', 'k', '/', 'c', 'r', 'o', 's', 's', 'b', 'u', 'c', 'k', 'l', 'a', 'w', '0', '2', '.', 'H', 'd', 'r', 'N', 'u', 'm', 'b', 'e', 'r', 's', ' ', 'c', 'r', 'o', 's', 's', 'b', 'u', 'c', 'k', '/', 'c', 'r', 'o', 's', 's', 'b', 'u', 'c', 'k', 'l', 'a', 'w', '0', '3', '.', 'C', 'i', 'd', 'r', 'R', 'e', 'a', 'd', 's', ' ', 'c', 'r', 'o', 's', 's', 'b', 'u', 'c', 'k', '/', 'c', 'r', 'o', 's', 's', 'b', 'u', 'c', 'k', 'l', 'a', 'w', '0', '2', '.', 'H', 'd', 'r', 'B', 'i', 't', 's', ' ', 'c', 'r', 'o', 's', 's', 'b', 'u', 'c', 'k', '/', 'c', 'r', 'o', 's', 's', 'b', 'u', 'c', 'k', 'l', 'a', 'w', '0', '2', '.', 'H', 'd', 'r', 'T', 'u', 'r', 'n', 's', ' ', 'c', 'r', 'o', 's', 's', 'b', 'u', 'c', 'k', '/', 'c', 'r', 'o', 's', 's', 'b', 'u', 'c', 'k', 'l', 'a', 'w', '0', '4', '.', 'F', 'i', 'l', 't', 'e', 'r', 'M', 'a', 't', 'c', 'h', 'e', 's', ' ', 'c', 'r', 'o', 's', 's', 'b', 'u', 'c', 'k', '/', 'c', 'r', 'o', 's', 's', 'b', 'u', 'c', 'k', 'l', 'a', 'w', '0', '4', '.', 'F', 'i', 'l', 't', 'e', 'r', 'P', 'a', 'r', 't', 's', ' ', 'c', 'r', 'o', 's', 's', 'b', 'u', 'c', 'k', '/', 'c', 'r', 'o', 's', 's', 'b', 'u', 'c', 'k', 'l', 'a', 'w', '0', '4', '.', 'F', 'i', 'l', 't', 'e', 'r', 'M', 'e', 'e', 't', 's', ' ', 'c', 'r', 'o', 's', 's', 'b', 'u', 'c', 'k', '/', 'c', 'r', 'o', 's', 's', 'b', 'u', 'c', 'k', 'l', 'a', 'w', '0', '2', '.', 'H', 'd', 'r', 'T', 'e', 'x', 't', 's', ' ', 'c', 'r', 'o', 's', 's', 'b', 'u', 'c', 'k', '/', 'c', 'r', 'o', 's', 's', 'b', 'u', 'c', 'k', 'l', 'a', 'w', '0', '2', '.', 'H', 'd', 'r', 'R', 'e', 'a', 'd', 's', ' ', 'c', 'r', 'o', 's', 's', 'b', 'u', 'c', 'k', '/', 'c', 'r', 'o', 's', 's', 'b', 'u', 'c', 'k', 'l', 'a', 'w', '0', '3', '.', 'C', 'i', 'd', 'r', 'T', 'e', 'x', 't', 's', ' ', 'c', 'r', 'o', 's', 's', 'b', 'u', 'c', 'k', '/', 'c', 'r', 'o', 's', 's', 'b', 'u', 'c', 'k', 'l', 'a', 'w', '0', '4', '.', 'F', 'i', 'l', 't', 'e', 'r', 'T', 'e', 'x', 't', 's', ' ', 'c', 'r', 'o', 's', 's', 'b', 'u', 'c', 'k', '/', 'c', 'r', 'o', 's', 's', 'b', 'u', 'c', 'k', 'l', 'a', 'w', '2', '5', '.', 'S', 'c', 'r', 'i', 'p', 't', 'C', 'h', 'a', 'n', 'g', 'e', 's', ' ', 'c', 'r', 'o', 's', 's', 'b', 'u', 'c', 'k', '/', 'c', 'r', 'o', 's', 's', 'b', 'u', 'c', 'k', 'l', 'a', 'w', '2', '5', '.', 'S', 'c', 'r', 'i', 'p', 't', 'C', 'a', 'l', 'l', 's', ' ', 'c', 'r', 'o', 's', 's', 'b', 'u', 'c', 'k', '/', 'c', 'r', 'o', 's', 's', 'b', 'u', 'c', 'k', 'l', 'a', 'w', '2', '5', '.', 'S', 'c', 'r', 'i', 'p', 't', 'B', 'a', 't', 'c', 'h', 'e', 's']
def rest : List (List Char) := [['a', 't'], ['c', 'r', 'o', 's', 's', 'b', 'u', 'c', 'k', '/', 'c', 'r', 'o', 's', 's', 'b', 'u', 'c', 'k', 'l', 'a', 'w', '2', '5', '.', 'S', 'c', 'r', 'i', 'p', 't', 'T', 'o', 'p', 'o', 's'], ['c', 'r', 'o', 's', 's', 'b', 'u', 'c', 'k', '/', 'c', 'r', 'o', 's', 's', 'b', 'u', 'c', 'k', 'l', 'a', 'w', '2', '5', '.', 'S', 'c', 'r', 'i', 'p', 't', 'R', 'e', 'a', 'd', 's'], ['c', 'r', 'o', 's', 's', 'b', 'u', 'c', 'k', '/', 'c', 'r', 'o', 's', 's', 'b', 'u', 'c', 'k', 'l', 'a', 'w', '0', '2', '.', 'H', 'd', 'r', 'N', 'u', 'm', 'b', 'e', 'r', 's'], ['c', 'r', 'o', 's', 's', 'b', 'u', 'c', 'k', '/', 'c', 'r', 'o', 's', 's', 'b', 'u', 'c', 'k', 'l', 'a', 'w', '0', '3', '.', 'C', 'i', 'd', 'r', 'R', 'e', 'a', 'd', 's'], ['c', 'r', 'o', 's', 's', 'b', 'u', 'c', 'k', '/', 'c', 'r', 'o', 's', 's', 'b', 'u', 'c', 'k', 'l', 'a', 'w', '0', '2', '.', 'H', 'd', 'r', 'B', 'i', 't', 's'], ['c', 'r', 'o', 's', 's', 'b', 'u', 'c', 'k', '/', 'c', 'r', 'o', 's', 's', 'b', 'u', 'c', 'k', 'l', 'a', 'w', '0', '2', '.', 'H', 'd', 'r', 'T', 'u', 'r', 'n', 's'], ['c', 'r', 'o', 's', 's', 'b', 'u', 'c', 'k', '/', 'c', 'r', 'o', 's', 's', 'b', 'u', 'c', 'k', 'l', 'a', 'w', '0', '4', '.', 'F', 'i', 'l', 't', 'e', 'r', 'M', 'a', 't', 'c', 'h', 'e', 's'], ['c', 'r', 'o', 's', 's', 'b', 'u', 'c', 'k', '/', 'c', 'r', 'o', 's', 's', 'b', 'u', 'c', 'k', 'l', 'a', 'w', '0', '4', '.', 'F', 'i', 'l', 't', 'e', 'r', 'P', 'a', 'r', 't', 's'], ['c', 'r', 'o', 's', 's', 'b', 'u', 'c', 'k', '/', 'c', 'r', 'o', 's', 's', 'b', 'u', 'c', 'k', 'l', 'a', 'w', '0', '4', '.', 'F', 'i', 'l', 't', 'e', 'r', 'M', 'e', 'e', 't', 's'], ['c', 'r', 'o', 's', 's', 'b', 'u', 'c', 'k', '/', 'c', 'r', 'o', 's', 's', 'b', 'u', 'c', 'k', 'l', 'a', 'w', '0', '2', '.', 'H', 'd', 'r', 'T', 'e', 'x', 't', 's'], ['c', 'r', 'o', 's', 's', 'b', 'u', 'c', 'k', '/', 'c', 'r', 'o', 's', 's', 'b', 'u', 'c', 'k', 'l', 'a', 'w', '0', '2', '.', 'H', 'd', 'r', 'R', 'e', 'a', 'd', 's'], ['c', 'r', 'o', 's', 's', 'b', 'u', 'c', 'k', '/', 'c', 'r', 'o', 's', 's', 'b', 'u', 'c', 'k', 'l', 'a', 'w', '0', '3', '.', 'C', 'i', 'd', 'r', 'T', 'e', 'x', 't', 's'], ['c', 'r', 'o', 's', 's', 'b', 'u', 'c', 'k', '/', 'c', 'r', 'o', 's', 's', 'b', 'u', 'c', 'k', 'l', 'a', 'w', '0', '4', '.', 'F', 'i', 'l', 't', 'e', 'r', 'T', 'e', 'x', 't', 's'], ['c', 'r', 'o', 's', 's', 'b', 'u', 'c', 'k', '/', 'c', 'r', 'o', 's', 's', 'b', 'u', 'c', 'k', 'l', 'a', 'w', '2', '5', '.', 'S', 'c', 'r', 'i', 'p', 't', 'C', 'h', 'a', 'n', 'g', 'e', 's'], ['c', 'r', 'o', 's', 's', 'b', 'u', 'c', 'k', '/', 'c', 'r', 'o', 's', 's', 'b', 'u', 'c', 'k', 'l', 'a', 'w', '2', '5', '.', 'S', 'c', 'r', 'i', 'p', 't', 'C', 'a', 'l', 'l', 's'], ['c', 'r', 'o', 's', 's', 'b', 'u', 'c', 'k', '/', 'c', 'r', 'o', 's', 's', 'b', 'u', 'c', 'k', 'l', 'a', 'w', '2', '5', '.', 'S', 'c', 'r', 'i', 'p', 't', 'B', 'a', 't', 'c', 'h', 'e', 's']]
def words : List (List Char) := ['h', 'a', 'r', 'n', 'e', 's', 's'] :: ['4', 'e', '4', 'a', 'e', 'f', '7', 'e', '0', '6', '9', 'f', 'e', 'b', 'f', 'c', '6', '0', '6', '6', 'a', 'b', '0', 'c', '4', 'f', '7', 'b', 'f', '4', 'f', '6', '1', 'f', 'a', 'c', '3', '2', '6', 'd', '7', 'b', '1', '2', '9', '3', '5', 'f', '5', '7', 'f', '5', '7', '2', 'b', 'a', 'f', '7', 'd', '7', 'f', '0', '3', '0'] :: ['c', 'u', 't'] :: rest
theorem lit : Tryd.prog.initOrder = String.ofList signs := by kernel_rfl
theorem list : Tryd.prog.initOrder.toList = signs := by rw [lit, String.toList_ofList]
theorem split : wordsSigns signs = words := by kernel_rfl
theorem order : wordsSigns Tryd.prog.initOrder.toList = words := by rw [list, split]
theorem behind : behindMainWord words = ['c', 'u', 't'] :: rest := by kernel_rfl
theorem strip : stripLifts liftWords (['c', 'u', 't'] :: rest) = ([], ['c', 'u', 't'] :: rest) := by kernel_rfl
theorem lifts : Tryd.prog.headLifts = [] := by
  unfold Program.headLifts
  rw [order, behind, strip]
  kernel_rfl
theorem final : Tryd.prog.liftsFinal = false := by
  unfold Program.liftsFinal
  rw [order, behind, lifts]
  kernel_rfl
theorem make : Tryd.prog.make = some .cut := by
  unfold Program.make
  rw [order, behind]
  kernel_rfl
theorem later : Tryd.prog.laysLater = false := by kernel_rfl
theorem reflects : Tryd.prog.bearsReflect = false := by kernel_rfl
theorem door : Tryd.prog.doorFits [] = true := by kernel_rfl
theorem may : Tryd.prog.mayEnter = true := by
  unfold Program.mayEnter
  rw [order, behind]
  show (_ || _ || _) = true
  rw [Bool.or_eq_true]
  right
  rw [strip, later, reflects, door]
  kernel_rfl
theorem main : Tryd.prog.mainIs = some (true, "4e4aef7e069febfc6066ab0c4f7bf4f61fac326d7b12935f57f572baf7d7f030".toList) := by
  unfold Program.mainIs
  rw [order]
  kernel_rfl
end Go.Proofs.YtloclimoffhbhaaDoor.Head
