-- Written by wip/myprint.py and wip/merge.py (this session's own programs); Lean checks it.
-- halved
import Derived.Test.YtloclimoffhbhaaDoorProg
import Derived.Below
import Derived.Deep.Draws
import Derived.Deep.AppendLies
import Derived.Maps.AppendAt
import Derived.OwnWalk
import Derived.Laws.BytesArg
import Derived.Laws.MakeOwn
import Derived.Laws.OwnMore
import Derived.Deep.OwnRows
import Derived.Tactics
import Derived.Lib.ConvBytes
import Derived.Laws.Slices
import Derived.WalkKit
import Derived.KernelRfl
import Derived.RowKit3
import Derived.Deep.LoopGhost
import Derived.Deep.QuietTactic
import Derived.BigQuiet
import Derived.WideLaws
import Derived.Deep.DeepCutAuto
import Derived.Deep.CutBlock
import Derived.Deep.RegionHeld3
import Derived.Laws.Rows
import Derived.Lib.AppendStr
import Derived.ArgAppend
import Derived.Laws.IdiomCopy
import Derived.OrdersHeld
import Derived.Laws.BitsLemmas
import Derived.RowKit
import Derived.Test.YtloclimoffhbhaaDoorGood
import Derived.LoopN
import Derived.Laws.PanicsMore
import Derived.Test.YtloclimoffhbhaaDoorV0
namespace Go.Proofs.YtloclimoffhbhaaDoor.PSto
open Go.RowKit Go.Proofs.YtloclimoffhbhaaDoorW.PrintWords Go.Proofs.YtloclimoffhbhaaDoorW.PrintLast Go.Proofs.YtloclimoffhbhaaDoorW.PrintMore
attribute [local go_sem] max2_int min2_int max_two min_two max_three min_three max_four min_four   -- for this text's walks alone
set_option linter.unusedVariables false
set_option linter.unusedSimpArgs false



def errW : Option Int → Value
 | none => .nilIface
 | some c => .iface 0 (.int .i64 c)
theorem errW_none : errW none = .nilIface := rfl
theorem errW_some (c : Int) : errW (some c) = .iface 0 (.int .i64 c) := rfl

theorem info3 : (Tryd.prog.info? 3).map (fun i => (i.zero, i.size, i.bytes)) = some (some (.int .i64 0), 1, 8) := by kernel_rfl
theorem info9 : (Tryd.prog.info? 9).map (fun i => (i.zero, i.size, i.bytes)) = some (some (.string ⟨#[]⟩), 1, 16) := by kernel_rfl
theorem info46 : (Tryd.prog.info? 46).map (fun i => (i.zero, i.size, i.bytes)) = some (some (.agg #[(.bool false), (.int .i64 0), (.int .i64 0), (.int .u32 0), (.int .i64 0), (.int .i64 0), (.int .i64 0)]), 7, 56) := by kernel_rfl
theorem info128 : (Tryd.prog.info? 128).map (fun i => (i.zero, i.size, i.bytes)) = some (some (.agg #[(.int .i64 0), (.int .i64 0)]), 2, 16) := by kernel_rfl
-- the values' own types
/-! #### struct type 42 -/
structure S42 where
 f0 : Int
 f1 : Int
def z42 : S42 := ⟨(0 : Int), (0 : Int)⟩
def k42 : Kd S42 := Kd.iso (Kd.pair (Kd.int .u32) (Kd.int .i64)) (fun x : S42 => (x.f0, x.f1))
theorem k42_open {w : World} {x : S42} {cs : List Value} (h : k42.K w x cs) : cs = [.int .u32 x.f0, .int .i64 x.f1] := by
 obtain ⟨_, _, rfl, rfl, rfl⟩ := h
 exact rfl
theorem k42_mk (w : World) (x : S42)  : k42.K w x [.int .u32 x.f0, .int .i64 x.f1] := ⟨[.int .u32 x.f0], [.int .i64 x.f1], rfl, rfl, rfl⟩
theorem k42_mkM (w : World) (base : Nat) (ok : Nat → Prop) (x : S42)  : k42.M w base ok x [.int .u32 x.f0, .int .i64 x.f1] := ⟨[.int .u32 x.f0], [.int .i64 x.f1], rfl, rfl, rfl⟩
/-! #### struct type 44 -/
structure S44 where
 f0 : Int
 f1 : Int
 f2 : S42
 f3 : Int
 f4 : Int
def z44 : S44 := ⟨(0 : Int), (0 : Int), z42, (0 : Int), (0 : Int)⟩
def k44 : Kd S44 := Kd.iso (Kd.pair (Kd.int .i64) (Kd.pair (Kd.int .i64) (Kd.pair k42 (Kd.pair (Kd.int .i64) (Kd.int .i64))))) (fun x : S44 => (x.f0, x.f1, x.f2, x.f3, x.f4))
theorem k44_open {w : World} {x : S44} {cs : List Value} (h : k44.K w x cs) : cs = [.int .i64 x.f0, .int .i64 x.f1, .int .u32 x.f2.f0, .int .i64 x.f2.f1, .int .i64 x.f3, .int .i64 x.f4] := by
 obtain ⟨_, _, rfl, rfl, ⟨_, _, rfl, rfl, ⟨_, _, rfl, s2, ⟨_, _, rfl, rfl, rfl⟩⟩⟩⟩ := h
 obtain rfl := k42_open s2
 exact rfl
theorem k44_mkM (w : World) (base : Nat) (ok : Nat → Prop) (x : S44)  : k44.M w base ok x [.int .i64 x.f0, .int .i64 x.f1, .int .u32 x.f2.f0, .int .i64 x.f2.f1, .int .i64 x.f3, .int .i64 x.f4] := ⟨[.int .i64 x.f0], [.int .i64 x.f1, .int .u32 x.f2.f0, .int .i64 x.f2.f1, .int .i64 x.f3, .int .i64 x.f4], rfl, rfl, ⟨[.int .i64 x.f1], [.int .u32 x.f2.f0, .int .i64 x.f2.f1, .int .i64 x.f3, .int .i64 x.f4], rfl, rfl, ⟨[.int .u32 x.f2.f0, .int .i64 x.f2.f1], [.int .i64 x.f3, .int .i64 x.f4], rfl, (k42_mkM w base ok x.f2 ), ⟨[.int .i64 x.f3], [.int .i64 x.f4], rfl, rfl, rfl⟩⟩⟩⟩
/-! #### struct type 46 -/
structure S46 where
 f0 : Bool
 f1 : S44
def z46 : S46 := ⟨false, z44⟩
def k46 : Kd S46 := Kd.iso (Kd.pair Kd.bool k44) (fun x : S46 => (x.f0, x.f1))
theorem k46_open {w : World} {x : S46} {cs : List Value} (h : k46.K w x cs) : cs = [.bool x.f0, .int .i64 x.f1.f0, .int .i64 x.f1.f1, .int .u32 x.f1.f2.f0, .int .i64 x.f1.f2.f1, .int .i64 x.f1.f3, .int .i64 x.f1.f4] := by
 obtain ⟨_, _, rfl, rfl, s1⟩ := h
 obtain rfl := k44_open s1
 exact rfl
theorem k46_mkM (w : World) (base : Nat) (ok : Nat → Prop) (x : S46)  : k46.M w base ok x [.bool x.f0, .int .i64 x.f1.f0, .int .i64 x.f1.f1, .int .u32 x.f1.f2.f0, .int .i64 x.f1.f2.f1, .int .i64 x.f1.f3, .int .i64 x.f1.f4] := ⟨[.bool x.f0], [.int .i64 x.f1.f0, .int .i64 x.f1.f1, .int .u32 x.f1.f2.f0, .int .i64 x.f1.f2.f1, .int .i64 x.f1.f3, .int .i64 x.f1.f4], rfl, rfl, (k44_mkM w base ok x.f1 )⟩
def rd_T46 (xs : List S46) (i : Int) : S46 := xs.getD i.toNat z46
theorem at_T46 {w : World} {A : Option Addr} {n : Nat} {xs : List S46} (h : Kd.C k46 w A n xs) (i : Int) (h0 : 0 ≤ i) (h1 : i < n) : ∃ ad , A = some ad ∧ w.cell? (ad.add (i.toNat * 7)) = some (.bool (rd_T46 xs i).f0) ∧ w.cell? ⟨(ad.add (i.toNat * 7)).block, (ad.add (i.toNat * 7)).off + 1, none⟩ = some (.int .i64 (rd_T46 xs i).f1.f0) ∧ w.cell? ⟨(ad.add (i.toNat * 7)).block, (ad.add (i.toNat * 7)).off + 2, none⟩ = some (.int .i64 (rd_T46 xs i).f1.f1) ∧ w.cell? ⟨(ad.add (i.toNat * 7)).block, (ad.add (i.toNat * 7)).off + 3, none⟩ = some (.int .u32 (rd_T46 xs i).f1.f2.f0) ∧ w.cell? ⟨(ad.add (i.toNat * 7)).block, (ad.add (i.toNat * 7)).off + 4, none⟩ = some (.int .i64 (rd_T46 xs i).f1.f2.f1) ∧ w.cell? ⟨(ad.add (i.toNat * 7)).block, (ad.add (i.toNat * 7)).off + 5, none⟩ = some (.int .i64 (rd_T46 xs i).f1.f3) ∧ w.cell? ⟨(ad.add (i.toNat * 7)).block, (ad.add (i.toNat * 7)).off + 6, none⟩ = some (.int .i64 (rd_T46 xs i).f1.f4) := by
 obtain ⟨ad, c, e, _, hK, hc0⟩ := Kd.C_get h z46 i h0 h1
 have hc : ∀ j u, c[j]? = some u → w.cell? (ad.add (i.toNat * 7 + j)) = some u := hc0
 obtain rfl := k46_open hK
 exact ⟨ad, e, hc 0 _ rfl, by rw [← add_field _ _ 1 (by omega)]; exact hc 1 _ rfl, by rw [← add_field _ _ 2 (by omega)]; exact hc 2 _ rfl, by rw [← add_field _ _ 3 (by omega)]; exact hc 3 _ rfl, by rw [← add_field _ _ 4 (by omega)]; exact hc 4 _ rfl, by rw [← add_field _ _ 5 (by omega)]; exact hc 5 _ rfl, by rw [← add_field _ _ 6 (by omega)]; exact hc 6 _ rfl⟩

/-! #### struct type 133 -/
structure S133 where
 f0 : Int
 f1 : Int
 f2 : Int
 f3 : Int
def z133 : S133 := ⟨(0 : Int), (0 : Int), (0 : Int), (0 : Int)⟩
def k133 : Kd S133 := Kd.iso (Kd.pair (Kd.int .i64) (Kd.pair (Kd.int .i64) (Kd.pair (Kd.int .i64) (Kd.int .i64)))) (fun x : S133 => (x.f0, x.f1, x.f2, x.f3))
theorem k133_open {w : World} {x : S133} {cs : List Value} (h : k133.K w x cs) : cs = [.int .i64 x.f0, .int .i64 x.f1, .int .i64 x.f2, .int .i64 x.f3] := by
 obtain ⟨_, _, rfl, rfl, ⟨_, _, rfl, rfl, ⟨_, _, rfl, rfl, rfl⟩⟩⟩ := h
 exact rfl
theorem k133_mk (w : World) (x : S133)  : k133.K w x [.int .i64 x.f0, .int .i64 x.f1, .int .i64 x.f2, .int .i64 x.f3] := ⟨[.int .i64 x.f0], [.int .i64 x.f1, .int .i64 x.f2, .int .i64 x.f3], rfl, rfl, ⟨[.int .i64 x.f1], [.int .i64 x.f2, .int .i64 x.f3], rfl, rfl, ⟨[.int .i64 x.f2], [.int .i64 x.f3], rfl, rfl, rfl⟩⟩⟩
theorem k133_mkM (w : World) (base : Nat) (ok : Nat → Prop) (x : S133)  : k133.M w base ok x [.int .i64 x.f0, .int .i64 x.f1, .int .i64 x.f2, .int .i64 x.f3] := ⟨[.int .i64 x.f0], [.int .i64 x.f1, .int .i64 x.f2, .int .i64 x.f3], rfl, rfl, ⟨[.int .i64 x.f1], [.int .i64 x.f2, .int .i64 x.f3], rfl, rfl, ⟨[.int .i64 x.f2], [.int .i64 x.f3], rfl, rfl, rfl⟩⟩⟩
def rd_T133 (xs : List S133) (i : Int) : S133 := xs.getD i.toNat z133
theorem at_T133 {w : World} {A : Option Addr} {n : Nat} {xs : List S133} (h : Kd.C k133 w A n xs) (i : Int) (h0 : 0 ≤ i) (h1 : i < n) : ∃ ad , A = some ad ∧ w.cell? (ad.add (i.toNat * 4)) = some (.int .i64 (rd_T133 xs i).f0) ∧ w.cell? ⟨(ad.add (i.toNat * 4)).block, (ad.add (i.toNat * 4)).off + 1, none⟩ = some (.int .i64 (rd_T133 xs i).f1) ∧ w.cell? ⟨(ad.add (i.toNat * 4)).block, (ad.add (i.toNat * 4)).off + 2, none⟩ = some (.int .i64 (rd_T133 xs i).f2) ∧ w.cell? ⟨(ad.add (i.toNat * 4)).block, (ad.add (i.toNat * 4)).off + 3, none⟩ = some (.int .i64 (rd_T133 xs i).f3) := by
 obtain ⟨ad, c, e, _, hK, hc0⟩ := Kd.C_get h z133 i h0 h1
 have hc : ∀ j u, c[j]? = some u → w.cell? (ad.add (i.toNat * 4 + j)) = some u := hc0
 obtain rfl := k133_open hK
 exact ⟨ad, e, hc 0 _ rfl, by rw [← add_field _ _ 1 (by omega)]; exact hc 1 _ rfl, by rw [← add_field _ _ 2 (by omega)]; exact hc 2 _ rfl, by rw [← add_field _ _ 3 (by omega)]; exact hc 3 _ rfl⟩

/-! #### struct type 61 -/
structure S61 where
 f0 : Int
 f1 : Int
def z61 : S61 := ⟨(0 : Int), (0 : Int)⟩
def k61 : Kd S61 := Kd.iso (Kd.pair (Kd.int .u16) (Kd.int .u16)) (fun x : S61 => (x.f0, x.f1))
theorem k61_open {w : World} {x : S61} {cs : List Value} (h : k61.K w x cs) : cs = [.int .u16 x.f0, .int .u16 x.f1] := by
 obtain ⟨_, _, rfl, rfl, rfl⟩ := h
 exact rfl
theorem k61_mk (w : World) (x : S61)  : k61.K w x [.int .u16 x.f0, .int .u16 x.f1] := ⟨[.int .u16 x.f0], [.int .u16 x.f1], rfl, rfl, rfl⟩
theorem k61_mkM (w : World) (base : Nat) (ok : Nat → Prop) (x : S61)  : k61.M w base ok x [.int .u16 x.f0, .int .u16 x.f1] := ⟨[.int .u16 x.f0], [.int .u16 x.f1], rfl, rfl, rfl⟩
/-! #### struct type 77 -/
structure S77 where
 f0 : S42
 f1 : S42
 f2 : Int
 f3 : S61
 f4 : S61
def z77 : S77 := ⟨z42, z42, (0 : Int), z61, z61⟩
def k77 : Kd S77 := Kd.iso (Kd.pair k42 (Kd.pair k42 (Kd.pair (Kd.int .i64) (Kd.pair k61 k61)))) (fun x : S77 => (x.f0, x.f1, x.f2, x.f3, x.f4))
theorem k77_open {w : World} {x : S77} {cs : List Value} (h : k77.K w x cs) : cs = [.int .u32 x.f0.f0, .int .i64 x.f0.f1, .int .u32 x.f1.f0, .int .i64 x.f1.f1, .int .i64 x.f2, .int .u16 x.f3.f0, .int .u16 x.f3.f1, .int .u16 x.f4.f0, .int .u16 x.f4.f1] := by
 obtain ⟨_, _, rfl, s0, ⟨_, _, rfl, s2, ⟨_, _, rfl, rfl, ⟨_, _, rfl, s5, s7⟩⟩⟩⟩ := h
 obtain rfl := k42_open s0
 obtain rfl := k42_open s2
 obtain rfl := k61_open s5
 obtain rfl := k61_open s7
 exact rfl
theorem k77_mk (w : World) (x : S77)  : k77.K w x [.int .u32 x.f0.f0, .int .i64 x.f0.f1, .int .u32 x.f1.f0, .int .i64 x.f1.f1, .int .i64 x.f2, .int .u16 x.f3.f0, .int .u16 x.f3.f1, .int .u16 x.f4.f0, .int .u16 x.f4.f1] := ⟨[.int .u32 x.f0.f0, .int .i64 x.f0.f1], [.int .u32 x.f1.f0, .int .i64 x.f1.f1, .int .i64 x.f2, .int .u16 x.f3.f0, .int .u16 x.f3.f1, .int .u16 x.f4.f0, .int .u16 x.f4.f1], rfl, (k42_mk w x.f0 ), ⟨[.int .u32 x.f1.f0, .int .i64 x.f1.f1], [.int .i64 x.f2, .int .u16 x.f3.f0, .int .u16 x.f3.f1, .int .u16 x.f4.f0, .int .u16 x.f4.f1], rfl, (k42_mk w x.f1 ), ⟨[.int .i64 x.f2], [.int .u16 x.f3.f0, .int .u16 x.f3.f1, .int .u16 x.f4.f0, .int .u16 x.f4.f1], rfl, rfl, ⟨[.int .u16 x.f3.f0, .int .u16 x.f3.f1], [.int .u16 x.f4.f0, .int .u16 x.f4.f1], rfl, (k61_mk w x.f3 ), (k61_mk w x.f4 )⟩⟩⟩⟩
theorem k77_mkM (w : World) (base : Nat) (ok : Nat → Prop) (x : S77)  : k77.M w base ok x [.int .u32 x.f0.f0, .int .i64 x.f0.f1, .int .u32 x.f1.f0, .int .i64 x.f1.f1, .int .i64 x.f2, .int .u16 x.f3.f0, .int .u16 x.f3.f1, .int .u16 x.f4.f0, .int .u16 x.f4.f1] := ⟨[.int .u32 x.f0.f0, .int .i64 x.f0.f1], [.int .u32 x.f1.f0, .int .i64 x.f1.f1, .int .i64 x.f2, .int .u16 x.f3.f0, .int .u16 x.f3.f1, .int .u16 x.f4.f0, .int .u16 x.f4.f1], rfl, (k42_mkM w base ok x.f0 ), ⟨[.int .u32 x.f1.f0, .int .i64 x.f1.f1], [.int .i64 x.f2, .int .u16 x.f3.f0, .int .u16 x.f3.f1, .int .u16 x.f4.f0, .int .u16 x.f4.f1], rfl, (k42_mkM w base ok x.f1 ), ⟨[.int .i64 x.f2], [.int .u16 x.f3.f0, .int .u16 x.f3.f1, .int .u16 x.f4.f0, .int .u16 x.f4.f1], rfl, rfl, ⟨[.int .u16 x.f3.f0, .int .u16 x.f3.f1], [.int .u16 x.f4.f0, .int .u16 x.f4.f1], rfl, (k61_mkM w base ok x.f3 ), (k61_mkM w base ok x.f4 )⟩⟩⟩⟩
/-! #### struct type 130 -/
structure S130 where
 f0 : Int
 f1 : Int
 f2 : Bool
 f3 : Bool
 f4 : S77
def z130 : S130 := ⟨(0 : Int), (0 : Int), false, false, z77⟩
def k130 : Kd S130 := Kd.iso (Kd.pair (Kd.int .i64) (Kd.pair (Kd.int .i64) (Kd.pair Kd.bool (Kd.pair Kd.bool k77)))) (fun x : S130 => (x.f0, x.f1, x.f2, x.f3, x.f4))
theorem k130_open {w : World} {x : S130} {cs : List Value} (h : k130.K w x cs) : cs = [.int .i64 x.f0, .int .i64 x.f1, .bool x.f2, .bool x.f3, .int .u32 x.f4.f0.f0, .int .i64 x.f4.f0.f1, .int .u32 x.f4.f1.f0, .int .i64 x.f4.f1.f1, .int .i64 x.f4.f2, .int .u16 x.f4.f3.f0, .int .u16 x.f4.f3.f1, .int .u16 x.f4.f4.f0, .int .u16 x.f4.f4.f1] := by
 obtain ⟨_, _, rfl, rfl, ⟨_, _, rfl, rfl, ⟨_, _, rfl, rfl, ⟨_, _, rfl, rfl, s4⟩⟩⟩⟩ := h
 obtain rfl := k77_open s4
 exact rfl
theorem k130_mk (w : World) (x : S130)  : k130.K w x [.int .i64 x.f0, .int .i64 x.f1, .bool x.f2, .bool x.f3, .int .u32 x.f4.f0.f0, .int .i64 x.f4.f0.f1, .int .u32 x.f4.f1.f0, .int .i64 x.f4.f1.f1, .int .i64 x.f4.f2, .int .u16 x.f4.f3.f0, .int .u16 x.f4.f3.f1, .int .u16 x.f4.f4.f0, .int .u16 x.f4.f4.f1] := ⟨[.int .i64 x.f0], [.int .i64 x.f1, .bool x.f2, .bool x.f3, .int .u32 x.f4.f0.f0, .int .i64 x.f4.f0.f1, .int .u32 x.f4.f1.f0, .int .i64 x.f4.f1.f1, .int .i64 x.f4.f2, .int .u16 x.f4.f3.f0, .int .u16 x.f4.f3.f1, .int .u16 x.f4.f4.f0, .int .u16 x.f4.f4.f1], rfl, rfl, ⟨[.int .i64 x.f1], [.bool x.f2, .bool x.f3, .int .u32 x.f4.f0.f0, .int .i64 x.f4.f0.f1, .int .u32 x.f4.f1.f0, .int .i64 x.f4.f1.f1, .int .i64 x.f4.f2, .int .u16 x.f4.f3.f0, .int .u16 x.f4.f3.f1, .int .u16 x.f4.f4.f0, .int .u16 x.f4.f4.f1], rfl, rfl, ⟨[.bool x.f2], [.bool x.f3, .int .u32 x.f4.f0.f0, .int .i64 x.f4.f0.f1, .int .u32 x.f4.f1.f0, .int .i64 x.f4.f1.f1, .int .i64 x.f4.f2, .int .u16 x.f4.f3.f0, .int .u16 x.f4.f3.f1, .int .u16 x.f4.f4.f0, .int .u16 x.f4.f4.f1], rfl, rfl, ⟨[.bool x.f3], [.int .u32 x.f4.f0.f0, .int .i64 x.f4.f0.f1, .int .u32 x.f4.f1.f0, .int .i64 x.f4.f1.f1, .int .i64 x.f4.f2, .int .u16 x.f4.f3.f0, .int .u16 x.f4.f3.f1, .int .u16 x.f4.f4.f0, .int .u16 x.f4.f4.f1], rfl, rfl, (k77_mk w x.f4 )⟩⟩⟩⟩
theorem k130_mkM (w : World) (base : Nat) (ok : Nat → Prop) (x : S130)  : k130.M w base ok x [.int .i64 x.f0, .int .i64 x.f1, .bool x.f2, .bool x.f3, .int .u32 x.f4.f0.f0, .int .i64 x.f4.f0.f1, .int .u32 x.f4.f1.f0, .int .i64 x.f4.f1.f1, .int .i64 x.f4.f2, .int .u16 x.f4.f3.f0, .int .u16 x.f4.f3.f1, .int .u16 x.f4.f4.f0, .int .u16 x.f4.f4.f1] := ⟨[.int .i64 x.f0], [.int .i64 x.f1, .bool x.f2, .bool x.f3, .int .u32 x.f4.f0.f0, .int .i64 x.f4.f0.f1, .int .u32 x.f4.f1.f0, .int .i64 x.f4.f1.f1, .int .i64 x.f4.f2, .int .u16 x.f4.f3.f0, .int .u16 x.f4.f3.f1, .int .u16 x.f4.f4.f0, .int .u16 x.f4.f4.f1], rfl, rfl, ⟨[.int .i64 x.f1], [.bool x.f2, .bool x.f3, .int .u32 x.f4.f0.f0, .int .i64 x.f4.f0.f1, .int .u32 x.f4.f1.f0, .int .i64 x.f4.f1.f1, .int .i64 x.f4.f2, .int .u16 x.f4.f3.f0, .int .u16 x.f4.f3.f1, .int .u16 x.f4.f4.f0, .int .u16 x.f4.f4.f1], rfl, rfl, ⟨[.bool x.f2], [.bool x.f3, .int .u32 x.f4.f0.f0, .int .i64 x.f4.f0.f1, .int .u32 x.f4.f1.f0, .int .i64 x.f4.f1.f1, .int .i64 x.f4.f2, .int .u16 x.f4.f3.f0, .int .u16 x.f4.f3.f1, .int .u16 x.f4.f4.f0, .int .u16 x.f4.f4.f1], rfl, rfl, ⟨[.bool x.f3], [.int .u32 x.f4.f0.f0, .int .i64 x.f4.f0.f1, .int .u32 x.f4.f1.f0, .int .i64 x.f4.f1.f1, .int .i64 x.f4.f2, .int .u16 x.f4.f3.f0, .int .u16 x.f4.f3.f1, .int .u16 x.f4.f4.f0, .int .u16 x.f4.f4.f1], rfl, rfl, (k77_mkM w base ok x.f4 )⟩⟩⟩⟩
def rd_T130 (xs : List S130) (i : Int) : S130 := xs.getD i.toNat z130
theorem at_T130 {w : World} {A : Option Addr} {n : Nat} {xs : List S130} (h : Kd.C k130 w A n xs) (i : Int) (h0 : 0 ≤ i) (h1 : i < n) : ∃ ad , A = some ad ∧ w.cell? (ad.add (i.toNat * 13)) = some (.int .i64 (rd_T130 xs i).f0) ∧ w.cell? ⟨(ad.add (i.toNat * 13)).block, (ad.add (i.toNat * 13)).off + 1, none⟩ = some (.int .i64 (rd_T130 xs i).f1) ∧ w.cell? ⟨(ad.add (i.toNat * 13)).block, (ad.add (i.toNat * 13)).off + 2, none⟩ = some (.bool (rd_T130 xs i).f2) ∧ w.cell? ⟨(ad.add (i.toNat * 13)).block, (ad.add (i.toNat * 13)).off + 3, none⟩ = some (.bool (rd_T130 xs i).f3) ∧ w.cell? ⟨(ad.add (i.toNat * 13)).block, (ad.add (i.toNat * 13)).off + 4, none⟩ = some (.int .u32 (rd_T130 xs i).f4.f0.f0) ∧ w.cell? ⟨(ad.add (i.toNat * 13)).block, (ad.add (i.toNat * 13)).off + 5, none⟩ = some (.int .i64 (rd_T130 xs i).f4.f0.f1) ∧ w.cell? ⟨(ad.add (i.toNat * 13)).block, (ad.add (i.toNat * 13)).off + 6, none⟩ = some (.int .u32 (rd_T130 xs i).f4.f1.f0) ∧ w.cell? ⟨(ad.add (i.toNat * 13)).block, (ad.add (i.toNat * 13)).off + 7, none⟩ = some (.int .i64 (rd_T130 xs i).f4.f1.f1) ∧ w.cell? ⟨(ad.add (i.toNat * 13)).block, (ad.add (i.toNat * 13)).off + 8, none⟩ = some (.int .i64 (rd_T130 xs i).f4.f2) ∧ w.cell? ⟨(ad.add (i.toNat * 13)).block, (ad.add (i.toNat * 13)).off + 9, none⟩ = some (.int .u16 (rd_T130 xs i).f4.f3.f0) ∧ w.cell? ⟨(ad.add (i.toNat * 13)).block, (ad.add (i.toNat * 13)).off + 10, none⟩ = some (.int .u16 (rd_T130 xs i).f4.f3.f1) ∧ w.cell? ⟨(ad.add (i.toNat * 13)).block, (ad.add (i.toNat * 13)).off + 11, none⟩ = some (.int .u16 (rd_T130 xs i).f4.f4.f0) ∧ w.cell? ⟨(ad.add (i.toNat * 13)).block, (ad.add (i.toNat * 13)).off + 12, none⟩ = some (.int .u16 (rd_T130 xs i).f4.f4.f1) := by
 obtain ⟨ad, c, e, _, hK, hc0⟩ := Kd.C_get h z130 i h0 h1
 have hc : ∀ j u, c[j]? = some u → w.cell? (ad.add (i.toNat * 13 + j)) = some u := hc0
 obtain rfl := k130_open hK
 exact ⟨ad, e, hc 0 _ rfl, by rw [← add_field _ _ 1 (by omega)]; exact hc 1 _ rfl, by rw [← add_field _ _ 2 (by omega)]; exact hc 2 _ rfl, by rw [← add_field _ _ 3 (by omega)]; exact hc 3 _ rfl, by rw [← add_field _ _ 4 (by omega)]; exact hc 4 _ rfl, by rw [← add_field _ _ 5 (by omega)]; exact hc 5 _ rfl, by rw [← add_field _ _ 6 (by omega)]; exact hc 6 _ rfl, by rw [← add_field _ _ 7 (by omega)]; exact hc 7 _ rfl, by rw [← add_field _ _ 8 (by omega)]; exact hc 8 _ rfl, by rw [← add_field _ _ 9 (by omega)]; exact hc 9 _ rfl, by rw [← add_field _ _ 10 (by omega)]; exact hc 10 _ rfl, by rw [← add_field _ _ 11 (by omega)]; exact hc 11 _ rfl, by rw [← add_field _ _ 12 (by omega)]; exact hc 12 _ rfl⟩

/-! #### struct type 128 -/
structure S128 where
 f0 : Int
 f1 : Int
def z128 : S128 := ⟨(0 : Int), (0 : Int)⟩
def k128 : Kd S128 := Kd.iso (Kd.pair (Kd.int .i64) (Kd.int .i64)) (fun x : S128 => (x.f0, x.f1))
theorem k128_open {w : World} {x : S128} {cs : List Value} (h : k128.K w x cs) : cs = [.int .i64 x.f0, .int .i64 x.f1] := by
 obtain ⟨_, _, rfl, rfl, rfl⟩ := h
 exact rfl
theorem k128_mkM (w : World) (base : Nat) (ok : Nat → Prop) (x : S128)  : k128.M w base ok x [.int .i64 x.f0, .int .i64 x.f1] := ⟨[.int .i64 x.f0], [.int .i64 x.f1], rfl, rfl, rfl⟩
def rd_T128 (xs : List S128) (i : Int) : S128 := xs.getD i.toNat z128
theorem at_T128 {w : World} {A : Option Addr} {n : Nat} {xs : List S128} (h : Kd.C k128 w A n xs) (i : Int) (h0 : 0 ≤ i) (h1 : i < n) : ∃ ad , A = some ad ∧ w.cell? (ad.add (i.toNat * 2)) = some (.int .i64 (rd_T128 xs i).f0) ∧ w.cell? ⟨(ad.add (i.toNat * 2)).block, (ad.add (i.toNat * 2)).off + 1, none⟩ = some (.int .i64 (rd_T128 xs i).f1) := by
 obtain ⟨ad, c, e, _, hK, hc0⟩ := Kd.C_get h z128 i h0 h1
 have hc : ∀ j u, c[j]? = some u → w.cell? (ad.add (i.toNat * 2 + j)) = some u := hc0
 obtain rfl := k128_open hK
 exact ⟨ad, e, hc 0 _ rfl, by rw [← add_field _ _ 1 (by omega)]; exact hc 1 _ rfl⟩

end Go.Proofs.YtloclimoffhbhaaDoor.PSto

namespace Go.Proofs.YtloclimoffhbhaaDoor.PSto
open Go.RowKit Go.Proofs.YtloclimoffhbhaaDoorW.PrintWords Go.Proofs.YtloclimoffhbhaaDoorW.PrintLast Go.Proofs.YtloclimoffhbhaaDoorW.PrintMore
attribute [local go_sem] max2_int min2_int max_two min_two max_three min_three max_four min_four   -- for this text's walks alone
set_option linter.unusedVariables false
set_option linter.unusedSimpArgs false

/-! ### hdr_Number: function 30 (by hand) -/
/-- The digits of a word, one by one: what is read so far, or what is wrong first. -/
def numberGo (most : Int) : List UInt8 → Int → Int × Int
 | [], n => (n, 0)
 | c :: l, n => if c.toNat < 48 ∨ 57 < c.toNat then (0, 6) else if wrap64 (wrap64 (n * 10) + ((c.toNat : Int) - 48)) > most then (0, 5) else numberGo most l (wrap64 (wrap64 (n * 10) + ((c.toNat : Int) - 48)))
/-- A word is none: nothing, or a nought ahead. -/
def numberBad (l : List UInt8) : Bool := l.isEmpty || (decide (1 < l.length) && l.headD 0 == 48)
def hdr_Number.f (a0 : ByteArray) (a1 : Int) : Option (Int × Int) := some (if numberBad a0.data.toList = true then (0, 6) else numberGo a1 a0.data.toList 0)
theorem numberGo_drop (most : Int) (s : ByteArray) (pos : Nat) (n : Int) (h : pos < s.size) : numberGo most (s.data.toList.drop pos) n = numberGo most (s[pos] :: s.data.toList.drop (pos + 1)) n := by
 have : s.data.toList.drop pos = s[pos] :: s.data.toList.drop (pos + 1) := by
  rw [List.drop_eq_getElem_cons (by simpa using h)]; rfl
 rw [this]
theorem numberGo_bad {most n : Int} {c : UInt8} {l : List UInt8} (h : c.toNat < 48 ∨ 57 < c.toNat) : numberGo most (c :: l) n = (0, 6) := by rw [numberGo, if_pos h]
theorem numberGo_over {most n : Int} {c : UInt8} {l : List UInt8} (h : ¬ (c.toNat < 48 ∨ 57 < c.toNat)) (g : most < wrap64 (wrap64 (n * 10) + ((c.toNat : Int) - 48))) : numberGo most (c :: l) n = (0, 5) := by rw [numberGo, if_neg h, if_pos g]
theorem numberGo_on {most n : Int} {c : UInt8} {l : List UInt8} (h : ¬ (c.toNat < 48 ∨ 57 < c.toNat)) (g : wrap64 (wrap64 (n * 10) + ((c.toNat : Int) - 48)) ≤ most) : numberGo most (c :: l) n = numberGo most l (wrap64 (wrap64 (n * 10) + ((c.toNat : Int) - 48))) := by rw [numberGo, if_neg h, if_neg (by omega)]
theorem numberGo_end {most n : Int} {s : ByteArray} {pos : Nat} (h : ¬ pos < s.size) : numberGo most (s.data.toList.drop pos) n = (n, 0) := by
 rw [List.drop_eq_nil_of_le (by simp; omega), numberGo]
theorem below_iter (w : World) (s : ByteArray) (p : Nat) : Below w.heap.size w (w.iter s p) := (Below.refl _ _).alloc (Nat.le_refl _) _
theorem number_ne {s : ByteArray} (h : 0 < s.size) : s.toList.isEmpty = false ∧ ¬ s.toList = [] := by
 have : ¬ s.toList = [] := by
  rw [ByteArray.toList_eq]
  intro e
  have := congrArg List.length e
  rw [Array.length_toList, List.length_nil] at this
  have h2 : s.size = s.data.size := rfl
  omega
 exact ⟨by simpa using this, this⟩
set_option maxHeartbeats 4000000 in
set_option maxRecDepth 1000000 in
theorem hdr_Number.calls (a0 : ByteArray) (a1 : Int) (r1 : Int) (r2 : Int) (w : World) (h : hdr_Number.f a0 a1 = some (r1, r2)) :
  Calls Tryd.prog 30 #[.string a0, .int .i64 a1] w fun e w' => e = .returned (.tuple #[.int .i64 r1, .int .i64 r2]) ∧ Below w.heap.size w w' := by
 have hf : (if numberBad a0.data.toList = true then ((0, 6) : Int × Int) else numberGo a1 a0.data.toList 0) = (r1, r2) := Option.some.inj h
 clear h
 rcases Nat.lt_or_ge 0 a0.size with h0 | h0
 ·obtain ⟨e1, e2⟩ := number_ne h0
  have hl : a0.data.toList = a0[0] :: a0.data.toList.drop 1 := by
   have : a0.data.toList.drop 0 = a0[0] :: a0.data.toList.drop 1 := by
    rw [List.drop_eq_getElem_cons (by simpa using h0)]; rfl
   exact this
  have hemp : a0.data.toList.isEmpty = false := by rw [hl]; rfl
  have hhd : a0.data.toList.headD 0 = a0[0] := by rw [hl]; rfl
  have hlen : a0.data.toList.length = a0.size := by simp
  rcases Nat.lt_or_ge 1 a0.size with h1 | h1
  ·have h1' : (1 : Int) < a0.size := by omega
   by_cases h2 : a0[0].toNat = 48
   ·have h3 : ((a0[0].toNat : Int) == 48) = true := by rw [h2]; rfl
    have h4 : numberBad a0.data.toList = true := by
     unfold numberBad
     rw [hemp, hhd, hlen, Bool.false_or, Bool.and_eq_true, decide_eq_true_iff, beq_iff_eq]
     exact ⟨h1, UInt8.toNat_inj.1 h2⟩
    rw [if_pos h4] at hf
    have HE := Lib.hid hf
    clear hf h4 hl hemp hhd hlen h2
    go_enter Tryd.func30, Tryd.ntmps30
    go_wp2
    go_ret2
    obtain ⟨rfl, rfl⟩ := Prod.mk.inj HE.out
    exact ⟨rfl, Below.refl _ _⟩
   ·have h3 : ((a0[0].toNat : Int) == 48) = false := by rw [beq_eq_false_iff_ne]; omega
    have h4 : ¬ numberBad a0.data.toList = true := by
     unfold numberBad
     rw [hemp, hhd, Bool.false_or, Bool.and_eq_true, beq_iff_eq]
     exact fun h => h2 (by rw [h.2]; rfl)
    rw [if_neg h4] at hf
    have HF := Lib.hid hf
    clear hf h4 hl hemp hhd hlen h2
    go_enter Tryd.func30, Tryd.ntmps30
    go_wp2
    go_loopw [4, 5, 6, 8] (fun v4 v5 n v8 wr => ∃ (pos : Nat) (acc : Int) (u : Value), v4 = .int .i64 0 ∧ v5 = .int .i64 0 ∧ v8 = u ∧ wr = w.iter a0 pos ∧ n = .int .i64 acc ∧ numberGo a1 (a0.data.toList.drop pos) acc = (r1, r2) ∧ pos ≤ a0.size) (fun _ _ _ _ wr => a0.size - wr.iterPos w.heap.size)
    case atStart => exact ⟨0, 0, _, rfl, rfl, rfl, rfl, rfl, HF.out, Nat.zero_le _⟩
    case round =>
     obtain ⟨pos, acc, u, rfl, rfl, rfl, rfl, rfl, hc, hb⟩ := hrel
     have HC := Lib.hid hc
     clear hc
     by_cases hp : pos < a0.size
     ·have HD := Lib.hid (HC.out.symm.trans (numberGo_drop a1 a0 pos acc hp)).symm
      clear HC
      by_cases ha : (a0[pos]'hp).toNat < 128
      ·have hnx : ∀ ty, (Instr.next (.pointer (some ⟨w.heap.size, 0, none⟩)) true ty).run Tryd.prog (w.iter a0 pos) = _ := fun ty => run_next_ascii w a0 pos ty hp ha
       by_cases hd : (a0[pos]'hp).toNat < 48 ∨ 57 < (a0[pos]'hp).toNat
       ·have HE := Lib.hid ((numberGo_bad hd).symm.trans HD.out)
        clear HD
        rcases hd with hd | hd
        all_goals
         go_wp2
         go_ret2
         obtain ⟨rfl, rfl⟩ := Prod.mk.inj HE.out
         exact ⟨rfl, below_iter _ _ _⟩
       ·have hd1 : 48 ≤ (a0[pos]'hp).toNat := by omega
        have hd2 : (a0[pos]'hp).toNat ≤ 57 := by omega
        by_cases hov : a1 < wrap64 (wrap64 (acc * 10) + (((a0[pos]'hp).toNat : Int) - 48))
        ·have HE := Lib.hid ((numberGo_over hd hov).symm.trans HD.out)
         clear HD hd
         go_wp2
         go_ret2
         obtain ⟨rfl, rfl⟩ := Prod.mk.inj HE.out
         exact ⟨rfl, below_iter _ _ _⟩
        ·have hov' : wrap64 (wrap64 (acc * 10) + (((a0[pos]'hp).toNat : Int) - 48)) ≤ a1 := by omega
         have HE := Lib.hid ((numberGo_on hd hov').symm.trans HD.out)
         clear HD hd hov
         go_wp2
         go_roundw
         case rel => exact ⟨pos + 1, _, _, rfl, rfl, rfl, rfl, rfl, HE.out, by omega⟩
         case measure => simp; omega
      ·obtain ⟨k1, k2⟩ := decode_high a0 pos hp (by omega)
       have hnx : ∀ ty, (Instr.next (.pointer (some ⟨w.heap.size, 0, none⟩)) true ty).run Tryd.prog (w.iter a0 pos) = _ := fun ty => run_next_any w a0 pos ty hp
       have HE := Lib.hid ((numberGo_bad (.inr (by omega))).symm.trans HD.out)
       clear HD
       have k3 : (57 : Int) < ((Utf8.decode a0 pos).1 : Int) := by omega
       go_wp2
       go_ret2
       obtain ⟨rfl, rfl⟩ := Prod.mk.inj HE.out
       exact ⟨rfl, below_iter _ _ _⟩
     ·have hnx : ∀ ty, (Instr.next (.pointer (some ⟨w.heap.size, 0, none⟩)) true ty).run Tryd.prog (w.iter a0 pos) = _ := fun ty => run_next_end w a0 pos ty hp
      have HE := Lib.hid ((numberGo_end hp).symm.trans HC.out)
      clear HC
      go_wp2
      go_ret2
      obtain ⟨rfl, rfl⟩ := Prod.mk.inj HE.out
      exact ⟨rfl, below_iter _ _ _⟩
  ·have h1' : (a0.size : Int) ≤ 1 := by omega
   have h4 : ¬ numberBad a0.data.toList = true := by
    unfold numberBad
    rw [hemp, Bool.false_or, Bool.and_eq_true, decide_eq_true_iff, hlen]
    exact fun h => by omega
   rw [if_neg h4] at hf
   have HF := Lib.hid hf
   clear hf h4 hl hemp hhd hlen
   go_enter Tryd.func30, Tryd.ntmps30
   go_wp2
   go_loopw [4, 5, 6, 8] (fun v4 v5 n v8 wr => ∃ (pos : Nat) (acc : Int) (u : Value), v4 = .int .i64 0 ∧ v5 = .int .i64 0 ∧ v8 = u ∧ wr = w.iter a0 pos ∧ n = .int .i64 acc ∧ numberGo a1 (a0.data.toList.drop pos) acc = (r1, r2) ∧ pos ≤ a0.size) (fun _ _ _ _ wr => a0.size - wr.iterPos w.heap.size)
   case atStart => exact ⟨0, 0, _, rfl, rfl, rfl, rfl, rfl, HF.out, Nat.zero_le _⟩
   case round =>
    obtain ⟨pos, acc, u, rfl, rfl, rfl, rfl, rfl, hc, hb⟩ := hrel
    have HC := Lib.hid hc
    clear hc
    by_cases hp : pos < a0.size
    ·have HD := Lib.hid (HC.out.symm.trans (numberGo_drop a1 a0 pos acc hp)).symm
     clear HC
     by_cases ha : (a0[pos]'hp).toNat < 128
     ·have hnx : ∀ ty, (Instr.next (.pointer (some ⟨w.heap.size, 0, none⟩)) true ty).run Tryd.prog (w.iter a0 pos) = _ := fun ty => run_next_ascii w a0 pos ty hp ha
      by_cases hd : (a0[pos]'hp).toNat < 48 ∨ 57 < (a0[pos]'hp).toNat
      ·have HE := Lib.hid ((numberGo_bad hd).symm.trans HD.out)
       clear HD
       rcases hd with hd | hd
       all_goals
        go_wp2
        go_ret2
        obtain ⟨rfl, rfl⟩ := Prod.mk.inj HE.out
        exact ⟨rfl, below_iter _ _ _⟩
      ·have hd1 : 48 ≤ (a0[pos]'hp).toNat := by omega
       have hd2 : (a0[pos]'hp).toNat ≤ 57 := by omega
       by_cases hov : a1 < wrap64 (wrap64 (acc * 10) + (((a0[pos]'hp).toNat : Int) - 48))
       ·have HE := Lib.hid ((numberGo_over hd hov).symm.trans HD.out)
        clear HD hd
        go_wp2
        go_ret2
        obtain ⟨rfl, rfl⟩ := Prod.mk.inj HE.out
        exact ⟨rfl, below_iter _ _ _⟩
       ·have hov' : wrap64 (wrap64 (acc * 10) + (((a0[pos]'hp).toNat : Int) - 48)) ≤ a1 := by omega
        have HE := Lib.hid ((numberGo_on hd hov').symm.trans HD.out)
        clear HD hd hov
        go_wp2
        go_roundw
        case rel => exact ⟨pos + 1, _, _, rfl, rfl, rfl, rfl, rfl, HE.out, by omega⟩
        case measure => simp; omega
     ·obtain ⟨k1, k2⟩ := decode_high a0 pos hp (by omega)
      have hnx : ∀ ty, (Instr.next (.pointer (some ⟨w.heap.size, 0, none⟩)) true ty).run Tryd.prog (w.iter a0 pos) = _ := fun ty => run_next_any w a0 pos ty hp
      have HE := Lib.hid ((numberGo_bad (.inr (by omega))).symm.trans HD.out)
      clear HD
      have k3 : (57 : Int) < ((Utf8.decode a0 pos).1 : Int) := by omega
      go_wp2
      go_ret2
      obtain ⟨rfl, rfl⟩ := Prod.mk.inj HE.out
      exact ⟨rfl, below_iter _ _ _⟩
    ·have hnx : ∀ ty, (Instr.next (.pointer (some ⟨w.heap.size, 0, none⟩)) true ty).run Tryd.prog (w.iter a0 pos) = _ := fun ty => run_next_end w a0 pos ty hp
     have HE := Lib.hid ((numberGo_end hp).symm.trans HC.out)
     clear HC
     go_wp2
     go_ret2
     obtain ⟨rfl, rfl⟩ := Prod.mk.inj HE.out
     exact ⟨rfl, below_iter _ _ _⟩
 ·have hl : a0.data.toList = [] := List.eq_nil_of_length_eq_zero (Nat.le_zero.1 h0)
  have h4 : numberBad a0.data.toList = true := by rw [hl]; rfl
  have e1 : a0.toList = [] := (ByteArray.toList_eq a0).trans hl
  rw [if_pos h4] at hf
  have HE := Lib.hid hf
  clear hf h4 hl
  go_enter Tryd.func30, Tryd.ntmps30
  go_wp2
  go_ret2
  obtain ⟨rfl, rfl⟩ := Prod.mk.inj HE.out
  exact ⟨rfl, Below.refl _ _⟩

end Go.Proofs.YtloclimoffhbhaaDoor.PSto

namespace Go.Proofs.YtloclimoffhbhaaDoor.PSto
open Go.RowKit Go.Proofs.YtloclimoffhbhaaDoorW.PrintWords Go.Proofs.YtloclimoffhbhaaDoorW.PrintLast Go.Proofs.YtloclimoffhbhaaDoorW.PrintMore
attribute [local go_sem] max2_int min2_int max_two min_two max_three min_three max_four min_four   -- for this text's walks alone
set_option linter.unusedVariables false
set_option linter.unusedSimpArgs false

/-! ### script_numbers: function 108 -/
def script_numbers.l0 : Nat → List Int → List ByteArray → Int → Int → Option (List Int × Int)
 | 0, _, _, _, _ => none
 | k + 1, x4, x9, x10, x11 => if x11 < x10 then (if 0 ≤ x11 then (if x11 < (x9.length : Int) then ((hdr_Number.f (rdOf ByteArray.empty x9 x11) 2097152).bind fun bt122 => (if bt122.2 = 0 then (if x4.length < 17592186044416 then (script_numbers.l0 k (x4 ++ [bt122.1]) x9 x10 (wrap64 (x11 + 1))) else (none)) else (some (([] : List Int), bt122.2)))) else (none)) else (none)) else (some (x4, 0))
def script_numbers.f (k : Nat) (l0 : List ByteArray) : Option (List Int × Int) := script_numbers.l0 k ([] : List Int) l0 (l0.length : Int) 0
set_option maxHeartbeats 8000000 in
set_option maxRecDepth 100000 in
theorem script_numbers.calls (k : Nat) (A0 : Option Addr) (c0 : Nat) (l0 : List ByteArray) (r1 : List Int) (r2 : Int) (w : World) (hr0 : Kd.C Kd.string w A0 l0.length l0) (hc0 : l0.length ≤ c0) (h : script_numbers.f k l0 = some (r1, r2)) :
  Calls Tryd.prog 108 #[.slice A0 l0.length c0] w fun e w' => ∃ v0_ : Value, e = .returned (.tuple #[v0_, .int .i64 r2]) ∧ Kd.R (Kd.int .i64) 3 w' w.heap.size (fun _ => True) v0_ r1 ∧ Below w.heap.size w w' := by
 have HR0 := Aside0.mk hr0
 have HC0 := Aside0.mk hc0
 clear hr0 hc0
 have HB := Aside0.mk (Below.refl w.heap.size w)
 have H : (script_numbers.l0 k ([] : List Int) l0 (l0.length : Int) 0) = some (r1, r2) := h
 clear h
 have H' := Aside0.mk H
 clear H
 go_enter Tryd.func108, Tryd.ntmps108
 go_wp2
 go_loopg [4, 11] k (fun kq v4 v11 w' => ∃ (x4_1 : List Int) (x11_1 : Int), v11 = .int .i64 x11_1 ∧ Aside0 (script_numbers.l0 kq x4_1 l0 (l0.length : Int) x11_1 = some (r1, r2)) ∧ Aside0 (kq ≤ k) ∧ Aside0 (Kd.R (Kd.int .i64) 3 w' w.heap.size (fun _ => True) v4 x4_1) ∧ Aside0 (Below w.heap.size w w'))
 case atStart => exact ⟨(([] : List Int)), (0), (by first | rfl | (simp; done) | (simp [*]; done)), H', ⟨Nat.le_refl _⟩, ⟨by first | exact Kd.R_nil _ _ _ _ _ | exact Kd.N_nil _ _ _ _ _ | exact Kd.V_nil _ _ _ _ _ | exact Kd.Q_nil _ _ _ _ _ | exact Kd.S_nil _ _ _ _ _⟩, ⟨by repeat (first | (with_reducible first | exact HB.out | apply below_alloc | apply pw_below_drewN | apply below_drew1) | exact HB.out)⟩⟩
 case round =>
  clear H'
  try clear c1
  obtain ⟨x4_1, x11_1, rfl, HA, HK1, HO_4, HB⟩ := hrel
  cases gk with
  | zero => exact absurd HA.out (by simp [script_numbers.l0])
  | succ k1 =>
   have H := HA.out
   clear HA
   simp only [script_numbers.l0] at H
   by_cases c2 : x11_1 < (l0.length : Int)
   ·rw [if_pos c2] at H
    have c2b0 : decide (x11_1 < (l0.length : Int)) = true := decide_eq_true c2
    clear c2
    by_cases c3 : 0 ≤ x11_1
    ·rw [if_pos c3] at H
     have c3b0 : decide (0 ≤ x11_1) = true := decide_eq_true c3
     clear c3
     by_cases c4 : x11_1 < (l0.length : Int)
     ·rw [if_pos c4] at H
      have c4b0 : decide (x11_1 < (l0.length : Int)) = true := decide_eq_true c4
      clear c4
      replace H := Option.bind_eq_some_iff.mp H
      obtain ⟨⟨t122, t123⟩, A50, H⟩ := H
      replace H : (if t123 = 0 then (if x4_1.length < 17592186044416 then (script_numbers.l0 k1 (x4_1 ++ [t122]) l0 (l0.length : Int) (wrap64 (x11_1 + 1))) else (none)) else (some (([] : List Int), t123))) = some (r1, r2) := H
      have A5 := Aside0.mk A50
      clear A50
      by_cases c6 : t123 = 0
      ·rw [if_pos c6] at H
       have c6b0 : (t123 == 0) = true := beq_iff_eq.mpr c6
       have c6b1 : (t123 != 0) = false := bne_eq_false_iff_eq.mpr c6
       clear c6
       by_cases c7 : x4_1.length < 17592186044416
       ·rw [if_pos c7] at H
        have LMc7 := Aside0.mk c7
        clear c7
        obtain ⟨y124, hy124⟩ : ∃ y_ : List Int, y_ = (x4_1 ++ [t122]) := ⟨_, rfl⟩
        replace H : (script_numbers.l0 k1 y124 l0 (l0.length : Int) (wrap64 (x11_1 + 1))) = some (r1, r2) := by first | (rw [hy124]; with_reducible exact H) | (have H2_ := (Option.bind_some _ _).symm.trans H; rw [hy124]; with_reducible exact H2_) | (have H2_ := (Option.bind_some _ _).symm.trans H; with_reducible exact H2_) | with_reducible exact H | (rw [hy124]; exact H) | exact H
        have Ny124 := Aside0.mk hy124
        clear hy124
        have H' := Aside0.mk H
        clear H
        have p121 : 0 ≤ (x11_1 : Int) := of_decide_eq_true (by first | (with_reducible assumption) | assumption)
        have q121 : x11_1 < (l0.length : Int) := of_decide_eq_true (by first | (with_reducible assumption) | assumption)
        obtain ⟨ad121, e121, hx121_0⟩ := Kd.at_string HR0.out x11_1 p121 q121
        cases e121
        replace hx121_0 := (HB.out.cell (World.block_lt_of_cell? w _ hx121_0)).trans hx121_0
        replace p121 := eq_true p121
        replace q121 := eq_true q121
        go_wp2_with (first | ((with_reducible refine gate_callee (f := 30) rfl ?_); refine goesL_ (some 17) rfl rfl Tryd.func30 (by kernel_rfl) rfl #[.string (rdOf ByteArray.empty l0 x11_1), .int .i64 2097152] rfl (by (try simp only [List.map_toArray, List.map_cons, List.map_nil]); first | done | rfl | (simp only [List.length_drop, List.length_take]; rfl)) ?_; (with_reducible refine (hdr_Number.calls (rdOf ByteArray.empty l0 x11_1) 2097152 t122 t123 _ A5.out).mono ?_); rintro e w8 ⟨rfl, hb⟩; refine ⟨_, rfl, ?_⟩; have n0_ := Aside0.mk (Kd.R_below (by (with_reducible repeat (first | apply Kd.R_alloc | apply Kd.R_drewN | apply Kd.R_drew)); exact HO_4.out) hb); have n1_ := Aside0.mk (below_step (by repeat (first | (with_reducible first | exact HB.out | apply below_alloc | apply pw_below_drewN | apply below_drew1) | exact HB.out)) hb); clear HO_4; clear HB; have HO_4 := n0_; have HB := n1_; clear n0_ n1_; (try clear hb); (try clear hb2); (try clear hk); (try clear hi)) | ((with_reducible refine gate_builtin (b := .append) (xs := #[.tmp 23, .tmp 25]) rfl ?_); at_builtin; refine Kd.R_append (Kd.int .i64) (w0 := w) w.heap.size rfl (.tmp 23) (.tmp 25) 22 3 (.int .i64 0) 8 rfl Tryd.underlying22 info3 rfl (by decide) (by omega) u4 x4_1 t122 [.int .i64 t122] (fun _ => True) (fun _ => False) rfl rfl ?aP (fun _ hk => hk.elim) ?aF ?aO ?aB ?aS ?aL ?_; (case aP => exact rfl); (case aB => exact (by repeat (first | (with_reducible first | exact HB.out | apply below_alloc | apply pw_below_drewN | apply below_drew1) | exact HB.out))); (case aF => exact (fun _ _ => trivial)); (case aO => exact (by (with_reducible repeat (first | apply Kd.R_alloc | apply Kd.R_drewN | apply Kd.R_drew)); exact HO_4.out)); (case aS => exact (below_size (by repeat (first | (with_reducible first | exact HB.out | apply below_alloc | apply pw_below_drewN | apply below_drew1) | exact HB.out)))); (case aL => have := LMc7.out; omega); intro v125 w9 ho hb hg hat; rw [← Ny124.out] at ho; have n0_ := Aside0.mk (hb); have n1_ := Aside0.mk (ho); clear HB; clear HO_4; have HB := n0_; have HO126 := n1_; clear n0_ n1_; clear ho hb hg hat))
        go_roundg k1
        case measure => have := HK1.out; omega
        case rel => exact ⟨(y124), (wrap64 (x11_1 + 1)), (by first | rfl | (simp; done) | (simp [*]; done)), H', ⟨by have := HK1.out; omega⟩, ⟨by (with_reducible repeat (first | apply Kd.R_alloc | apply Kd.R_drewN | apply Kd.R_drew)); exact HO126.out⟩, ⟨by repeat (first | (with_reducible first | exact HB.out | apply below_alloc | apply pw_below_drewN | apply below_drew1) | exact HB.out)⟩⟩
       ·rw [if_neg c7] at H
        exact absurd H (by simp)
      ·rw [if_neg c6] at H
       have c6b0 : (t123 == 0) = false := beq_eq_false_iff_ne.mpr c6
       have c6b1 : (t123 != 0) = true := bne_iff_ne.mpr c6
       simp only [Option.some.injEq, Prod.mk.injEq] at H
       obtain ⟨rfl, rfl⟩ := H
       have p121 : 0 ≤ (x11_1 : Int) := of_decide_eq_true (by first | (with_reducible assumption) | assumption)
       have q121 : x11_1 < (l0.length : Int) := of_decide_eq_true (by first | (with_reducible assumption) | assumption)
       obtain ⟨ad121, e121, hx121_0⟩ := Kd.at_string HR0.out x11_1 p121 q121
       cases e121
       replace hx121_0 := (HB.out.cell (World.block_lt_of_cell? w _ hx121_0)).trans hx121_0
       replace p121 := eq_true p121
       replace q121 := eq_true q121
       go_wp2_with (first | ((with_reducible refine gate_callee (f := 30) rfl ?_); refine goesL_ (some 17) rfl rfl Tryd.func30 (by kernel_rfl) rfl #[.string (rdOf ByteArray.empty l0 x11_1), .int .i64 2097152] rfl (by (try simp only [List.map_toArray, List.map_cons, List.map_nil]); first | done | rfl | (simp only [List.length_drop, List.length_take]; rfl)) ?_; (with_reducible refine (hdr_Number.calls (rdOf ByteArray.empty l0 x11_1) 2097152 t122 t123 _ A5.out).mono ?_); rintro e w10 ⟨rfl, hb⟩; refine ⟨_, rfl, ?_⟩; have n0_ := Aside0.mk (Kd.R_below (by (with_reducible repeat (first | apply Kd.R_alloc | apply Kd.R_drewN | apply Kd.R_drew)); exact HO_4.out) hb); have n1_ := Aside0.mk (below_step (by repeat (first | (with_reducible first | exact HB.out | apply below_alloc | apply pw_below_drewN | apply below_drew1) | exact HB.out)) hb); clear HO_4; clear HB; have HO_4 := n0_; have HB := n1_; clear n0_ n1_; (try clear hb); (try clear hb2); (try clear hk); (try clear hi)))
       go_ret2
       exact ⟨_, by first | rfl | (simp [errW_none, errW_some] <;> rfl) | (simp [*, errW_none, errW_some] <;> rfl), by first | exact Kd.R_nil _ _ _ _ _ | exact Kd.N_nil _ _ _ _ _ | exact Kd.V_nil _ _ _ _ _ | exact Kd.Q_nil _ _ _ _ _ | exact Kd.S_nil _ _ _ _ _, by repeat (first | (with_reducible first | exact HB.out | apply below_alloc | apply pw_below_drewN | apply below_drew1) | exact HB.out)⟩
     ·rw [if_neg c4] at H
      exact absurd H (by simp)
    ·rw [if_neg c3] at H
     exact absurd H (by simp)
   ·rw [if_neg c2] at H
    have c2b0 : decide (x11_1 < (l0.length : Int)) = false := decide_eq_false c2
    clear c2
    simp only [Option.some.injEq, Prod.mk.injEq] at H
    obtain ⟨rfl, rfl⟩ := H
    go_wp2
    go_ret2
    exact ⟨_, by first | rfl | (simp [errW_none, errW_some] <;> rfl) | (simp [*, errW_none, errW_some] <;> rfl), by (with_reducible repeat (first | apply Kd.R_alloc | apply Kd.R_drewN | apply Kd.R_drew)); exact HO_4.out, by repeat (first | (with_reducible first | exact HB.out | apply below_alloc | apply pw_below_drewN | apply below_drew1) | exact HB.out)⟩

end Go.Proofs.YtloclimoffhbhaaDoor.PSto

namespace Go.Proofs.YtloclimoffhbhaaDoor.PSto
open Go.RowKit Go.Proofs.YtloclimoffhbhaaDoorW.PrintWords Go.Proofs.YtloclimoffhbhaaDoorW.PrintLast Go.Proofs.YtloclimoffhbhaaDoorW.PrintMore
attribute [local go_sem] max2_int min2_int max_two min_two max_three min_three max_four min_four   -- for this text's walks alone
set_option linter.unusedVariables false
set_option linter.unusedSimpArgs false

/-! ### strings_Split: function 84 (by hand) -/
def strings_Split.f (a0 a1 : ByteArray) : Option (List ByteArray) := if a0.size < 4294967281 ∧ 1 ≤ a1.size then some (Lib.splitB a1 0 (Lib.countB a0 a1) a0) else none
theorem strings_Split.calls (a0 a1 : ByteArray) (r : List ByteArray) (w : World) (hG : Hand.Good true false w) (h : strings_Split.f a0 a1 = some r) :
  Calls Tryd.prog 84 #[.string a0, .string a1] w fun e w' => ∃ v0_ : Value, e = .returned (v0_) ∧ Kd.R Kd.string 9 w' w.heap.size (fun _ => True) v0_ r ∧ Below w.heap.size w w' := by
 unfold strings_Split.f at h
 by_cases c : a0.size < 4294967281 ∧ 1 ≤ a1.size
 ·rw [if_pos c] at h
  obtain rfl := Option.some.inj h
  exact Hand.split_calls a0 a1 w hG c.1 c.2
 ·rw [if_neg c] at h; cases h

end Go.Proofs.YtloclimoffhbhaaDoor.PSto

namespace Go.Proofs.YtloclimoffhbhaaDoor.PSto
open Go.RowKit Go.Proofs.YtloclimoffhbhaaDoorW.PrintWords Go.Proofs.YtloclimoffhbhaaDoorW.PrintLast Go.Proofs.YtloclimoffhbhaaDoorW.PrintMore
attribute [local go_sem] max2_int min2_int max_two min_two max_three min_three max_four min_four   -- for this text's walks alone
set_option linter.unusedVariables false
set_option linter.unusedSimpArgs false

/-! ### strings_Cut: function 80 (by hand) -/
def strings_Cut.f (a0 a1 : ByteArray) : Option (ByteArray × ByteArray × Bool) := if a0.size < 4294967281 then some (⟨(Lib.cut a0.data.toList a1.data.toList).1.toArray⟩, ⟨(Lib.cut a0.data.toList a1.data.toList).2.1.toArray⟩, (Lib.cut a0.data.toList a1.data.toList).2.2) else none
theorem strings_Cut.calls (a0 a1 : ByteArray) (r1 r2 : ByteArray) (r3 : Bool) (w : World) (hG : Hand.Good true false w) (h : strings_Cut.f a0 a1 = some (r1, r2, r3)) :
  Calls Tryd.prog 80 #[.string a0, .string a1] w fun e w' => e = .returned (.tuple #[.string r1, .string r2, .bool r3]) ∧ Below w.heap.size w w' := by
 unfold strings_Cut.f at h
 by_cases c : a0.size < 4294967281
 ·rw [if_pos c] at h
  simp only [Option.some.injEq, Prod.mk.injEq] at h
  obtain ⟨rfl, rfl, rfl⟩ := h
  exact Hand.cut_calls a0 a1 w hG c
 ·rw [if_neg c] at h; cases h

end Go.Proofs.YtloclimoffhbhaaDoor.PSto

namespace Go.Proofs.YtloclimoffhbhaaDoor.PSto
open Go.RowKit Go.Proofs.YtloclimoffhbhaaDoorW.PrintWords Go.Proofs.YtloclimoffhbhaaDoorW.PrintLast Go.Proofs.YtloclimoffhbhaaDoorW.PrintMore
attribute [local go_sem] max2_int min2_int max_two min_two max_three min_three max_four min_four   -- for this text's walks alone
set_option linter.unusedVariables false
set_option linter.unusedSimpArgs false

/-! ### hdr_ParseAddr: function 52 -/
def hdr_ParseAddr.l0 : Nat → Int → List ByteArray → Int → Int → Option (Int × Int)
 | 0, _, _, _, _ => none
 | k + 1, x5, x15, x16, x17 => if x17 < x16 then (if 0 ≤ x17 then (if x17 < (x15.length : Int) then ((hdr_Number.f (rdOf ByteArray.empty x15 x17) 255).bind fun bt107 => (if bt107.2 = 0 then (hdr_ParseAddr.l0 k (Go.bits .or .u32 ((x5 * 256) % 4294967296) ((bt107.1) % 4294967296)) x15 x16 (wrap64 (x17 + 1))) else (some (0, bt107.2)))) else (none)) else (none)) else (some (x5, 0))
def hdr_ParseAddr.f (k : Nat) (a0 : ByteArray) : Option (Int × Int) := (strings_Split.f a0 (⟨#[46]⟩ : ByteArray)).bind fun t103 => (if (t103.length : Int) = 4 then (hdr_ParseAddr.l0 k 0 t103 (t103.length : Int) 0) else (some (0, 6)))
set_option maxHeartbeats 8000000 in
set_option maxRecDepth 100000 in
theorem hdr_ParseAddr.calls (k : Nat) (a0 : ByteArray) (r1 : Int) (r2 : Int) (w : World) (hG : Hand.Good true false w) (h : hdr_ParseAddr.f k a0 = some (r1, r2)) :
  Calls Tryd.prog 52 #[.string a0] w fun e w' => e = .returned (.tuple #[.int .u32 r1, .int .i64 r2]) ∧ Below w.heap.size w w' := by
 have HB := Aside0.mk (Below.refl w.heap.size w)
 have hGG := Aside0.mk hG
 clear hG
 have H : ((strings_Split.f a0 (⟨#[46]⟩ : ByteArray)).bind fun t103 => (if (t103.length : Int) = 4 then (hdr_ParseAddr.l0 k 0 t103 (t103.length : Int) 0) else (some (0, 6)))) = some (r1, r2) := h
 clear h
 replace H := Option.bind_eq_some_iff.mp H
 obtain ⟨t103, A20, H⟩ := H
 replace H : (if (t103.length : Int) = 4 then (hdr_ParseAddr.l0 k 0 t103 (t103.length : Int) 0) else (some (0, 6))) = some (r1, r2) := H
 have A2 := Aside0.mk A20
 clear A20
 by_cases c3 : (t103.length : Int) = 4
 ·rw [if_pos c3] at H
  have c3b0 : ((t103.length : Int) == 4) = true := beq_iff_eq.mpr c3
  have c3b1 : ((t103.length : Int) != 4) = false := bne_eq_false_iff_eq.mpr c3
  clear c3
  have H' := Aside0.mk H
  clear H
  go_enter Tryd.func52, Tryd.ntmps52
  go_wp2_with (first | ((with_reducible refine gate_callee (f := 84) rfl ?_); refine goesL_ (some 11) rfl rfl Tryd.func84 (by kernel_rfl) rfl #[.string a0, .string (⟨#[46]⟩ : ByteArray)] rfl (by (try simp only [List.map_toArray, List.map_cons, List.map_nil]); first | done | rfl | (simp only [List.length_drop, List.length_take]; rfl)) ?_; (with_reducible refine (strings_Split.calls a0 (⟨#[46]⟩ : ByteArray) t103 _ (Hand.Good.below true false hGG.out (by repeat (first | (with_reducible first | exact HB.out | apply below_alloc | apply pw_below_drewN | apply below_drew1) | exact HB.out)) rfl rfl) A2.out).mono ?_); rintro e w4 ⟨v104, rfl, ho0, hb⟩; refine ⟨_, rfl, ?_⟩; have n0_ := Aside0.mk (Kd.R_lower ho0 (below_size (by repeat (first | (with_reducible first | exact HB.out | apply below_alloc | apply pw_below_drewN | apply below_drew1) | exact HB.out)))); have n1_ := Aside0.mk (below_step (by repeat (first | (with_reducible first | exact HB.out | apply below_alloc | apply pw_below_drewN | apply below_drew1) | exact HB.out)) hb); clear HB; have HO105 := n0_; have HB := n1_; clear n0_ n1_; (try clear hb); (try clear hb2); (try clear hk); (try clear hi); (try clear ho0); obtain ⟨Ao5, co5, eo5⟩ := Kd.R_slice HO105.out; subst eo5))
  go_loopg [5, 17] k (fun kq v5 v17 w' => ∃ (x5_1 : Int) (x17_1 : Int), v5 = .int .u32 x5_1 ∧ v17 = .int .i64 x17_1 ∧ Aside0 (hdr_ParseAddr.l0 kq x5_1 t103 (t103.length : Int) x17_1 = some (r1, r2)) ∧ Aside0 (kq ≤ k) ∧ Aside0 (Kd.R Kd.string 9 w' w.heap.size (fun _ => True) (.slice Ao5 t103.length co5) t103) ∧ Aside0 (Below w.heap.size w w'))
  case atStart => exact ⟨(0), (0), (by first | rfl | (simp; done) | (simp [*]; done)), (by first | rfl | (simp; done) | (simp [*]; done)), H', ⟨Nat.le_refl _⟩, ⟨by (with_reducible repeat (first | apply Kd.R_alloc | apply Kd.R_drewN | apply Kd.R_drew)); exact HO105.out⟩, ⟨by repeat (first | (with_reducible first | exact HB.out | apply below_alloc | apply pw_below_drewN | apply below_drew1) | exact HB.out)⟩⟩
  case round =>
   clear H'
   try clear p2
   try clear c3
   try clear c3b0
   try clear c3b1
   try clear c5
   obtain ⟨x5_1, x17_1, rfl, rfl, HA, HK1, HO_15, HB⟩ := hrel
   cases gk with
   | zero => exact absurd HA.out (by simp [hdr_ParseAddr.l0])
   | succ k1 =>
    have H := HA.out
    clear HA
    simp only [hdr_ParseAddr.l0] at H
    by_cases c6 : x17_1 < (t103.length : Int)
    ·rw [if_pos c6] at H
     have c6b0 : decide (x17_1 < (t103.length : Int)) = true := decide_eq_true c6
     clear c6
     by_cases c7 : 0 ≤ x17_1
     ·rw [if_pos c7] at H
      have c7b0 : decide (0 ≤ x17_1) = true := decide_eq_true c7
      clear c7
      by_cases c8 : x17_1 < (t103.length : Int)
      ·rw [if_pos c8] at H
       have c8b0 : decide (x17_1 < (t103.length : Int)) = true := decide_eq_true c8
       clear c8
       replace H := Option.bind_eq_some_iff.mp H
       obtain ⟨⟨t107, t108⟩, A90, H⟩ := H
       replace H : (if t108 = 0 then (hdr_ParseAddr.l0 k1 (Go.bits .or .u32 ((x5_1 * 256) % 4294967296) ((t107) % 4294967296)) t103 (t103.length : Int) (wrap64 (x17_1 + 1))) else (some (0, t108))) = some (r1, r2) := H
       have A9 := Aside0.mk A90
       clear A90
       by_cases c10 : t108 = 0
       ·rw [if_pos c10] at H
        have c10b0 : (t108 == 0) = true := beq_iff_eq.mpr c10
        have c10b1 : (t108 != 0) = false := bne_eq_false_iff_eq.mpr c10
        clear c10
        have H' := Aside0.mk H
        clear H
        have p106 : 0 ≤ (x17_1 : Int) := of_decide_eq_true (by first | (with_reducible assumption) | assumption)
        have q106 : x17_1 < (t103.length : Int) := of_decide_eq_true (by first | (with_reducible assumption) | assumption)
        obtain ⟨ad106, e106, hx106_0⟩ := Kd.at_string (Kd.R_reads' HO_15.out).2.2 x17_1 p106 q106
        cases e106
        replace p106 := eq_true p106
        replace q106 := eq_true q106
        go_wp2_with (first | ((with_reducible refine gate_callee (f := 30) rfl ?_); refine goesL_ (some 23) rfl rfl Tryd.func30 (by kernel_rfl) rfl #[.string (rdOf ByteArray.empty t103 x17_1), .int .i64 255] rfl (by (try simp only [List.map_toArray, List.map_cons, List.map_nil]); first | done | rfl | (simp only [List.length_drop, List.length_take]; rfl)) ?_; (with_reducible refine (hdr_Number.calls (rdOf ByteArray.empty t103 x17_1) 255 t107 t108 _ A9.out).mono ?_); rintro e w11 ⟨rfl, hb⟩; refine ⟨_, rfl, ?_⟩; have n0_ := Aside0.mk (Kd.R_below (by (with_reducible repeat (first | apply Kd.R_alloc | apply Kd.R_drewN | apply Kd.R_drew)); exact HO_15.out) hb); have n1_ := Aside0.mk (below_step (by repeat (first | (with_reducible first | exact HB.out | apply below_alloc | apply pw_below_drewN | apply below_drew1) | exact HB.out)) hb); clear HO_15; clear HB; have HO_15 := n0_; have HB := n1_; clear n0_ n1_; (try clear hb); (try clear hb2); (try clear hk); (try clear hi)))
        go_roundg k1
        case measure => have := HK1.out; omega
        case rel => exact ⟨(Go.bits .or .u32 ((x5_1 * 256) % 4294967296) ((t107) % 4294967296)), (wrap64 (x17_1 + 1)), (by first | rfl | (simp; done) | (simp [*]; done)), (by first | rfl | (simp; done) | (simp [*]; done)), H', ⟨by have := HK1.out; omega⟩, ⟨by (with_reducible repeat (first | apply Kd.R_alloc | apply Kd.R_drewN | apply Kd.R_drew)); exact HO_15.out⟩, ⟨by repeat (first | (with_reducible first | exact HB.out | apply below_alloc | apply pw_below_drewN | apply below_drew1) | exact HB.out)⟩⟩
       ·rw [if_neg c10] at H
        have c10b0 : (t108 == 0) = false := beq_eq_false_iff_ne.mpr c10
        have c10b1 : (t108 != 0) = true := bne_iff_ne.mpr c10
        simp only [Option.some.injEq, Prod.mk.injEq] at H
        obtain ⟨rfl, rfl⟩ := H
        have p106 : 0 ≤ (x17_1 : Int) := of_decide_eq_true (by first | (with_reducible assumption) | assumption)
        have q106 : x17_1 < (t103.length : Int) := of_decide_eq_true (by first | (with_reducible assumption) | assumption)
        obtain ⟨ad106, e106, hx106_0⟩ := Kd.at_string (Kd.R_reads' HO_15.out).2.2 x17_1 p106 q106
        cases e106
        replace p106 := eq_true p106
        replace q106 := eq_true q106
        go_wp2_with (first | ((with_reducible refine gate_callee (f := 30) rfl ?_); refine goesL_ (some 23) rfl rfl Tryd.func30 (by kernel_rfl) rfl #[.string (rdOf ByteArray.empty t103 x17_1), .int .i64 255] rfl (by (try simp only [List.map_toArray, List.map_cons, List.map_nil]); first | done | rfl | (simp only [List.length_drop, List.length_take]; rfl)) ?_; (with_reducible refine (hdr_Number.calls (rdOf ByteArray.empty t103 x17_1) 255 t107 t108 _ A9.out).mono ?_); rintro e w12 ⟨rfl, hb⟩; refine ⟨_, rfl, ?_⟩; have n0_ := Aside0.mk (Kd.R_below (by (with_reducible repeat (first | apply Kd.R_alloc | apply Kd.R_drewN | apply Kd.R_drew)); exact HO_15.out) hb); have n1_ := Aside0.mk (below_step (by repeat (first | (with_reducible first | exact HB.out | apply below_alloc | apply pw_below_drewN | apply below_drew1) | exact HB.out)) hb); clear HO_15; clear HB; have HO_15 := n0_; have HB := n1_; clear n0_ n1_; (try clear hb); (try clear hb2); (try clear hk); (try clear hi)))
        go_ret2
        exact ⟨by first | rfl | (simp [errW_none, errW_some] <;> rfl) | (simp [*, errW_none, errW_some] <;> rfl), by repeat (first | (with_reducible first | exact HB.out | apply below_alloc | apply pw_below_drewN | apply below_drew1) | exact HB.out)⟩
      ·rw [if_neg c8] at H
       exact absurd H (by simp)
     ·rw [if_neg c7] at H
      exact absurd H (by simp)
    ·rw [if_neg c6] at H
     have c6b0 : decide (x17_1 < (t103.length : Int)) = false := decide_eq_false c6
     clear c6
     simp only [Option.some.injEq, Prod.mk.injEq] at H
     obtain ⟨rfl, rfl⟩ := H
     go_wp2
     go_ret2
     exact ⟨by first | rfl | (simp [errW_none, errW_some] <;> rfl) | (simp [*, errW_none, errW_some] <;> rfl), by repeat (first | (with_reducible first | exact HB.out | apply below_alloc | apply pw_below_drewN | apply below_drew1) | exact HB.out)⟩
 ·rw [if_neg c3] at H
  have c3b0 : ((t103.length : Int) == 4) = false := beq_eq_false_iff_ne.mpr c3
  have c3b1 : ((t103.length : Int) != 4) = true := bne_iff_ne.mpr c3
  simp only [Option.some.injEq, Prod.mk.injEq] at H
  obtain ⟨rfl, rfl⟩ := H
  go_enter Tryd.func52, Tryd.ntmps52
  go_wp2_with (first | ((with_reducible refine gate_callee (f := 84) rfl ?_); refine goesL_ (some 11) rfl rfl Tryd.func84 (by kernel_rfl) rfl #[.string a0, .string (⟨#[46]⟩ : ByteArray)] rfl (by (try simp only [List.map_toArray, List.map_cons, List.map_nil]); first | done | rfl | (simp only [List.length_drop, List.length_take]; rfl)) ?_; (with_reducible refine (strings_Split.calls a0 (⟨#[46]⟩ : ByteArray) t103 _ (Hand.Good.below true false hGG.out (by repeat (first | (with_reducible first | exact HB.out | apply below_alloc | apply pw_below_drewN | apply below_drew1) | exact HB.out)) rfl rfl) A2.out).mono ?_); rintro e w13 ⟨v104, rfl, ho0, hb⟩; refine ⟨_, rfl, ?_⟩; have n0_ := Aside0.mk (Kd.R_lower ho0 (below_size (by repeat (first | (with_reducible first | exact HB.out | apply below_alloc | apply pw_below_drewN | apply below_drew1) | exact HB.out)))); have n1_ := Aside0.mk (below_step (by repeat (first | (with_reducible first | exact HB.out | apply below_alloc | apply pw_below_drewN | apply below_drew1) | exact HB.out)) hb); clear HB; have HO105 := n0_; have HB := n1_; clear n0_ n1_; (try clear hb); (try clear hb2); (try clear hk); (try clear hi); (try clear ho0); obtain ⟨Ao14, co14, eo14⟩ := Kd.R_slice HO105.out; subst eo14))
  go_ret2
  exact ⟨by first | rfl | (simp [errW_none, errW_some] <;> rfl) | (simp [*, errW_none, errW_some] <;> rfl), by repeat (first | (with_reducible first | exact HB.out | apply below_alloc | apply pw_below_drewN | apply below_drew1) | exact HB.out)⟩

end Go.Proofs.YtloclimoffhbhaaDoor.PSto

namespace Go.Proofs.YtloclimoffhbhaaDoor.PSto
open Go.RowKit Go.Proofs.YtloclimoffhbhaaDoorW.PrintWords Go.Proofs.YtloclimoffhbhaaDoorW.PrintLast Go.Proofs.YtloclimoffhbhaaDoorW.PrintMore
attribute [local go_sem] max2_int min2_int max_two min_two max_three min_three max_four min_four   -- for this text's walks alone
set_option linter.unusedVariables false
set_option linter.unusedSimpArgs false

/-! ### cidr_mask: function 112 -/
def cidr_mask.f (a0 : Int) : Option (Int) := if a0 ≤ 0 then (some 0) else (if 0 ≤ (wrap64 (32 - (mn a0 32))) then (some (shl .u32 4294967295 (wrap64 (32 - (mn a0 32))))) else (none))
set_option maxHeartbeats 8000000 in
set_option maxRecDepth 100000 in
theorem cidr_mask.calls (a0 : Int) (r : Int) (w : World) (h : cidr_mask.f a0 = some r) :
  Calls Tryd.prog 112 #[.int .i64 a0] w fun e w' => e = .returned (.int .u32 r) ∧ Below w.heap.size w w' := by
 have HB := Aside0.mk (Below.refl w.heap.size w)
 have H : (if a0 ≤ 0 then (some 0) else (if 0 ≤ (wrap64 (32 - (mn a0 32))) then (some (shl .u32 4294967295 (wrap64 (32 - (mn a0 32))))) else (none))) = some r := h
 clear h
 by_cases c2 : a0 ≤ 0
 ·rw [if_pos c2] at H
  have c2b0 : decide (a0 ≤ 0) = true := decide_eq_true c2
  clear c2
  obtain rfl := Option.some.inj H
  go_enter Tryd.func112, Tryd.ntmps112
  go_wp2
  go_ret
  exact ⟨by first | rfl | (simp [errW_none, errW_some] <;> rfl) | (simp [*, errW_none, errW_some] <;> rfl), by repeat (first | (with_reducible first | exact HB.out | apply below_alloc | apply pw_below_drewN | apply below_drew1) | exact HB.out)⟩
 ·rw [if_neg c2] at H
  have c2b0 : decide (a0 ≤ 0) = false := decide_eq_false c2
  clear c2
  obtain ⟨ji3, hji3⟩ : ∃ j_ : Int, (mn a0 32) = j_ := ⟨_, rfl⟩
  replace H : (if 0 ≤ (wrap64 (32 - (ji3))) then (some (shl .u32 4294967295 (wrap64 (32 - (ji3))))) else (none)) = some r := by first | (rw [hji3] at H; exact H) | (simp only [hji3] at H ⊢; exact H)
  (try (have hji3h : ji3 ≤ 32 := by (rw [← hji3]; unfold mn; (repeat' split) <;> omega)))
  (try (have hji3g : ji3 ≤ 64 := by omega))
  have hji3_ : (if 32 < a0 then 32 else a0) = ji3 := hji3
  obtain ⟨ji4, hji4⟩ : ∃ j_ : Int, (wrap64 (32 - (ji3))) = j_ := ⟨_, rfl⟩
  replace H : (if 0 ≤ (ji4) then (some (shl .u32 4294967295 (ji4))) else (none)) = some r := by first | (rw [hji4] at H; exact H) | (simp only [hji4] at H ⊢; exact H)
  have hji4w : (IntKind.i64.wrap (32 - (ji3))) = ji4 := (i64_w _).trans hji4
  by_cases c5 : 0 ≤ (ji4)
  ·rw [if_pos c5] at H
   have c5b0 := eq_true c5
   have c5b1 : decide (0 ≤ (ji4)) = true := decide_eq_true c5
   clear c5
   obtain ⟨ji6, hji6⟩ : ∃ j_ : Int, (shl .u32 4294967295 (ji4)) = j_ := ⟨_, rfl⟩
   replace H : (some ji6) = some r := by first | (rw [hji6] at H; exact H) | (simp only [hji6] at H ⊢; exact H)
   have hji6_ : (IntKind.u32.wrap (4294967295 * 2 ^ min (ji4).toNat 32)) = ji6 := hji6
   have hji6z : (ji4) ≤ 32 → (IntKind.u32.wrap (4294967295 * 2 ^ (ji4).toNat)) = ji6 := shl_small hji6
   obtain rfl := Option.some.inj H
   go_enter Tryd.func112, Tryd.ntmps112
   go_wp2
   go_ret
   exact ⟨by first | rfl | (simp [errW_none, errW_some] <;> rfl) | (simp only [← hji3, ← hji4, ← hji6]; first | rfl | (simp [errW_none, errW_some] <;> rfl)) | (simp [*, errW_none, errW_some] <;> rfl), by repeat (first | (with_reducible first | exact HB.out | apply below_alloc | apply pw_below_drewN | apply below_drew1) | exact HB.out)⟩
  ·rw [if_neg c5] at H
   exact absurd H (by simp)

end Go.Proofs.YtloclimoffhbhaaDoor.PSto
