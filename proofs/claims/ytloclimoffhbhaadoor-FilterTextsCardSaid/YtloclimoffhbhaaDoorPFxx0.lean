-- Written by wip/myprint.py and wip/merge.py (this session's own programs); Lean checks it.
-- halved
import Derived.Test.YtloclimoffhbhaaDoorProg
import Derived.Below
import Derived.Deep.Draws
import Derived.Deep.AppendLies
import Derived.Maps.AppendAt
import Derived.OwnWalk
import Derived.Laws.BytesArg
import Derived.Laws.MakeOwn
import Derived.Laws.OwnMore
import Derived.Deep.OwnRows
import Derived.Tactics
import Derived.Lib.ConvBytes
import Derived.Laws.Slices
import Derived.WalkKit
import Derived.KernelRfl
import Derived.RowKit3
import Derived.Deep.LoopGhost
import Derived.Deep.QuietTactic
import Derived.BigQuiet
import Derived.WideLaws
import Derived.Deep.DeepCutAuto
import Derived.Deep.CutBlock
import Derived.Deep.RegionHeld3
import Derived.Laws.Rows
import Derived.Lib.AppendStr
import Derived.ArgAppend
import Derived.Laws.IdiomCopy
import Derived.OrdersHeld
import Derived.Laws.BitsLemmas
import Derived.RowKit
import Derived.Test.YtloclimoffhbhaaDoorGood
import Derived.LoopN
import Derived.Laws.PanicsMore
import Derived.Test.YtloclimoffhbhaaDoorV0
namespace Go.Proofs.YtloclimoffhbhaaDoor.PFx
open Go.RowKit Go.Proofs.YtloclimoffhbhaaDoorW.PrintWords Go.Proofs.YtloclimoffhbhaaDoorW.PrintLast Go.Proofs.YtloclimoffhbhaaDoorW.PrintMore
attribute [local go_sem] max2_int min2_int max_two min_two max_three min_three max_four min_four   -- for this text's walks alone
set_option linter.unusedVariables false
set_option linter.unusedSimpArgs false



def errW : Option Int → Value
 | none => .nilIface
 | some c => .iface 0 (.int .i64 c)
theorem errW_none : errW none = .nilIface := rfl
theorem errW_some (c : Int) : errW (some c) = .iface 0 (.int .i64 c) := rfl

theorem info3 : (Tryd.prog.info? 3).map (fun i => (i.zero, i.size, i.bytes)) = some (some (.int .i64 0), 1, 8) := by kernel_rfl
theorem info5 : (Tryd.prog.info? 5).map (fun i => (i.zero, i.size, i.bytes)) = some (some (.int .u8 0), 1, 1) := by kernel_rfl
theorem info9 : (Tryd.prog.info? 9).map (fun i => (i.zero, i.size, i.bytes)) = some (some (.string ⟨#[]⟩), 1, 16) := by kernel_rfl
theorem info77 : (Tryd.prog.info? 77).map (fun i => (i.zero, i.size, i.bytes)) = some (some (.agg #[(.int .u32 0), (.int .i64 0), (.int .u32 0), (.int .i64 0), (.int .i64 0), (.int .u16 0), (.int .u16 0), (.int .u16 0), (.int .u16 0)]), 9, 48) := by kernel_rfl
-- the values' own types
def rd_L1 (xs : List (List ByteArray)) (i : Int) : (List ByteArray) := xs.getD i.toNat ([] : List ByteArray)
theorem at_L1 {w : World} {A : Option Addr} {n : Nat} {xs : List (List ByteArray)} (h : Kd.C (Kd.slice 9 Kd.string) w A n xs) (i : Int) (h0 : 0 ≤ i) (h1 : i < n) : ∃ ad A0 c0, A = some ad ∧ w.cell? (ad.add i.toNat) = some (.slice A0 (rd_L1 xs i).length c0) ∧ (rd_L1 xs i).length ≤ c0 ∧ Kd.string.C w A0 (rd_L1 xs i).length (rd_L1 xs i) := by
 obtain ⟨ad, c, e, _, hK, hc0⟩ := Kd.C_get h ([] : List ByteArray) i h0 h1
 have hc : ∀ j u, c[j]? = some u → w.cell? (ad.add (i.toNat * 1 + j)) = some u := hc0
 obtain ⟨A0, c0, rfl, l0, g0⟩ := hK
 exact ⟨ad, A0, c0, e, by have hq := hc 0 _ rfl; rwa [Nat.mul_one, Nat.add_zero] at hq, l0, g0⟩

/-! #### struct type 42 -/
structure S42 where
 f0 : Int
 f1 : Int
def z42 : S42 := ⟨(0 : Int), (0 : Int)⟩
def k42 : Kd S42 := Kd.iso (Kd.pair (Kd.int .u32) (Kd.int .i64)) (fun x : S42 => (x.f0, x.f1))
theorem k42_open {w : World} {x : S42} {cs : List Value} (h : k42.K w x cs) : cs = [.int .u32 x.f0, .int .i64 x.f1] := by
 obtain ⟨_, _, rfl, rfl, rfl⟩ := h
 exact rfl
theorem k42_openM {w : World} {base : Nat} {ok : Nat → Prop} {x : S42} {cs : List Value} (h : k42.M w base ok x cs) : cs = [.int .u32 x.f0, .int .i64 x.f1] := by
 obtain ⟨_, _, rfl, rfl, rfl⟩ := h
 exact rfl
theorem k42_mk (w : World) (x : S42)  : k42.K w x [.int .u32 x.f0, .int .i64 x.f1] := ⟨[.int .u32 x.f0], [.int .i64 x.f1], rfl, rfl, rfl⟩
theorem k42_mkM (w : World) (base : Nat) (ok : Nat → Prop) (x : S42)  : k42.M w base ok x [.int .u32 x.f0, .int .i64 x.f1] := ⟨[.int .u32 x.f0], [.int .i64 x.f1], rfl, rfl, rfl⟩
def rd_T42 (xs : List S42) (i : Int) : S42 := xs.getD i.toNat z42
theorem at_T42 {w : World} {A : Option Addr} {n : Nat} {xs : List S42} (h : Kd.C k42 w A n xs) (i : Int) (h0 : 0 ≤ i) (h1 : i < n) : ∃ ad , A = some ad ∧ w.cell? (ad.add (i.toNat * 2)) = some (.int .u32 (rd_T42 xs i).f0) ∧ w.cell? ⟨(ad.add (i.toNat * 2)).block, (ad.add (i.toNat * 2)).off + 1, none⟩ = some (.int .i64 (rd_T42 xs i).f1) := by
 obtain ⟨ad, c, e, _, hK, hc0⟩ := Kd.C_get h z42 i h0 h1
 have hc : ∀ j u, c[j]? = some u → w.cell? (ad.add (i.toNat * 2 + j)) = some u := hc0
 obtain rfl := k42_open hK
 exact ⟨ad, e, hc 0 _ rfl, by rw [← add_field _ _ 1 (by omega)]; exact hc 1 _ rfl⟩

/-! #### struct type 61 -/
structure S61 where
 f0 : Int
 f1 : Int
def z61 : S61 := ⟨(0 : Int), (0 : Int)⟩
def k61 : Kd S61 := Kd.iso (Kd.pair (Kd.int .u16) (Kd.int .u16)) (fun x : S61 => (x.f0, x.f1))
theorem k61_open {w : World} {x : S61} {cs : List Value} (h : k61.K w x cs) : cs = [.int .u16 x.f0, .int .u16 x.f1] := by
 obtain ⟨_, _, rfl, rfl, rfl⟩ := h
 exact rfl
theorem k61_openM {w : World} {base : Nat} {ok : Nat → Prop} {x : S61} {cs : List Value} (h : k61.M w base ok x cs) : cs = [.int .u16 x.f0, .int .u16 x.f1] := by
 obtain ⟨_, _, rfl, rfl, rfl⟩ := h
 exact rfl
theorem k61_mk (w : World) (x : S61)  : k61.K w x [.int .u16 x.f0, .int .u16 x.f1] := ⟨[.int .u16 x.f0], [.int .u16 x.f1], rfl, rfl, rfl⟩
theorem k61_mkM (w : World) (base : Nat) (ok : Nat → Prop) (x : S61)  : k61.M w base ok x [.int .u16 x.f0, .int .u16 x.f1] := ⟨[.int .u16 x.f0], [.int .u16 x.f1], rfl, rfl, rfl⟩
def rd_T61 (xs : List S61) (i : Int) : S61 := xs.getD i.toNat z61
theorem at_T61 {w : World} {A : Option Addr} {n : Nat} {xs : List S61} (h : Kd.C k61 w A n xs) (i : Int) (h0 : 0 ≤ i) (h1 : i < n) : ∃ ad , A = some ad ∧ w.cell? (ad.add (i.toNat * 2)) = some (.int .u16 (rd_T61 xs i).f0) ∧ w.cell? ⟨(ad.add (i.toNat * 2)).block, (ad.add (i.toNat * 2)).off + 1, none⟩ = some (.int .u16 (rd_T61 xs i).f1) := by
 obtain ⟨ad, c, e, _, hK, hc0⟩ := Kd.C_get h z61 i h0 h1
 have hc : ∀ j u, c[j]? = some u → w.cell? (ad.add (i.toNat * 2 + j)) = some u := hc0
 obtain rfl := k61_open hK
 exact ⟨ad, e, hc 0 _ rfl, by rw [← add_field _ _ 1 (by omega)]; exact hc 1 _ rfl⟩

/-! #### struct type 77 -/
structure S77 where
 f0 : S42
 f1 : S42
 f2 : Int
 f3 : S61
 f4 : S61
def z77 : S77 := ⟨z42, z42, (0 : Int), z61, z61⟩
def k77 : Kd S77 := Kd.iso (Kd.pair k42 (Kd.pair k42 (Kd.pair (Kd.int .i64) (Kd.pair k61 k61)))) (fun x : S77 => (x.f0, x.f1, x.f2, x.f3, x.f4))
theorem k77_open {w : World} {x : S77} {cs : List Value} (h : k77.K w x cs) : cs = [.int .u32 x.f0.f0, .int .i64 x.f0.f1, .int .u32 x.f1.f0, .int .i64 x.f1.f1, .int .i64 x.f2, .int .u16 x.f3.f0, .int .u16 x.f3.f1, .int .u16 x.f4.f0, .int .u16 x.f4.f1] := by
 obtain ⟨_, _, rfl, s0, ⟨_, _, rfl, s2, ⟨_, _, rfl, rfl, ⟨_, _, rfl, s5, s7⟩⟩⟩⟩ := h
 obtain rfl := k42_open s0
 obtain rfl := k42_open s2
 obtain rfl := k61_open s5
 obtain rfl := k61_open s7
 exact rfl
theorem k77_openM {w : World} {base : Nat} {ok : Nat → Prop} {x : S77} {cs : List Value} (h : k77.M w base ok x cs) : cs = [.int .u32 x.f0.f0, .int .i64 x.f0.f1, .int .u32 x.f1.f0, .int .i64 x.f1.f1, .int .i64 x.f2, .int .u16 x.f3.f0, .int .u16 x.f3.f1, .int .u16 x.f4.f0, .int .u16 x.f4.f1] := by
 obtain ⟨_, _, rfl, s0, ⟨_, _, rfl, s2, ⟨_, _, rfl, rfl, ⟨_, _, rfl, s5, s7⟩⟩⟩⟩ := h
 obtain rfl := k42_openM s0
 obtain rfl := k42_openM s2
 obtain rfl := k61_openM s5
 obtain rfl := k61_openM s7
 exact rfl
theorem k77_mk (w : World) (x : S77)  : k77.K w x [.int .u32 x.f0.f0, .int .i64 x.f0.f1, .int .u32 x.f1.f0, .int .i64 x.f1.f1, .int .i64 x.f2, .int .u16 x.f3.f0, .int .u16 x.f3.f1, .int .u16 x.f4.f0, .int .u16 x.f4.f1] := ⟨[.int .u32 x.f0.f0, .int .i64 x.f0.f1], [.int .u32 x.f1.f0, .int .i64 x.f1.f1, .int .i64 x.f2, .int .u16 x.f3.f0, .int .u16 x.f3.f1, .int .u16 x.f4.f0, .int .u16 x.f4.f1], rfl, (k42_mk w x.f0 ), ⟨[.int .u32 x.f1.f0, .int .i64 x.f1.f1], [.int .i64 x.f2, .int .u16 x.f3.f0, .int .u16 x.f3.f1, .int .u16 x.f4.f0, .int .u16 x.f4.f1], rfl, (k42_mk w x.f1 ), ⟨[.int .i64 x.f2], [.int .u16 x.f3.f0, .int .u16 x.f3.f1, .int .u16 x.f4.f0, .int .u16 x.f4.f1], rfl, rfl, ⟨[.int .u16 x.f3.f0, .int .u16 x.f3.f1], [.int .u16 x.f4.f0, .int .u16 x.f4.f1], rfl, (k61_mk w x.f3 ), (k61_mk w x.f4 )⟩⟩⟩⟩
theorem k77_mkM (w : World) (base : Nat) (ok : Nat → Prop) (x : S77)  : k77.M w base ok x [.int .u32 x.f0.f0, .int .i64 x.f0.f1, .int .u32 x.f1.f0, .int .i64 x.f1.f1, .int .i64 x.f2, .int .u16 x.f3.f0, .int .u16 x.f3.f1, .int .u16 x.f4.f0, .int .u16 x.f4.f1] := ⟨[.int .u32 x.f0.f0, .int .i64 x.f0.f1], [.int .u32 x.f1.f0, .int .i64 x.f1.f1, .int .i64 x.f2, .int .u16 x.f3.f0, .int .u16 x.f3.f1, .int .u16 x.f4.f0, .int .u16 x.f4.f1], rfl, (k42_mkM w base ok x.f0 ), ⟨[.int .u32 x.f1.f0, .int .i64 x.f1.f1], [.int .i64 x.f2, .int .u16 x.f3.f0, .int .u16 x.f3.f1, .int .u16 x.f4.f0, .int .u16 x.f4.f1], rfl, (k42_mkM w base ok x.f1 ), ⟨[.int .i64 x.f2], [.int .u16 x.f3.f0, .int .u16 x.f3.f1, .int .u16 x.f4.f0, .int .u16 x.f4.f1], rfl, rfl, ⟨[.int .u16 x.f3.f0, .int .u16 x.f3.f1], [.int .u16 x.f4.f0, .int .u16 x.f4.f1], rfl, (k61_mkM w base ok x.f3 ), (k61_mkM w base ok x.f4 )⟩⟩⟩⟩
def rd_T77 (xs : List S77) (i : Int) : S77 := xs.getD i.toNat z77
theorem at_T77 {w : World} {A : Option Addr} {n : Nat} {xs : List S77} (h : Kd.C k77 w A n xs) (i : Int) (h0 : 0 ≤ i) (h1 : i < n) : ∃ ad , A = some ad ∧ w.cell? (ad.add (i.toNat * 9)) = some (.int .u32 (rd_T77 xs i).f0.f0) ∧ w.cell? ⟨(ad.add (i.toNat * 9)).block, (ad.add (i.toNat * 9)).off + 1, none⟩ = some (.int .i64 (rd_T77 xs i).f0.f1) ∧ w.cell? ⟨(ad.add (i.toNat * 9)).block, (ad.add (i.toNat * 9)).off + 2, none⟩ = some (.int .u32 (rd_T77 xs i).f1.f0) ∧ w.cell? ⟨(ad.add (i.toNat * 9)).block, (ad.add (i.toNat * 9)).off + 3, none⟩ = some (.int .i64 (rd_T77 xs i).f1.f1) ∧ w.cell? ⟨(ad.add (i.toNat * 9)).block, (ad.add (i.toNat * 9)).off + 4, none⟩ = some (.int .i64 (rd_T77 xs i).f2) ∧ w.cell? ⟨(ad.add (i.toNat * 9)).block, (ad.add (i.toNat * 9)).off + 5, none⟩ = some (.int .u16 (rd_T77 xs i).f3.f0) ∧ w.cell? ⟨(ad.add (i.toNat * 9)).block, (ad.add (i.toNat * 9)).off + 6, none⟩ = some (.int .u16 (rd_T77 xs i).f3.f1) ∧ w.cell? ⟨(ad.add (i.toNat * 9)).block, (ad.add (i.toNat * 9)).off + 7, none⟩ = some (.int .u16 (rd_T77 xs i).f4.f0) ∧ w.cell? ⟨(ad.add (i.toNat * 9)).block, (ad.add (i.toNat * 9)).off + 8, none⟩ = some (.int .u16 (rd_T77 xs i).f4.f1) := by
 obtain ⟨ad, c, e, _, hK, hc0⟩ := Kd.C_get h z77 i h0 h1
 have hc : ∀ j u, c[j]? = some u → w.cell? (ad.add (i.toNat * 9 + j)) = some u := hc0
 obtain rfl := k77_open hK
 exact ⟨ad, e, hc 0 _ rfl, by rw [← add_field _ _ 1 (by omega)]; exact hc 1 _ rfl, by rw [← add_field _ _ 2 (by omega)]; exact hc 2 _ rfl, by rw [← add_field _ _ 3 (by omega)]; exact hc 3 _ rfl, by rw [← add_field _ _ 4 (by omega)]; exact hc 4 _ rfl, by rw [← add_field _ _ 5 (by omega)]; exact hc 5 _ rfl, by rw [← add_field _ _ 6 (by omega)]; exact hc 6 _ rfl, by rw [← add_field _ _ 7 (by omega)]; exact hc 7 _ rfl, by rw [← add_field _ _ 8 (by omega)]; exact hc 8 _ rfl⟩

end Go.Proofs.YtloclimoffhbhaaDoor.PFx

namespace Go.Proofs.YtloclimoffhbhaaDoor.PFx
open Go.RowKit Go.Proofs.YtloclimoffhbhaaDoorW.PrintWords Go.Proofs.YtloclimoffhbhaaDoorW.PrintLast Go.Proofs.YtloclimoffhbhaaDoorW.PrintMore
attribute [local go_sem] max2_int min2_int max_two min_two max_three min_three max_four min_four   -- for this text's walks alone
set_option linter.unusedVariables false
set_option linter.unusedSimpArgs false

theorem eqA42 (d : Nat) (w : World) (x0 y0 : Int) (x1 y1 : Int) :
  (Op.equalIn (d + 2) 42 (.agg #[.int .u32 x0, .int .i64 x1]) (.agg #[.int .u32 y0, .int .i64 y1])).run Tryd.prog w = .ok (x0 == y0 && (x1 == y1)) w := by
 refine eqA_of Tryd.underlying42 (by kernel_rfl) ?_
 refine eqf_cons (by rfl) (by go_simp; rfl) (by go_simp; rfl) (by go_simp) ?_
 exact eqf_last (by rfl) (by go_simp; rfl) (by go_simp; rfl) (by go_simp)
theorem eqA61 (d : Nat) (w : World) (x0 y0 : Int) (x1 y1 : Int) :
  (Op.equalIn (d + 2) 61 (.agg #[.int .u16 x0, .int .u16 x1]) (.agg #[.int .u16 y0, .int .u16 y1])).run Tryd.prog w = .ok (x0 == y0 && (x1 == y1)) w := by
 refine eqA_of Tryd.underlying61 (by kernel_rfl) ?_
 refine eqf_cons (by rfl) (by go_simp; rfl) (by go_simp; rfl) (by go_simp) ?_
 exact eqf_last (by rfl) (by go_simp; rfl) (by go_simp; rfl) (by go_simp)
theorem eqA77 (d : Nat) (w : World) (x0 y0 : Int) (x1 y1 : Int) (x2 y2 : Int) (x3 y3 : Int) (x4 y4 : Int) (x5 y5 : Int) (x6 y6 : Int) (x7 y7 : Int) (x8 y8 : Int) :
  (Op.equalIn (d + 3) 77 (.agg #[.int .u32 x0, .int .i64 x1, .int .u32 x2, .int .i64 x3, .int .i64 x4, .int .u16 x5, .int .u16 x6, .int .u16 x7, .int .u16 x8]) (.agg #[.int .u32 y0, .int .i64 y1, .int .u32 y2, .int .i64 y3, .int .i64 y4, .int .u16 y5, .int .u16 y6, .int .u16 y7, .int .u16 y8])).run Tryd.prog w = .ok ((x0 == y0 && (x1 == y1)) && ((x2 == y2 && (x3 == y3)) && (x4 == y4 && ((x5 == y5 && (x6 == y6)) && ((x7 == y7 && (x8 == y8))))))) w := by
 refine eqA_of Tryd.underlying77 (by kernel_rfl) ?_
 refine eqf_cons (by rfl) (by go_simp) (by go_simp) (eqA42 (d + 0) w _ _ _ _) ?_
 refine eqf_cons (by rfl) (by go_simp) (by go_simp) (eqA42 (d + 0) w _ _ _ _) ?_
 refine eqf_cons (by rfl) (by go_simp; rfl) (by go_simp; rfl) (by go_simp) ?_
 refine eqf_cons (by rfl) (by go_simp) (by go_simp) (eqA61 (d + 0) w _ _ _ _) ?_
 exact eqf_last (by rfl) (by go_simp) (by go_simp) (eqA61 (d + 0) w _ _ _ _)
end Go.Proofs.YtloclimoffhbhaaDoor.PFx

namespace Go.Proofs.YtloclimoffhbhaaDoor.PFx
open Go.RowKit Go.Proofs.YtloclimoffhbhaaDoorW.PrintWords Go.Proofs.YtloclimoffhbhaaDoorW.PrintLast Go.Proofs.YtloclimoffhbhaaDoorW.PrintMore
attribute [local go_sem] max2_int min2_int max_two min_two max_three min_three max_four min_four   -- for this text's walks alone
set_option linter.unusedVariables false
set_option linter.unusedSimpArgs false

/-! ### crossbuckref03_size: function 101 -/
def crossbuckref03_size.l0 : Nat → Int → Int → Option (Int)
 | 0, _, _ => none
 | k + 1, x3, x4 => if x4 < 32 then (crossbuckref03_size.l0 k (IntKind.u64.wrap (x3 * 2)) (wrap64 (x4 + 1))) else (some x3)
def crossbuckref03_size.f (k : Nat) (a0 : Int) : Option (Int) := crossbuckref03_size.l0 k 1 a0
theorem crossbuckref03_size.mono_l : ∀ k, (∀ y0 y1, LeO (crossbuckref03_size.l0 k y0 y1) (crossbuckref03_size.l0 (k + 1) y0 y1))
 | 0 => fun _ _ r h => by simp [crossbuckref03_size.l0] at h
 | k + 1 => by
  have ih0 := crossbuckref03_size.mono_l k
  ·intro y0 y1
   unfold crossbuckref03_size.l0
   repeat' first
   | (with_reducible exact ih0 _ _)
   | (with_reducible exact LeO.refl _)
   | (with_reducible exact LeO.none _)
   | (with_reducible refine LeO.ite ?_ ?_)
   | (with_reducible refine LeO.bind ?_ (fun _ => ?_))
   | exact ih0 _ _
   | exact LeO.none _
   | refine LeO.ite ?_ ?_
   | refine LeO.bind ?_ (fun _ => ?_)
theorem crossbuckref03_size.mono : ∀ a0 k, LeO (crossbuckref03_size.f k a0) (crossbuckref03_size.f (k + 1) a0) := by
 intro a0 k
 have ih0 := crossbuckref03_size.mono_l k
 unfold crossbuckref03_size.f
 repeat' first
   | (with_reducible exact ih0 _ _)
   | (with_reducible exact LeO.refl _)
   | (with_reducible exact LeO.none _)
   | (with_reducible refine LeO.ite ?_ ?_)
   | (with_reducible refine LeO.bind ?_ (fun _ => ?_))
   | exact ih0 _ _
   | exact LeO.none _
   | refine LeO.ite ?_ ?_
   | refine LeO.bind ?_ (fun _ => ?_)
set_option maxHeartbeats 8000000 in
set_option maxRecDepth 100000 in
theorem crossbuckref03_size.calls (k : Nat) (a0 : Int) (r : Int) (w : World) (h : crossbuckref03_size.f k a0 = some r) :
  Calls Tryd.prog 101 #[.int .i64 a0] w fun e w' => e = .returned (.int .u64 r) ∧ Drawn0 w w' := by
 have H : (crossbuckref03_size.l0 k 1 a0) = some r := h
 clear h
 have H' := Aside0.mk H
 clear H
 go_enter Tryd.func101, Tryd.ntmps101
 go_wp2
 go_loopg [3, 4] k (fun kq v3 v4 w' => ∃ (x3_1 : Int) (x4_1 : Int), v3 = .int .u64 x3_1 ∧ v4 = .int .i64 x4_1 ∧ Aside0 (crossbuckref03_size.l0 kq x3_1 x4_1 = some r) ∧ Aside0 (kq ≤ k) ∧ Drawn0 w w')
 case atStart => exact ⟨(1), (a0), (by first | rfl | (simp; done) | (simp [*]; done)), (by first | rfl | (simp; done) | (simp [*]; done)), H', ⟨Nat.le_refl _⟩, by repeat (first | exact Drawn0.refl _ | apply Drawn0.step)⟩
 case round =>
  clear H'
  try clear c1
  obtain ⟨x3_1, x4_1, rfl, rfl, HA, HK1, ⟨m1, rfl⟩⟩ := hrel
  cases gk with
  | zero => exact absurd HA.out (by simp [crossbuckref03_size.l0])
  | succ k1 =>
   have H := HA.out
   clear HA
   simp only [crossbuckref03_size.l0] at H
   by_cases c2 : x4_1 < 32
   ·rw [if_pos c2] at H
    have c2b0 : decide (x4_1 < 32) = true := decide_eq_true c2
    clear c2
    have H' := Aside0.mk H
    clear H
    go_wp2
    go_roundg k1
    case measure => have := HK1.out; omega
    case rel => exact ⟨(IntKind.u64.wrap (x3_1 * 2)), (wrap64 (x4_1 + 1)), (by first | rfl | (simp; done) | (simp [*]; done)), (by first | rfl | (simp; done) | (simp [*]; done)), H', ⟨by have := HK1.out; omega⟩, by repeat (first | exact Drawn0.refl _ | apply Drawn0.step)⟩
   ·rw [if_neg c2] at H
    have c2b0 : decide (x4_1 < 32) = false := decide_eq_false c2
    clear c2
    obtain rfl := Option.some.inj H
    go_wp2
    go_ret
    exact ⟨by first | rfl | (simp; done) | (simp [*]; done), by repeat (first | exact Drawn0.refl _ | apply Drawn0.step)⟩

end Go.Proofs.YtloclimoffhbhaaDoor.PFx

namespace Go.Proofs.YtloclimoffhbhaaDoor.PFx
open Go.RowKit Go.Proofs.YtloclimoffhbhaaDoorW.PrintWords Go.Proofs.YtloclimoffhbhaaDoorW.PrintLast Go.Proofs.YtloclimoffhbhaaDoorW.PrintMore
attribute [local go_sem] max2_int min2_int max_two min_two max_three min_three max_four min_four   -- for this text's walks alone
set_option linter.unusedVariables false
set_option linter.unusedSimpArgs false

/-! ### crossbuckref03_Right: function 61 -/
def crossbuckref03_Right.f (k : Nat) (a0_0 : Int) (a0_1 : Int) : Option (Bool) := if a0_1 ≥ 0 then (if a0_1 ≤ 32 then ((crossbuckref03_size.f k a0_1).bind fun t107 => (if t107 = 0 then (none) else (some ((Int.tmod (IntKind.u64.wrap (a0_0)) t107) == 0)))) else (some false)) else (some false)
theorem crossbuckref03_Right.mono : ∀ a0 a1 k, LeO (crossbuckref03_Right.f k a0 a1) (crossbuckref03_Right.f (k + 1) a0 a1) := by
 intro a0 a1 k
 unfold crossbuckref03_Right.f
 repeat' first
   | (with_reducible exact crossbuckref03_size.mono _ _)
   | (with_reducible exact LeO.refl _)
   | (with_reducible exact LeO.none _)
   | (with_reducible refine LeO.ite ?_ ?_)
   | (with_reducible refine LeO.bind ?_ (fun _ => ?_))
   | exact crossbuckref03_size.mono _ _
   | exact LeO.none _
   | refine LeO.ite ?_ ?_
   | refine LeO.bind ?_ (fun _ => ?_)
set_option maxHeartbeats 8000000 in
set_option maxRecDepth 100000 in
theorem crossbuckref03_Right.calls (k : Nat) (a0_0 : Int) (a0_1 : Int) (r : Bool) (w : World) (h : crossbuckref03_Right.f k a0_0 a0_1 = some r) :
  Calls Tryd.prog 61 #[.agg #[.int .u32 a0_0, .int .i64 a0_1]] w fun e w' => e = .returned (.bool r) ∧ Below w.heap.size w w' := by
 have hu42 := Tryd.underlying42
 have HB := Aside0.mk (Below.refl w.heap.size w)
 have H : (if a0_1 ≥ 0 then (if a0_1 ≤ 32 then ((crossbuckref03_size.f k a0_1).bind fun t107 => (if t107 = 0 then (none) else (some ((Int.tmod (IntKind.u64.wrap (a0_0)) t107) == 0)))) else (some false)) else (some false)) = some r := h
 clear h
 by_cases c2 : a0_1 ≥ 0
 ·rw [if_pos c2] at H
  have c2b0 : decide (0 ≤ a0_1) = true := decide_eq_true c2
  clear c2
  by_cases c3 : a0_1 ≤ 32
  ·rw [if_pos c3] at H
   have c3b0 : decide (a0_1 ≤ 32) = true := decide_eq_true c3
   clear c3
   replace H := Option.bind_eq_some_iff.mp H
   obtain ⟨t107, A40, H⟩ := H
   replace H : (if t107 = 0 then (none) else (some ((Int.tmod (IntKind.u64.wrap (a0_0)) t107) == 0))) = some r := H
   have A4 := Aside0.mk A40
   clear A40
   by_cases c5 : t107 = 0
   ·rw [if_pos c5] at H
    exact absurd H (by simp)
   ·rw [if_neg c5] at H
    have c5b0 : (t107 == 0) = false := beq_eq_false_iff_ne.mpr c5
    have c5b1 : (t107 != 0) = true := bne_iff_ne.mpr c5
    obtain rfl := Option.some.inj H
    go_enter Tryd.func61, Tryd.ntmps61
    go_wp2_with (first | ((with_reducible refine gate_dst (N := 1) rfl ?_); refine box_event ?hg (N := 1) ?hd (cs := #[.int .u32 a0_0, .int .i64 a0_1]) (t := 42) ?hr ?_; (case hd => rfl); (case hg => rfl); (case hr => first | (go_simp; done) | (go_simp; rfl)); intro gb106 hg w6 hbox hb; have n0_ := Aside0.mk (below_step (by repeat (first | (with_reducible first | exact HB.out | apply below_alloc | apply pw_below_drewN | apply below_drew1) | exact HB.out)) hb); have n1_ := Aside0.mk (hbox); have n2_ := Aside0.mk ((by rw [hg]; exact (below_size (by repeat (first | (with_reducible first | exact HB.out | apply below_alloc | apply pw_below_drewN | apply below_drew1) | exact HB.out))) : w.heap.size ≤ gb106)); have n3_ := Aside0.mk ((by rw [hg]; exact (below_size (by repeat (first | (with_reducible first | exact HB.out | apply below_alloc | apply pw_below_drewN | apply below_drew1) | exact HB.out))) : w.heap.size ≤ gb106)); clear HB; have HB := n0_; have BK106 := n1_; have GW106 := n2_; have GE106 := n3_; clear n0_ n1_ n2_ n3_; clear hb hbox hg; have hcz7_0 : w6.cell? ⟨gb106, 0, none⟩ = some (.int .u32 a0_0) := (blk_cell BK106.out 0).trans rfl; have hcz7_1 : w6.cell? ⟨gb106, 1, none⟩ = some (.int .i64 a0_1) := (blk_cell BK106.out 1).trans rfl; have hfz7_0 := blk_frozen BK106.out 0; have hfz7_1 := blk_frozen BK106.out 1) | (go_at_call 101; (with_reducible refine (crossbuckref03_size.calls k a0_1 t107 _ A4.out).mono ?_); rintro e w' ⟨rfl, ⟨nd, rfl⟩⟩; (try first | exact ⟨rfl, _, World.drewN_drewN _ _ _⟩ | exact ⟨rfl, _, Eq.trans (World.drewN_drewN _ _ _) (congrArg (World.drewN _) (Nat.add_assoc _ _ _))⟩)))
    repeat (go_quiet (first | ((with_reducible refine gate_dst (N := 1) rfl ?_); refine box_event ?hg (N := 1) ?hd (cs := #[.int .u32 a0_0, .int .i64 a0_1]) (t := 42) ?hr ?_; (case hd => rfl); (case hg => rfl); (case hr => first | (go_simp; done) | (go_simp; rfl)); intro gb106 hg w6 hbox hb; have n0_ := Aside0.mk (below_step (by repeat (first | (with_reducible first | exact HB.out | apply below_alloc | apply pw_below_drewN | apply below_drew1) | exact HB.out)) hb); have n1_ := Aside0.mk (hbox); have n2_ := Aside0.mk ((by rw [hg]; exact (below_size (by repeat (first | (with_reducible first | exact HB.out | apply below_alloc | apply pw_below_drewN | apply below_drew1) | exact HB.out))) : w.heap.size ≤ gb106)); have n3_ := Aside0.mk ((by rw [hg]; exact (below_size (by repeat (first | (with_reducible first | exact HB.out | apply below_alloc | apply pw_below_drewN | apply below_drew1) | exact HB.out))) : w.heap.size ≤ gb106)); clear HB; have HB := n0_; have BK106 := n1_; have GW106 := n2_; have GE106 := n3_; clear n0_ n1_ n2_ n3_; clear hb hbox hg; have hcz7_0 : w6.cell? ⟨gb106, 0, none⟩ = some (.int .u32 a0_0) := (blk_cell BK106.out 0).trans rfl; have hcz7_1 : w6.cell? ⟨gb106, 1, none⟩ = some (.int .i64 a0_1) := (blk_cell BK106.out 1).trans rfl; have hfz7_0 := blk_frozen BK106.out 0; have hfz7_1 := blk_frozen BK106.out 1) | (go_at_call 101; (with_reducible refine (crossbuckref03_size.calls k a0_1 t107 _ A4.out).mono ?_); rintro e w' ⟨rfl, ⟨nd, rfl⟩⟩; (try first | exact ⟨rfl, _, World.drewN_drewN _ _ _⟩ | exact ⟨rfl, _, Eq.trans (World.drewN_drewN _ _ _) (congrArg (World.drewN _) (Nat.add_assoc _ _ _))⟩))); try go_wp2_with (first | ((with_reducible refine gate_dst (N := 1) rfl ?_); refine box_event ?hg (N := 1) ?hd (cs := #[.int .u32 a0_0, .int .i64 a0_1]) (t := 42) ?hr ?_; (case hd => rfl); (case hg => rfl); (case hr => first | (go_simp; done) | (go_simp; rfl)); intro gb106 hg w6 hbox hb; have n0_ := Aside0.mk (below_step (by repeat (first | (with_reducible first | exact HB.out | apply below_alloc | apply pw_below_drewN | apply below_drew1) | exact HB.out)) hb); have n1_ := Aside0.mk (hbox); have n2_ := Aside0.mk ((by rw [hg]; exact (below_size (by repeat (first | (with_reducible first | exact HB.out | apply below_alloc | apply pw_below_drewN | apply below_drew1) | exact HB.out))) : w.heap.size ≤ gb106)); have n3_ := Aside0.mk ((by rw [hg]; exact (below_size (by repeat (first | (with_reducible first | exact HB.out | apply below_alloc | apply pw_below_drewN | apply below_drew1) | exact HB.out))) : w.heap.size ≤ gb106)); clear HB; have HB := n0_; have BK106 := n1_; have GW106 := n2_; have GE106 := n3_; clear n0_ n1_ n2_ n3_; clear hb hbox hg; have hcz7_0 : w6.cell? ⟨gb106, 0, none⟩ = some (.int .u32 a0_0) := (blk_cell BK106.out 0).trans rfl; have hcz7_1 : w6.cell? ⟨gb106, 1, none⟩ = some (.int .i64 a0_1) := (blk_cell BK106.out 1).trans rfl; have hfz7_0 := blk_frozen BK106.out 0; have hfz7_1 := blk_frozen BK106.out 1) | (go_at_call 101; (with_reducible refine (crossbuckref03_size.calls k a0_1 t107 _ A4.out).mono ?_); rintro e w' ⟨rfl, ⟨nd, rfl⟩⟩; (try first | exact ⟨rfl, _, World.drewN_drewN _ _ _⟩ | exact ⟨rfl, _, Eq.trans (World.drewN_drewN _ _ _) (congrArg (World.drewN _) (Nat.add_assoc _ _ _))⟩))))
    go_ret
    exact ⟨by first | rfl | (simp [errW_none, errW_some] <;> rfl) | (simp [*, errW_none, errW_some] <;> rfl), by repeat (first | (with_reducible first | exact HB.out | apply below_alloc | apply pw_below_drewN | apply below_drew1 | refine below_set ?_ GE106.out) | exact HB.out)⟩
  ·rw [if_neg c3] at H
   have c3b0 : decide (a0_1 ≤ 32) = false := decide_eq_false c3
   clear c3
   obtain rfl := Option.some.inj H
   go_enter Tryd.func61, Tryd.ntmps61
   go_wp2_with (first | ((with_reducible refine gate_dst (N := 1) rfl ?_); refine box_event ?hg (N := 1) ?hd (cs := #[.int .u32 a0_0, .int .i64 a0_1]) (t := 42) ?hr ?_; (case hd => rfl); (case hg => rfl); (case hr => first | (go_simp; done) | (go_simp; rfl)); intro gb106 hg w8 hbox hb; have n0_ := Aside0.mk (below_step (by repeat (first | (with_reducible first | exact HB.out | apply below_alloc | apply pw_below_drewN | apply below_drew1) | exact HB.out)) hb); have n1_ := Aside0.mk (hbox); have n2_ := Aside0.mk ((by rw [hg]; exact (below_size (by repeat (first | (with_reducible first | exact HB.out | apply below_alloc | apply pw_below_drewN | apply below_drew1) | exact HB.out))) : w.heap.size ≤ gb106)); have n3_ := Aside0.mk ((by rw [hg]; exact (below_size (by repeat (first | (with_reducible first | exact HB.out | apply below_alloc | apply pw_below_drewN | apply below_drew1) | exact HB.out))) : w.heap.size ≤ gb106)); clear HB; have HB := n0_; have BK106 := n1_; have GW106 := n2_; have GE106 := n3_; clear n0_ n1_ n2_ n3_; clear hb hbox hg; have hcz9_0 : w8.cell? ⟨gb106, 0, none⟩ = some (.int .u32 a0_0) := (blk_cell BK106.out 0).trans rfl; have hcz9_1 : w8.cell? ⟨gb106, 1, none⟩ = some (.int .i64 a0_1) := (blk_cell BK106.out 1).trans rfl; have hfz9_0 := blk_frozen BK106.out 0; have hfz9_1 := blk_frozen BK106.out 1))
   repeat (go_quiet (first | ((with_reducible refine gate_dst (N := 1) rfl ?_); refine box_event ?hg (N := 1) ?hd (cs := #[.int .u32 a0_0, .int .i64 a0_1]) (t := 42) ?hr ?_; (case hd => rfl); (case hg => rfl); (case hr => first | (go_simp; done) | (go_simp; rfl)); intro gb106 hg w8 hbox hb; have n0_ := Aside0.mk (below_step (by repeat (first | (with_reducible first | exact HB.out | apply below_alloc | apply pw_below_drewN | apply below_drew1) | exact HB.out)) hb); have n1_ := Aside0.mk (hbox); have n2_ := Aside0.mk ((by rw [hg]; exact (below_size (by repeat (first | (with_reducible first | exact HB.out | apply below_alloc | apply pw_below_drewN | apply below_drew1) | exact HB.out))) : w.heap.size ≤ gb106)); have n3_ := Aside0.mk ((by rw [hg]; exact (below_size (by repeat (first | (with_reducible first | exact HB.out | apply below_alloc | apply pw_below_drewN | apply below_drew1) | exact HB.out))) : w.heap.size ≤ gb106)); clear HB; have HB := n0_; have BK106 := n1_; have GW106 := n2_; have GE106 := n3_; clear n0_ n1_ n2_ n3_; clear hb hbox hg; have hcz9_0 : w8.cell? ⟨gb106, 0, none⟩ = some (.int .u32 a0_0) := (blk_cell BK106.out 0).trans rfl; have hcz9_1 : w8.cell? ⟨gb106, 1, none⟩ = some (.int .i64 a0_1) := (blk_cell BK106.out 1).trans rfl; have hfz9_0 := blk_frozen BK106.out 0; have hfz9_1 := blk_frozen BK106.out 1)); try go_wp2_with (first | ((with_reducible refine gate_dst (N := 1) rfl ?_); refine box_event ?hg (N := 1) ?hd (cs := #[.int .u32 a0_0, .int .i64 a0_1]) (t := 42) ?hr ?_; (case hd => rfl); (case hg => rfl); (case hr => first | (go_simp; done) | (go_simp; rfl)); intro gb106 hg w8 hbox hb; have n0_ := Aside0.mk (below_step (by repeat (first | (with_reducible first | exact HB.out | apply below_alloc | apply pw_below_drewN | apply below_drew1) | exact HB.out)) hb); have n1_ := Aside0.mk (hbox); have n2_ := Aside0.mk ((by rw [hg]; exact (below_size (by repeat (first | (with_reducible first | exact HB.out | apply below_alloc | apply pw_below_drewN | apply below_drew1) | exact HB.out))) : w.heap.size ≤ gb106)); have n3_ := Aside0.mk ((by rw [hg]; exact (below_size (by repeat (first | (with_reducible first | exact HB.out | apply below_alloc | apply pw_below_drewN | apply below_drew1) | exact HB.out))) : w.heap.size ≤ gb106)); clear HB; have HB := n0_; have BK106 := n1_; have GW106 := n2_; have GE106 := n3_; clear n0_ n1_ n2_ n3_; clear hb hbox hg; have hcz9_0 : w8.cell? ⟨gb106, 0, none⟩ = some (.int .u32 a0_0) := (blk_cell BK106.out 0).trans rfl; have hcz9_1 : w8.cell? ⟨gb106, 1, none⟩ = some (.int .i64 a0_1) := (blk_cell BK106.out 1).trans rfl; have hfz9_0 := blk_frozen BK106.out 0; have hfz9_1 := blk_frozen BK106.out 1)))
   go_ret
   exact ⟨by first | rfl | (simp [errW_none, errW_some] <;> rfl) | (simp [*, errW_none, errW_some] <;> rfl), by repeat (first | (with_reducible first | exact HB.out | apply below_alloc | apply pw_below_drewN | apply below_drew1 | refine below_set ?_ GE106.out) | exact HB.out)⟩
 ·rw [if_neg c2] at H
  have c2b0 : decide (0 ≤ a0_1) = false := decide_eq_false c2
  clear c2
  obtain rfl := Option.some.inj H
  go_enter Tryd.func61, Tryd.ntmps61
  go_wp2_with (first | ((with_reducible refine gate_dst (N := 1) rfl ?_); refine box_event ?hg (N := 1) ?hd (cs := #[.int .u32 a0_0, .int .i64 a0_1]) (t := 42) ?hr ?_; (case hd => rfl); (case hg => rfl); (case hr => first | (go_simp; done) | (go_simp; rfl)); intro gb106 hg w10 hbox hb; have n0_ := Aside0.mk (below_step (by repeat (first | (with_reducible first | exact HB.out | apply below_alloc | apply pw_below_drewN | apply below_drew1) | exact HB.out)) hb); have n1_ := Aside0.mk (hbox); have n2_ := Aside0.mk ((by rw [hg]; exact (below_size (by repeat (first | (with_reducible first | exact HB.out | apply below_alloc | apply pw_below_drewN | apply below_drew1) | exact HB.out))) : w.heap.size ≤ gb106)); have n3_ := Aside0.mk ((by rw [hg]; exact (below_size (by repeat (first | (with_reducible first | exact HB.out | apply below_alloc | apply pw_below_drewN | apply below_drew1) | exact HB.out))) : w.heap.size ≤ gb106)); clear HB; have HB := n0_; have BK106 := n1_; have GW106 := n2_; have GE106 := n3_; clear n0_ n1_ n2_ n3_; clear hb hbox hg; have hcz11_0 : w10.cell? ⟨gb106, 0, none⟩ = some (.int .u32 a0_0) := (blk_cell BK106.out 0).trans rfl; have hcz11_1 : w10.cell? ⟨gb106, 1, none⟩ = some (.int .i64 a0_1) := (blk_cell BK106.out 1).trans rfl; have hfz11_0 := blk_frozen BK106.out 0; have hfz11_1 := blk_frozen BK106.out 1))
  repeat (go_quiet (first | ((with_reducible refine gate_dst (N := 1) rfl ?_); refine box_event ?hg (N := 1) ?hd (cs := #[.int .u32 a0_0, .int .i64 a0_1]) (t := 42) ?hr ?_; (case hd => rfl); (case hg => rfl); (case hr => first | (go_simp; done) | (go_simp; rfl)); intro gb106 hg w10 hbox hb; have n0_ := Aside0.mk (below_step (by repeat (first | (with_reducible first | exact HB.out | apply below_alloc | apply pw_below_drewN | apply below_drew1) | exact HB.out)) hb); have n1_ := Aside0.mk (hbox); have n2_ := Aside0.mk ((by rw [hg]; exact (below_size (by repeat (first | (with_reducible first | exact HB.out | apply below_alloc | apply pw_below_drewN | apply below_drew1) | exact HB.out))) : w.heap.size ≤ gb106)); have n3_ := Aside0.mk ((by rw [hg]; exact (below_size (by repeat (first | (with_reducible first | exact HB.out | apply below_alloc | apply pw_below_drewN | apply below_drew1) | exact HB.out))) : w.heap.size ≤ gb106)); clear HB; have HB := n0_; have BK106 := n1_; have GW106 := n2_; have GE106 := n3_; clear n0_ n1_ n2_ n3_; clear hb hbox hg; have hcz11_0 : w10.cell? ⟨gb106, 0, none⟩ = some (.int .u32 a0_0) := (blk_cell BK106.out 0).trans rfl; have hcz11_1 : w10.cell? ⟨gb106, 1, none⟩ = some (.int .i64 a0_1) := (blk_cell BK106.out 1).trans rfl; have hfz11_0 := blk_frozen BK106.out 0; have hfz11_1 := blk_frozen BK106.out 1)); try go_wp2_with (first | ((with_reducible refine gate_dst (N := 1) rfl ?_); refine box_event ?hg (N := 1) ?hd (cs := #[.int .u32 a0_0, .int .i64 a0_1]) (t := 42) ?hr ?_; (case hd => rfl); (case hg => rfl); (case hr => first | (go_simp; done) | (go_simp; rfl)); intro gb106 hg w10 hbox hb; have n0_ := Aside0.mk (below_step (by repeat (first | (with_reducible first | exact HB.out | apply below_alloc | apply pw_below_drewN | apply below_drew1) | exact HB.out)) hb); have n1_ := Aside0.mk (hbox); have n2_ := Aside0.mk ((by rw [hg]; exact (below_size (by repeat (first | (with_reducible first | exact HB.out | apply below_alloc | apply pw_below_drewN | apply below_drew1) | exact HB.out))) : w.heap.size ≤ gb106)); have n3_ := Aside0.mk ((by rw [hg]; exact (below_size (by repeat (first | (with_reducible first | exact HB.out | apply below_alloc | apply pw_below_drewN | apply below_drew1) | exact HB.out))) : w.heap.size ≤ gb106)); clear HB; have HB := n0_; have BK106 := n1_; have GW106 := n2_; have GE106 := n3_; clear n0_ n1_ n2_ n3_; clear hb hbox hg; have hcz11_0 : w10.cell? ⟨gb106, 0, none⟩ = some (.int .u32 a0_0) := (blk_cell BK106.out 0).trans rfl; have hcz11_1 : w10.cell? ⟨gb106, 1, none⟩ = some (.int .i64 a0_1) := (blk_cell BK106.out 1).trans rfl; have hfz11_0 := blk_frozen BK106.out 0; have hfz11_1 := blk_frozen BK106.out 1)))
  go_ret
  exact ⟨by first | rfl | (simp [errW_none, errW_some] <;> rfl) | (simp [*, errW_none, errW_some] <;> rfl), by repeat (first | (with_reducible first | exact HB.out | apply below_alloc | apply pw_below_drewN | apply below_drew1 | refine below_set ?_ GE106.out) | exact HB.out)⟩

end Go.Proofs.YtloclimoffhbhaaDoor.PFx

namespace Go.Proofs.YtloclimoffhbhaaDoor.PFx
open Go.RowKit Go.Proofs.YtloclimoffhbhaaDoorW.PrintWords Go.Proofs.YtloclimoffhbhaaDoorW.PrintLast Go.Proofs.YtloclimoffhbhaaDoorW.PrintMore
attribute [local go_sem] max2_int min2_int max_two min_two max_three min_three max_four min_four   -- for this text's walks alone
set_option linter.unusedVariables false
set_option linter.unusedSimpArgs false

/-! ### crossbuckref04_Check: function 43 -/
mutual
def crossbuckref04_Check.j0 : Nat → Bool → Int → Int → Int → Int → Int → Int → Int → Int → Int → Option (Int)
 | 0, _, _, _, _, _, _, _, _, _, _ => none
 | k + 1, x12, x109000, x109001, x109002, x109003, x109004, x109005, x109006, x109007, x109008 => if x12 = true then (some 13) else (if x109004 < (-1) then (crossbuckref04_Check.j1 k true x109000 x109001 x109002 x109003 x109004 x109005 x109006 x109007 x109008) else (crossbuckref04_Check.j1 k (decide (x109004 > 255)) x109000 x109001 x109002 x109003 x109004 x109005 x109006 x109007 x109008))
def crossbuckref04_Check.j1 : Nat → Bool → Int → Int → Int → Int → Int → Int → Int → Int → Int → Option (Int)
 | 0, _, _, _, _, _, _, _, _, _, _ => none
 | k + 1, x20, x109000, x109001, x109002, x109003, x109004, x109005, x109006, x109007, x109008 => if x20 = true then (some 5) else (if x109005 > x109006 then (some 14) else (if x109007 > x109008 then (some 14) else (some 0)))
end
def crossbuckref04_Check.f (k : Nat) (a0_0 : Int) (a0_1 : Int) (a0_2 : Int) (a0_3 : Int) (a0_4 : Int) (a0_5 : Int) (a0_6 : Int) (a0_7 : Int) (a0_8 : Int) : Option (Int) := (crossbuckref03_Right.f k a0_0 a0_1).bind fun t109 => (if t109 = true then ((crossbuckref03_Right.f k a0_2 a0_3).bind fun t110 => (crossbuckref04_Check.j0 k (!t110) a0_0 a0_1 a0_2 a0_3 a0_4 a0_5 a0_6 a0_7 a0_8)) else (crossbuckref04_Check.j0 k true a0_0 a0_1 a0_2 a0_3 a0_4 a0_5 a0_6 a0_7 a0_8))
theorem crossbuckref04_Check.mono_l : ∀ k, (∀ y0 y1 y2 y3 y4 y5 y6 y7 y8 y9, LeO (crossbuckref04_Check.j0 k y0 y1 y2 y3 y4 y5 y6 y7 y8 y9) (crossbuckref04_Check.j0 (k + 1) y0 y1 y2 y3 y4 y5 y6 y7 y8 y9)) ∧ (∀ y0 y1 y2 y3 y4 y5 y6 y7 y8 y9, LeO (crossbuckref04_Check.j1 k y0 y1 y2 y3 y4 y5 y6 y7 y8 y9) (crossbuckref04_Check.j1 (k + 1) y0 y1 y2 y3 y4 y5 y6 y7 y8 y9))
 | 0 => ⟨fun _ _ _ _ _ _ _ _ _ _ r h => by simp [crossbuckref04_Check.j0] at h, fun _ _ _ _ _ _ _ _ _ _ r h => by simp [crossbuckref04_Check.j1] at h⟩
 | k + 1 => by
  obtain ⟨ih0, ih1⟩ := crossbuckref04_Check.mono_l k
  refine ⟨?_, ?_⟩
  ·intro y0 y1 y2 y3 y4 y5 y6 y7 y8 y9
   unfold crossbuckref04_Check.j0
   repeat' first
   | (with_reducible exact ih0 _ _ _ _ _ _ _ _ _ _)
   | (with_reducible exact ih1 _ _ _ _ _ _ _ _ _ _)
   | (with_reducible exact crossbuckref03_Right.mono _ _ _)
   | (with_reducible exact LeO.refl _)
   | (with_reducible exact LeO.none _)
   | (with_reducible refine LeO.ite ?_ ?_)
   | (with_reducible refine LeO.bind ?_ (fun _ => ?_))
   | exact ih0 _ _ _ _ _ _ _ _ _ _
   | exact ih1 _ _ _ _ _ _ _ _ _ _
   | exact crossbuckref03_Right.mono _ _ _
   | exact LeO.none _
   | refine LeO.ite ?_ ?_
   | refine LeO.bind ?_ (fun _ => ?_)
  ·intro y0 y1 y2 y3 y4 y5 y6 y7 y8 y9
   unfold crossbuckref04_Check.j1
   repeat' first
   | (with_reducible exact ih0 _ _ _ _ _ _ _ _ _ _)
   | (with_reducible exact ih1 _ _ _ _ _ _ _ _ _ _)
   | (with_reducible exact crossbuckref03_Right.mono _ _ _)
   | (with_reducible exact LeO.refl _)
   | (with_reducible exact LeO.none _)
   | (with_reducible refine LeO.ite ?_ ?_)
   | (with_reducible refine LeO.bind ?_ (fun _ => ?_))
   | exact ih0 _ _ _ _ _ _ _ _ _ _
   | exact ih1 _ _ _ _ _ _ _ _ _ _
   | exact crossbuckref03_Right.mono _ _ _
   | exact LeO.none _
   | refine LeO.ite ?_ ?_
   | refine LeO.bind ?_ (fun _ => ?_)
theorem crossbuckref04_Check.mono : ∀ a0 a1 a2 a3 a4 a5 a6 a7 a8 k, LeO (crossbuckref04_Check.f k a0 a1 a2 a3 a4 a5 a6 a7 a8) (crossbuckref04_Check.f (k + 1) a0 a1 a2 a3 a4 a5 a6 a7 a8) := by
 intro a0 a1 a2 a3 a4 a5 a6 a7 a8 k
 obtain ⟨ih0, ih1⟩ := crossbuckref04_Check.mono_l k
 unfold crossbuckref04_Check.f
 repeat' first
   | (with_reducible exact ih0 _ _ _ _ _ _ _ _ _ _)
   | (with_reducible exact ih1 _ _ _ _ _ _ _ _ _ _)
   | (with_reducible exact crossbuckref03_Right.mono _ _ _)
   | (with_reducible exact LeO.refl _)
   | (with_reducible exact LeO.none _)
   | (with_reducible refine LeO.ite ?_ ?_)
   | (with_reducible refine LeO.bind ?_ (fun _ => ?_))
   | exact ih0 _ _ _ _ _ _ _ _ _ _
   | exact ih1 _ _ _ _ _ _ _ _ _ _
   | exact crossbuckref03_Right.mono _ _ _
   | exact LeO.none _
   | refine LeO.ite ?_ ?_
   | refine LeO.bind ?_ (fun _ => ?_)
set_option maxHeartbeats 8000000 in
set_option maxRecDepth 100000 in
theorem crossbuckref04_Check.calls (k : Nat) (a0_0 : Int) (a0_1 : Int) (a0_2 : Int) (a0_3 : Int) (a0_4 : Int) (a0_5 : Int) (a0_6 : Int) (a0_7 : Int) (a0_8 : Int) (r : Int) (w : World) (h : crossbuckref04_Check.f k a0_0 a0_1 a0_2 a0_3 a0_4 a0_5 a0_6 a0_7 a0_8 = some r) :
  Calls Tryd.prog 43 #[.agg #[.int .u32 a0_0, .int .i64 a0_1, .int .u32 a0_2, .int .i64 a0_3, .int .i64 a0_4, .int .u16 a0_5, .int .u16 a0_6, .int .u16 a0_7, .int .u16 a0_8]] w fun e w' => e = .returned (.int .i64 r) ∧ Below w.heap.size w w' := by
 have hu77 := Tryd.underlying77
 have hu42 := Tryd.underlying42
 have HB := Aside0.mk (Below.refl w.heap.size w)
 have H : ((crossbuckref03_Right.f k a0_0 a0_1).bind fun t109 => (if t109 = true then ((crossbuckref03_Right.f k a0_2 a0_3).bind fun t110 => (crossbuckref04_Check.j0 k (!t110) a0_0 a0_1 a0_2 a0_3 a0_4 a0_5 a0_6 a0_7 a0_8)) else (crossbuckref04_Check.j0 k true a0_0 a0_1 a0_2 a0_3 a0_4 a0_5 a0_6 a0_7 a0_8))) = some r := h
 clear h
 have HC2 := Aside0.mk H
 clear H
 go_enter Tryd.func43, Tryd.ntmps43
 go_upto_region 1 with (first | ((with_reducible refine gate_dst (N := 1) rfl ?_); refine box_event ?hg (N := 1) ?hd (cs := #[.int .u32 a0_0, .int .i64 a0_1, .int .u32 a0_2, .int .i64 a0_3, .int .i64 a0_4, .int .u16 a0_5, .int .u16 a0_6, .int .u16 a0_7, .int .u16 a0_8]) (t := 77) ?hr ?_; (case hd => rfl); (case hg => rfl); (case hr => first | (go_simp; done) | (go_simp; rfl)); intro gb108 hg w3 hbox hb; have n0_ := Aside0.mk (below_step (by repeat (first | (with_reducible first | exact HB.out | apply below_alloc | apply pw_below_drewN | apply below_drew1) | exact HB.out)) hb); have n1_ := Aside0.mk (hbox); have n2_ := Aside0.mk ((by rw [hg]; exact (below_size (by repeat (first | (with_reducible first | exact HB.out | apply below_alloc | apply pw_below_drewN | apply below_drew1) | exact HB.out))) : w.heap.size ≤ gb108)); have n3_ := Aside0.mk ((by rw [hg]; exact (below_size (by repeat (first | (with_reducible first | exact HB.out | apply below_alloc | apply pw_below_drewN | apply below_drew1) | exact HB.out))) : w.heap.size ≤ gb108)); clear HB; have HB := n0_; have BK108 := n1_; have GW108 := n2_; have GE108 := n3_; clear n0_ n1_ n2_ n3_; clear hb hbox hg))
 (try simp only [Act.put, List.setIfInBounds_toArray, List.set_cons_zero, List.set_cons_succ])
 go_cut [12] (fun v12 wc => ∃ (kq : Nat) (x12_1 : Bool), v12 = .bool x12_1 ∧ Aside0 (crossbuckref04_Check.j0 kq x12_1 a0_0 a0_1 a0_2 a0_3 a0_4 a0_5 a0_6 a0_7 a0_8 = some r) ∧ Aside0 (kq ≤ k) ∧ Aside0 (wc.heap[gb108]? = some (.cells #[.int .u32 a0_0, .int .i64 a0_1, .int .u32 a0_2, .int .i64 a0_3, .int .i64 a0_4, .int .u16 a0_5, .int .u16 a0_6, .int .u16 a0_7, .int .u16 a0_8] 77 (0, 0))) ∧ Aside0 (Below w.heap.size w wc))
 case first =>
  have H := HC2.out
  clear HC2
  replace H := Option.bind_eq_some_iff.mp H
  obtain ⟨t109, A40, H⟩ := H
  replace H : (if t109 = true then ((crossbuckref03_Right.f k a0_2 a0_3).bind fun t110 => (crossbuckref04_Check.j0 k (!t110) a0_0 a0_1 a0_2 a0_3 a0_4 a0_5 a0_6 a0_7 a0_8)) else (crossbuckref04_Check.j0 k true a0_0 a0_1 a0_2 a0_3 a0_4 a0_5 a0_6 a0_7 a0_8)) = some r := H
  have A4 := Aside0.mk A40
  clear A40
  by_cases c5 : t109 = true
  ·subst c5
   have H1 : ((crossbuckref03_Right.f k a0_2 a0_3).bind fun t110 => (crossbuckref04_Check.j0 k (!t110) a0_0 a0_1 a0_2 a0_3 a0_4 a0_5 a0_6 a0_7 a0_8)) = some r := by rw [if_pos rfl] at H; exact H
   clear H
   have H := H1
   clear H1
   replace H := Option.bind_eq_some_iff.mp H
   obtain ⟨t110, A60, H⟩ := H
   replace H : (crossbuckref04_Check.j0 k (!t110) a0_0 a0_1 a0_2 a0_3 a0_4 a0_5 a0_6 a0_7 a0_8) = some r := H
   have A6 := Aside0.mk A60
   clear A60
   have H' := Aside0.mk H
   clear H
   have hcz7_0 : w3.cell? ⟨gb108, 0, none⟩ = some (.int .u32 a0_0) := (blk_cell BK108.out 0).trans rfl
   have hcz7_1 : w3.cell? ⟨gb108, 1, none⟩ = some (.int .i64 a0_1) := (blk_cell BK108.out 1).trans rfl
   have hcz7_2 : w3.cell? ⟨gb108, 2, none⟩ = some (.int .u32 a0_2) := (blk_cell BK108.out 2).trans rfl
   have hcz7_3 : w3.cell? ⟨gb108, 3, none⟩ = some (.int .i64 a0_3) := (blk_cell BK108.out 3).trans rfl
   have hcz7_4 : w3.cell? ⟨gb108, 4, none⟩ = some (.int .i64 a0_4) := (blk_cell BK108.out 4).trans rfl
   have hcz7_5 : w3.cell? ⟨gb108, 5, none⟩ = some (.int .u16 a0_5) := (blk_cell BK108.out 5).trans rfl
   have hcz7_6 : w3.cell? ⟨gb108, 6, none⟩ = some (.int .u16 a0_6) := (blk_cell BK108.out 6).trans rfl
   have hcz7_7 : w3.cell? ⟨gb108, 7, none⟩ = some (.int .u16 a0_7) := (blk_cell BK108.out 7).trans rfl
   have hcz7_8 : w3.cell? ⟨gb108, 8, none⟩ = some (.int .u16 a0_8) := (blk_cell BK108.out 8).trans rfl
   have hfz7_0 := blk_frozen BK108.out 0
   have hfz7_1 := blk_frozen BK108.out 1
   have hfz7_2 := blk_frozen BK108.out 2
   have hfz7_3 := blk_frozen BK108.out 3
   have hfz7_4 := blk_frozen BK108.out 4
   have hfz7_5 := blk_frozen BK108.out 5
   have hfz7_6 := blk_frozen BK108.out 6
   have hfz7_7 := blk_frozen BK108.out 7
   have hfz7_8 := blk_frozen BK108.out 8
   go_wp2_with (first | ((with_reducible refine gate_callee (f := 61) rfl ?_); refine goesL_ (some 5) rfl rfl Tryd.func61 (by kernel_rfl) rfl #[.agg #[.int .u32 a0_0, .int .i64 a0_1]] rfl (by (try simp only [List.map_toArray, List.map_cons, List.map_nil]); first | done | rfl | (simp only [List.length_drop, List.length_take]; rfl)) ?_; (with_reducible refine (crossbuckref03_Right.calls k a0_0 a0_1 true _ A4.out).mono ?_); rintro e w8 ⟨rfl, hb⟩; refine ⟨_, rfl, ?_⟩; have n0_ := Aside0.mk (blk_below (g := gb108) (o := .cells #[.int .u32 a0_0, .int .i64 a0_1, .int .u32 a0_2, .int .i64 a0_3, .int .i64 a0_4, .int .u16 a0_5, .int .u16 a0_6, .int .u16 a0_7, .int .u16 a0_8] 77 (0, 0)) (by (with_reducible repeat (first | refine blk_drewN ?_ _ | refine blk_drew ?_ | refine blk_alloc ?_ _)); exact BK108.out) hb); have n1_ := Aside0.mk (below_step (by repeat (first | (with_reducible first | exact HB.out | apply below_alloc | apply pw_below_drewN | apply below_drew1 | refine below_set ?_ GE108.out) | exact HB.out)) hb); clear BK108; clear HB; have BK108 := n0_; have HB := n1_; clear n0_ n1_; (try clear hb); (try clear hb2); (try clear hk); (try clear hi); have hcz9_0 : w8.cell? ⟨gb108, 0, none⟩ = some (.int .u32 a0_0) := (blk_cell BK108.out 0).trans rfl; have hcz9_1 : w8.cell? ⟨gb108, 1, none⟩ = some (.int .i64 a0_1) := (blk_cell BK108.out 1).trans rfl; have hcz9_2 : w8.cell? ⟨gb108, 2, none⟩ = some (.int .u32 a0_2) := (blk_cell BK108.out 2).trans rfl; have hcz9_3 : w8.cell? ⟨gb108, 3, none⟩ = some (.int .i64 a0_3) := (blk_cell BK108.out 3).trans rfl; have hcz9_4 : w8.cell? ⟨gb108, 4, none⟩ = some (.int .i64 a0_4) := (blk_cell BK108.out 4).trans rfl; have hcz9_5 : w8.cell? ⟨gb108, 5, none⟩ = some (.int .u16 a0_5) := (blk_cell BK108.out 5).trans rfl; have hcz9_6 : w8.cell? ⟨gb108, 6, none⟩ = some (.int .u16 a0_6) := (blk_cell BK108.out 6).trans rfl; have hcz9_7 : w8.cell? ⟨gb108, 7, none⟩ = some (.int .u16 a0_7) := (blk_cell BK108.out 7).trans rfl; have hcz9_8 : w8.cell? ⟨gb108, 8, none⟩ = some (.int .u16 a0_8) := (blk_cell BK108.out 8).trans rfl; have hfz9_0 := blk_frozen BK108.out 0; have hfz9_1 := blk_frozen BK108.out 1; have hfz9_2 := blk_frozen BK108.out 2; have hfz9_3 := blk_frozen BK108.out 3; have hfz9_4 := blk_frozen BK108.out 4; have hfz9_5 := blk_frozen BK108.out 5; have hfz9_6 := blk_frozen BK108.out 6; have hfz9_7 := blk_frozen BK108.out 7; have hfz9_8 := blk_frozen BK108.out 8) | (go_at_call 61; (with_reducible refine (crossbuckref03_Right.calls k a0_2 a0_3 t110 _ A6.out).mono ?_); rintro e w10 ⟨rfl, hb⟩; have n0_ := Aside0.mk (blk_below (g := gb108) (o := .cells #[.int .u32 a0_0, .int .i64 a0_1, .int .u32 a0_2, .int .i64 a0_3, .int .i64 a0_4, .int .u16 a0_5, .int .u16 a0_6, .int .u16 a0_7, .int .u16 a0_8] 77 (0, 0)) (by (with_reducible repeat (first | refine blk_drewN ?_ _ | refine blk_drew ?_ | refine blk_alloc ?_ _)); exact BK108.out) hb); have n1_ := Aside0.mk (below_step (by repeat (first | (with_reducible first | exact HB.out | apply below_alloc | apply pw_below_drewN | apply below_drew1 | refine below_set ?_ GE108.out) | exact HB.out)) hb); clear BK108; clear HB; have BK108 := n0_; have HB := n1_; clear n0_ n1_; (try clear hb); (try clear hb2); (try clear hk); (try clear hi)))
   go_meet
   case rel => exact ⟨_, (!t110), (by first | rfl | (simp; done) | (simp [*]; done)), H', ⟨by first | omega | exact Nat.le_refl _⟩, ⟨by (with_reducible repeat (first | refine blk_drewN ?_ _ | refine blk_drew ?_ | refine blk_alloc ?_ _)); exact BK108.out⟩, ⟨by repeat (first | (with_reducible first | exact HB.out | apply below_alloc | apply pw_below_drewN | apply below_drew1 | refine below_set ?_ GE108.out) | exact HB.out)⟩⟩
  ·replace c5 := Bool.eq_false_iff.mpr c5
   subst c5
   have H1 : (crossbuckref04_Check.j0 k true a0_0 a0_1 a0_2 a0_3 a0_4 a0_5 a0_6 a0_7 a0_8) = some r := by rw [if_neg (show ¬ (false = true) by decide)] at H; exact H
   clear H
   have H := H1
   clear H1
   have H' := Aside0.mk H
   clear H
   have hcz11_0 : w3.cell? ⟨gb108, 0, none⟩ = some (.int .u32 a0_0) := (blk_cell BK108.out 0).trans rfl
   have hcz11_1 : w3.cell? ⟨gb108, 1, none⟩ = some (.int .i64 a0_1) := (blk_cell BK108.out 1).trans rfl
   have hcz11_2 : w3.cell? ⟨gb108, 2, none⟩ = some (.int .u32 a0_2) := (blk_cell BK108.out 2).trans rfl
   have hcz11_3 : w3.cell? ⟨gb108, 3, none⟩ = some (.int .i64 a0_3) := (blk_cell BK108.out 3).trans rfl
   have hcz11_4 : w3.cell? ⟨gb108, 4, none⟩ = some (.int .i64 a0_4) := (blk_cell BK108.out 4).trans rfl
   have hcz11_5 : w3.cell? ⟨gb108, 5, none⟩ = some (.int .u16 a0_5) := (blk_cell BK108.out 5).trans rfl
   have hcz11_6 : w3.cell? ⟨gb108, 6, none⟩ = some (.int .u16 a0_6) := (blk_cell BK108.out 6).trans rfl
   have hcz11_7 : w3.cell? ⟨gb108, 7, none⟩ = some (.int .u16 a0_7) := (blk_cell BK108.out 7).trans rfl
   have hcz11_8 : w3.cell? ⟨gb108, 8, none⟩ = some (.int .u16 a0_8) := (blk_cell BK108.out 8).trans rfl
   have hfz11_0 := blk_frozen BK108.out 0
   have hfz11_1 := blk_frozen BK108.out 1
   have hfz11_2 := blk_frozen BK108.out 2
   have hfz11_3 := blk_frozen BK108.out 3
   have hfz11_4 := blk_frozen BK108.out 4
   have hfz11_5 := blk_frozen BK108.out 5
   have hfz11_6 := blk_frozen BK108.out 6
   have hfz11_7 := blk_frozen BK108.out 7
   have hfz11_8 := blk_frozen BK108.out 8
   go_wp2_with (first | ((with_reducible refine gate_callee (f := 61) rfl ?_); refine goesL_ (some 5) rfl rfl Tryd.func61 (by kernel_rfl) rfl #[.agg #[.int .u32 a0_0, .int .i64 a0_1]] rfl (by (try simp only [List.map_toArray, List.map_cons, List.map_nil]); first | done | rfl | (simp only [List.length_drop, List.length_take]; rfl)) ?_; (with_reducible refine (crossbuckref03_Right.calls k a0_0 a0_1 false _ A4.out).mono ?_); rintro e w12 ⟨rfl, hb⟩; refine ⟨_, rfl, ?_⟩; have n0_ := Aside0.mk (blk_below (g := gb108) (o := .cells #[.int .u32 a0_0, .int .i64 a0_1, .int .u32 a0_2, .int .i64 a0_3, .int .i64 a0_4, .int .u16 a0_5, .int .u16 a0_6, .int .u16 a0_7, .int .u16 a0_8] 77 (0, 0)) (by (with_reducible repeat (first | refine blk_drewN ?_ _ | refine blk_drew ?_ | refine blk_alloc ?_ _)); exact BK108.out) hb); have n1_ := Aside0.mk (below_step (by repeat (first | (with_reducible first | exact HB.out | apply below_alloc | apply pw_below_drewN | apply below_drew1 | refine below_set ?_ GE108.out) | exact HB.out)) hb); clear BK108; clear HB; have BK108 := n0_; have HB := n1_; clear n0_ n1_; (try clear hb); (try clear hb2); (try clear hk); (try clear hi)))
   go_meet
   case rel => exact ⟨_, (true), (by first | rfl | (simp; done) | (simp [*]; done)), H', ⟨by first | omega | exact Nat.le_refl _⟩, ⟨by (with_reducible repeat (first | refine blk_drewN ?_ _ | refine blk_drew ?_ | refine blk_alloc ?_ _)); exact BK108.out⟩, ⟨by repeat (first | (with_reducible first | exact HB.out | apply below_alloc | apply pw_below_drewN | apply below_drew1 | refine below_set ?_ GE108.out) | exact HB.out)⟩⟩
 case rest =>
  clear HC2
  try clear p2
  try clear c4
  try clear c5
  try clear c6
  try clear hcz11_0
  try clear hcz11_1
  try clear hcz11_2
  try clear hcz11_3
  try clear hcz11_4
  try clear hcz11_5
  try clear hcz11_6
  try clear hcz11_7
  try clear hcz11_8
  try clear hcz7_0
  try clear hcz7_1
  try clear hcz7_2
  try clear hcz7_3
  try clear hcz7_4
  try clear hcz7_5
  try clear hcz7_6
  try clear hcz7_7
  try clear hcz7_8
  try clear hcz9_0
  try clear hcz9_1
  try clear hcz9_2
  try clear hcz9_3
  try clear hcz9_4
  try clear hcz9_5
  try clear hcz9_6
  try clear hcz9_7
  try clear hcz9_8
  try clear hfz11_0
  try clear hfz11_1
  try clear hfz11_2
  try clear hfz11_3
  try clear hfz11_4
  try clear hfz11_5
  try clear hfz11_6
  try clear hfz11_7
  try clear hfz11_8
  try clear hfz7_0
  try clear hfz7_1
  try clear hfz7_2
  try clear hfz7_3
  try clear hfz7_4
  try clear hfz7_5
  try clear hfz7_6
  try clear hfz7_7
  try clear hfz7_8
  try clear hfz9_0
  try clear hfz9_1
  try clear hfz9_2
  try clear hfz9_3
  try clear hfz9_4
  try clear hfz9_5
  try clear hfz9_6
  try clear hfz9_7
  try clear hfz9_8
  obtain ⟨kq, x12_1, rfl, HA, HJ1, BK108, HB⟩ := hcut
  cases kq with
  | zero => exact absurd HA.out (by simp [crossbuckref04_Check.j0])
  | succ kj1 =>
   have H := HA.out
   clear HA
   simp only [crossbuckref04_Check.j0] at H
   by_cases c13 : x12_1 = true
   ·subst c13
    have H1 : (some 13) = some r := by rw [if_pos rfl] at H; exact H
    clear H
    have H := H1
    clear H1
    obtain rfl := Option.some.inj H
    go_wp2
    go_ret
    exact ⟨by first | rfl | (simp [errW_none, errW_some] <;> rfl) | (simp [*, errW_none, errW_some] <;> rfl), by repeat (first | (with_reducible first | exact HB.out | apply below_alloc | apply pw_below_drewN | apply below_drew1 | refine below_set ?_ GE108.out) | exact HB.out)⟩
   ·replace c13 := Bool.eq_false_iff.mpr c13
    subst c13
    have H1 : (if a0_4 < (-1) then (crossbuckref04_Check.j1 kj1 true a0_0 a0_1 a0_2 a0_3 a0_4 a0_5 a0_6 a0_7 a0_8) else (crossbuckref04_Check.j1 kj1 (decide (a0_4 > 255)) a0_0 a0_1 a0_2 a0_3 a0_4 a0_5 a0_6 a0_7 a0_8)) = some r := by rw [if_neg (show ¬ (false = true) by decide)] at H; exact H
    clear H
    have H := H1
    clear H1
    have HC14 := Aside0.mk H
    clear H
    go_upto_region 3 with (fail)
    go_cut [20] (fun v20 wc => ∃ (kq : Nat) (x20_13 : Bool), v20 = .bool x20_13 ∧ Aside0 (crossbuckref04_Check.j1 kq x20_13 a0_0 a0_1 a0_2 a0_3 a0_4 a0_5 a0_6 a0_7 a0_8 = some r) ∧ Aside0 (kq ≤ kj1) ∧ Aside0 (wc.heap[gb108]? = some (.cells #[.int .u32 a0_0, .int .i64 a0_1, .int .u32 a0_2, .int .i64 a0_3, .int .i64 a0_4, .int .u16 a0_5, .int .u16 a0_6, .int .u16 a0_7, .int .u16 a0_8] 77 (0, 0))) ∧ Aside0 (Below w.heap.size w wc))
    case first =>
     have H := HC14.out
     clear HC14
     by_cases c15 : a0_4 < (-1)
     ·rw [if_pos c15] at H
      have c15b0 : decide (a0_4 < (-1)) = true := decide_eq_true c15
      clear c15
      (first | rw [c15b0] | (simp only [i64_w, i32_w]; rw [c15b0]) | skip)
      have H' := Aside0.mk H
      clear H
      have hcz16_0 : wc.cell? ⟨gb108, 0, none⟩ = some (.int .u32 a0_0) := (blk_cell BK108.out 0).trans rfl
      have hcz16_1 : wc.cell? ⟨gb108, 1, none⟩ = some (.int .i64 a0_1) := (blk_cell BK108.out 1).trans rfl
      have hcz16_2 : wc.cell? ⟨gb108, 2, none⟩ = some (.int .u32 a0_2) := (blk_cell BK108.out 2).trans rfl
      have hcz16_3 : wc.cell? ⟨gb108, 3, none⟩ = some (.int .i64 a0_3) := (blk_cell BK108.out 3).trans rfl
      have hcz16_4 : wc.cell? ⟨gb108, 4, none⟩ = some (.int .i64 a0_4) := (blk_cell BK108.out 4).trans rfl
      have hcz16_5 : wc.cell? ⟨gb108, 5, none⟩ = some (.int .u16 a0_5) := (blk_cell BK108.out 5).trans rfl
      have hcz16_6 : wc.cell? ⟨gb108, 6, none⟩ = some (.int .u16 a0_6) := (blk_cell BK108.out 6).trans rfl
      have hcz16_7 : wc.cell? ⟨gb108, 7, none⟩ = some (.int .u16 a0_7) := (blk_cell BK108.out 7).trans rfl
      have hcz16_8 : wc.cell? ⟨gb108, 8, none⟩ = some (.int .u16 a0_8) := (blk_cell BK108.out 8).trans rfl
      have hfz16_0 := blk_frozen BK108.out 0
      have hfz16_1 := blk_frozen BK108.out 1
      have hfz16_2 := blk_frozen BK108.out 2
      have hfz16_3 := blk_frozen BK108.out 3
      have hfz16_4 := blk_frozen BK108.out 4
      have hfz16_5 := blk_frozen BK108.out 5
      have hfz16_6 := blk_frozen BK108.out 6
      have hfz16_7 := blk_frozen BK108.out 7
      have hfz16_8 := blk_frozen BK108.out 8
      go_wp2
      go_meet
      case rel => exact ⟨_, (true), (by first | rfl | (simp; done) | (simp [*]; done)), H', ⟨by have := HJ1.out; first | omega | exact Nat.le_refl _⟩, ⟨by (with_reducible repeat (first | refine blk_drewN ?_ _ | refine blk_drew ?_ | refine blk_alloc ?_ _)); exact BK108.out⟩, ⟨by repeat (first | (with_reducible first | exact HB.out | apply below_alloc | apply pw_below_drewN | apply below_drew1 | refine below_set ?_ GE108.out) | exact HB.out)⟩⟩
     ·rw [if_neg c15] at H
      have c15b0 : decide (a0_4 < (-1)) = false := decide_eq_false c15
      clear c15
      (first | rw [c15b0] | (simp only [i64_w, i32_w]; rw [c15b0]) | skip)
      have H' := Aside0.mk H
      clear H
      have hcz17_0 : wc.cell? ⟨gb108, 0, none⟩ = some (.int .u32 a0_0) := (blk_cell BK108.out 0).trans rfl
      have hcz17_1 : wc.cell? ⟨gb108, 1, none⟩ = some (.int .i64 a0_1) := (blk_cell BK108.out 1).trans rfl
      have hcz17_2 : wc.cell? ⟨gb108, 2, none⟩ = some (.int .u32 a0_2) := (blk_cell BK108.out 2).trans rfl
      have hcz17_3 : wc.cell? ⟨gb108, 3, none⟩ = some (.int .i64 a0_3) := (blk_cell BK108.out 3).trans rfl
      have hcz17_4 : wc.cell? ⟨gb108, 4, none⟩ = some (.int .i64 a0_4) := (blk_cell BK108.out 4).trans rfl
      have hcz17_5 : wc.cell? ⟨gb108, 5, none⟩ = some (.int .u16 a0_5) := (blk_cell BK108.out 5).trans rfl
      have hcz17_6 : wc.cell? ⟨gb108, 6, none⟩ = some (.int .u16 a0_6) := (blk_cell BK108.out 6).trans rfl
      have hcz17_7 : wc.cell? ⟨gb108, 7, none⟩ = some (.int .u16 a0_7) := (blk_cell BK108.out 7).trans rfl
      have hcz17_8 : wc.cell? ⟨gb108, 8, none⟩ = some (.int .u16 a0_8) := (blk_cell BK108.out 8).trans rfl
      have hfz17_0 := blk_frozen BK108.out 0
      have hfz17_1 := blk_frozen BK108.out 1
      have hfz17_2 := blk_frozen BK108.out 2
      have hfz17_3 := blk_frozen BK108.out 3
      have hfz17_4 := blk_frozen BK108.out 4
      have hfz17_5 := blk_frozen BK108.out 5
      have hfz17_6 := blk_frozen BK108.out 6
      have hfz17_7 := blk_frozen BK108.out 7
      have hfz17_8 := blk_frozen BK108.out 8
      go_wp2
      go_meet
      case rel => exact ⟨_, (decide (a0_4 > 255)), (by first | rfl | (simp; done) | (simp [*]; done)), H', ⟨by have := HJ1.out; first | omega | exact Nat.le_refl _⟩, ⟨by (with_reducible repeat (first | refine blk_drewN ?_ _ | refine blk_drew ?_ | refine blk_alloc ?_ _)); exact BK108.out⟩, ⟨by repeat (first | (with_reducible first | exact HB.out | apply below_alloc | apply pw_below_drewN | apply below_drew1 | refine below_set ?_ GE108.out) | exact HB.out)⟩⟩
    case rest =>
     clear HC14
     try clear c1
     try clear p2
     try clear c4
     try clear c5
     try clear c6
     try clear c13
     try clear c15
     try clear c15b0
     try clear hcz11_0
     try clear hcz11_1
     try clear hcz11_2
     try clear hcz11_3
     try clear hcz11_4
     try clear hcz11_5
     try clear hcz11_6
     try clear hcz11_7
     try clear hcz11_8
     try clear hcz16_0
     try clear hcz16_1
     try clear hcz16_2
     try clear hcz16_3
     try clear hcz16_4
     try clear hcz16_5
     try clear hcz16_6
     try clear hcz16_7
     try clear hcz16_8
     try clear hcz17_0
     try clear hcz17_1
     try clear hcz17_2
     try clear hcz17_3
     try clear hcz17_4
     try clear hcz17_5
     try clear hcz17_6
     try clear hcz17_7
     try clear hcz17_8
     try clear hcz7_0
     try clear hcz7_1
     try clear hcz7_2
     try clear hcz7_3
     try clear hcz7_4
     try clear hcz7_5
     try clear hcz7_6
     try clear hcz7_7
     try clear hcz7_8
     try clear hcz9_0
     try clear hcz9_1
     try clear hcz9_2
     try clear hcz9_3
     try clear hcz9_4
     try clear hcz9_5
     try clear hcz9_6
     try clear hcz9_7
     try clear hcz9_8
     try clear hfz11_0
     try clear hfz11_1
     try clear hfz11_2
     try clear hfz11_3
     try clear hfz11_4
     try clear hfz11_5
     try clear hfz11_6
     try clear hfz11_7
     try clear hfz11_8
     try clear hfz16_0
     try clear hfz16_1
     try clear hfz16_2
     try clear hfz16_3
     try clear hfz16_4
     try clear hfz16_5
     try clear hfz16_6
     try clear hfz16_7
     try clear hfz16_8
     try clear hfz17_0
     try clear hfz17_1
     try clear hfz17_2
     try clear hfz17_3
     try clear hfz17_4
     try clear hfz17_5
     try clear hfz17_6
     try clear hfz17_7
     try clear hfz17_8
     try clear hfz7_0
     try clear hfz7_1
     try clear hfz7_2
     try clear hfz7_3
     try clear hfz7_4
     try clear hfz7_5
     try clear hfz7_6
     try clear hfz7_7
     try clear hfz7_8
     try clear hfz9_0
     try clear hfz9_1
     try clear hfz9_2
     try clear hfz9_3
     try clear hfz9_4
     try clear hfz9_5
     try clear hfz9_6
     try clear hfz9_7
     try clear hfz9_8
     try clear p2
     obtain ⟨kq, x20_13, rfl, HA, HJ13, BK108, HB⟩ := hcut
     cases kq with
     | zero => exact absurd HA.out (by simp [crossbuckref04_Check.j1])
     | succ kj13 =>
      have H := HA.out
      clear HA
      simp only [crossbuckref04_Check.j1] at H
      by_cases c18 : x20_13 = true
      ·subst c18
       have H1 : (some 5) = some r := by rw [if_pos rfl] at H; exact H
       clear H
       have H := H1
       clear H1
       obtain rfl := Option.some.inj H
       go_wp2
       go_ret
       exact ⟨by first | rfl | (simp [errW_none, errW_some] <;> rfl) | (simp [*, errW_none, errW_some] <;> rfl), by repeat (first | (with_reducible first | exact HB.out | apply below_alloc | apply pw_below_drewN | apply below_drew1 | refine below_set ?_ GE108.out) | exact HB.out)⟩
      ·replace c18 := Bool.eq_false_iff.mpr c18
       subst c18
       have H1 : (if a0_5 > a0_6 then (some 14) else (if a0_7 > a0_8 then (some 14) else (some 0))) = some r := by rw [if_neg (show ¬ (false = true) by decide)] at H; exact H
       clear H
       have H := H1
       clear H1
       by_cases c19 : a0_5 > a0_6
       ·rw [if_pos c19] at H
        have c19b0 : decide (a0_6 < a0_5) = true := decide_eq_true c19
        clear c19
        obtain rfl := Option.some.inj H
        have hcz20_0 : wc.cell? ⟨gb108, 0, none⟩ = some (.int .u32 a0_0) := (blk_cell BK108.out 0).trans rfl
        have hcz20_1 : wc.cell? ⟨gb108, 1, none⟩ = some (.int .i64 a0_1) := (blk_cell BK108.out 1).trans rfl
        have hcz20_2 : wc.cell? ⟨gb108, 2, none⟩ = some (.int .u32 a0_2) := (blk_cell BK108.out 2).trans rfl
        have hcz20_3 : wc.cell? ⟨gb108, 3, none⟩ = some (.int .i64 a0_3) := (blk_cell BK108.out 3).trans rfl
        have hcz20_4 : wc.cell? ⟨gb108, 4, none⟩ = some (.int .i64 a0_4) := (blk_cell BK108.out 4).trans rfl
        have hcz20_5 : wc.cell? ⟨gb108, 5, none⟩ = some (.int .u16 a0_5) := (blk_cell BK108.out 5).trans rfl
        have hcz20_6 : wc.cell? ⟨gb108, 6, none⟩ = some (.int .u16 a0_6) := (blk_cell BK108.out 6).trans rfl
        have hcz20_7 : wc.cell? ⟨gb108, 7, none⟩ = some (.int .u16 a0_7) := (blk_cell BK108.out 7).trans rfl
        have hcz20_8 : wc.cell? ⟨gb108, 8, none⟩ = some (.int .u16 a0_8) := (blk_cell BK108.out 8).trans rfl
        have hfz20_0 := blk_frozen BK108.out 0
        have hfz20_1 := blk_frozen BK108.out 1
        have hfz20_2 := blk_frozen BK108.out 2
        have hfz20_3 := blk_frozen BK108.out 3
        have hfz20_4 := blk_frozen BK108.out 4
        have hfz20_5 := blk_frozen BK108.out 5
        have hfz20_6 := blk_frozen BK108.out 6
        have hfz20_7 := blk_frozen BK108.out 7
        have hfz20_8 := blk_frozen BK108.out 8
        go_wp2
        go_ret
        exact ⟨by first | rfl | (simp [errW_none, errW_some] <;> rfl) | (simp [*, errW_none, errW_some] <;> rfl), by repeat (first | (with_reducible first | exact HB.out | apply below_alloc | apply pw_below_drewN | apply below_drew1 | refine below_set ?_ GE108.out) | exact HB.out)⟩
       ·rw [if_neg c19] at H
        have c19b0 : decide (a0_6 < a0_5) = false := decide_eq_false c19
        clear c19
        by_cases c21 : a0_7 > a0_8
        ·rw [if_pos c21] at H
         have c21b0 : decide (a0_8 < a0_7) = true := decide_eq_true c21
         clear c21
         obtain rfl := Option.some.inj H
         have hcz22_0 : wc.cell? ⟨gb108, 0, none⟩ = some (.int .u32 a0_0) := (blk_cell BK108.out 0).trans rfl
         have hcz22_1 : wc.cell? ⟨gb108, 1, none⟩ = some (.int .i64 a0_1) := (blk_cell BK108.out 1).trans rfl
         have hcz22_2 : wc.cell? ⟨gb108, 2, none⟩ = some (.int .u32 a0_2) := (blk_cell BK108.out 2).trans rfl
         have hcz22_3 : wc.cell? ⟨gb108, 3, none⟩ = some (.int .i64 a0_3) := (blk_cell BK108.out 3).trans rfl
         have hcz22_4 : wc.cell? ⟨gb108, 4, none⟩ = some (.int .i64 a0_4) := (blk_cell BK108.out 4).trans rfl
         have hcz22_5 : wc.cell? ⟨gb108, 5, none⟩ = some (.int .u16 a0_5) := (blk_cell BK108.out 5).trans rfl
         have hcz22_6 : wc.cell? ⟨gb108, 6, none⟩ = some (.int .u16 a0_6) := (blk_cell BK108.out 6).trans rfl
         have hcz22_7 : wc.cell? ⟨gb108, 7, none⟩ = some (.int .u16 a0_7) := (blk_cell BK108.out 7).trans rfl
         have hcz22_8 : wc.cell? ⟨gb108, 8, none⟩ = some (.int .u16 a0_8) := (blk_cell BK108.out 8).trans rfl
         have hfz22_0 := blk_frozen BK108.out 0
         have hfz22_1 := blk_frozen BK108.out 1
         have hfz22_2 := blk_frozen BK108.out 2
         have hfz22_3 := blk_frozen BK108.out 3
         have hfz22_4 := blk_frozen BK108.out 4
         have hfz22_5 := blk_frozen BK108.out 5
         have hfz22_6 := blk_frozen BK108.out 6
         have hfz22_7 := blk_frozen BK108.out 7
         have hfz22_8 := blk_frozen BK108.out 8
         go_wp2
         go_ret
         exact ⟨by first | rfl | (simp [errW_none, errW_some] <;> rfl) | (simp [*, errW_none, errW_some] <;> rfl), by repeat (first | (with_reducible first | exact HB.out | apply below_alloc | apply pw_below_drewN | apply below_drew1 | refine below_set ?_ GE108.out) | exact HB.out)⟩
        ·rw [if_neg c21] at H
         have c21b0 : decide (a0_8 < a0_7) = false := decide_eq_false c21
         clear c21
         obtain rfl := Option.some.inj H
         have hcz23_0 : wc.cell? ⟨gb108, 0, none⟩ = some (.int .u32 a0_0) := (blk_cell BK108.out 0).trans rfl
         have hcz23_1 : wc.cell? ⟨gb108, 1, none⟩ = some (.int .i64 a0_1) := (blk_cell BK108.out 1).trans rfl
         have hcz23_2 : wc.cell? ⟨gb108, 2, none⟩ = some (.int .u32 a0_2) := (blk_cell BK108.out 2).trans rfl
         have hcz23_3 : wc.cell? ⟨gb108, 3, none⟩ = some (.int .i64 a0_3) := (blk_cell BK108.out 3).trans rfl
         have hcz23_4 : wc.cell? ⟨gb108, 4, none⟩ = some (.int .i64 a0_4) := (blk_cell BK108.out 4).trans rfl
         have hcz23_5 : wc.cell? ⟨gb108, 5, none⟩ = some (.int .u16 a0_5) := (blk_cell BK108.out 5).trans rfl
         have hcz23_6 : wc.cell? ⟨gb108, 6, none⟩ = some (.int .u16 a0_6) := (blk_cell BK108.out 6).trans rfl
         have hcz23_7 : wc.cell? ⟨gb108, 7, none⟩ = some (.int .u16 a0_7) := (blk_cell BK108.out 7).trans rfl
         have hcz23_8 : wc.cell? ⟨gb108, 8, none⟩ = some (.int .u16 a0_8) := (blk_cell BK108.out 8).trans rfl
         have hfz23_0 := blk_frozen BK108.out 0
         have hfz23_1 := blk_frozen BK108.out 1
         have hfz23_2 := blk_frozen BK108.out 2
         have hfz23_3 := blk_frozen BK108.out 3
         have hfz23_4 := blk_frozen BK108.out 4
         have hfz23_5 := blk_frozen BK108.out 5
         have hfz23_6 := blk_frozen BK108.out 6
         have hfz23_7 := blk_frozen BK108.out 7
         have hfz23_8 := blk_frozen BK108.out 8
         go_wp2
         go_ret
         exact ⟨by first | rfl | (simp [errW_none, errW_some] <;> rfl) | (simp [*, errW_none, errW_some] <;> rfl), by repeat (first | (with_reducible first | exact HB.out | apply below_alloc | apply pw_below_drewN | apply below_drew1 | refine below_set ?_ GE108.out) | exact HB.out)⟩

end Go.Proofs.YtloclimoffhbhaaDoor.PFx

namespace Go.Proofs.YtloclimoffhbhaaDoor.PFx
open Go.RowKit Go.Proofs.YtloclimoffhbhaaDoorW.PrintWords Go.Proofs.YtloclimoffhbhaaDoorW.PrintLast Go.Proofs.YtloclimoffhbhaaDoorW.PrintMore
attribute [local go_sem] max2_int min2_int max_two min_two max_three min_three max_four min_four   -- for this text's walks alone
set_option linter.unusedVariables false
set_option linter.unusedSimpArgs false

/-! ### hdr_Number: function 30 (by hand) -/
/-- The digits of a word, one by one: what is read so far, or what is wrong first. -/
def numberGo (most : Int) : List UInt8 → Int → Int × Int
 | [], n => (n, 0)
 | c :: l, n => if c.toNat < 48 ∨ 57 < c.toNat then (0, 6) else if wrap64 (wrap64 (n * 10) + ((c.toNat : Int) - 48)) > most then (0, 5) else numberGo most l (wrap64 (wrap64 (n * 10) + ((c.toNat : Int) - 48)))
/-- A word is none: nothing, or a nought ahead. -/
def numberBad (l : List UInt8) : Bool := l.isEmpty || (decide (1 < l.length) && l.headD 0 == 48)
def hdr_Number.f (a0 : ByteArray) (a1 : Int) : Option (Int × Int) := some (if numberBad a0.data.toList = true then (0, 6) else numberGo a1 a0.data.toList 0)
theorem numberGo_drop (most : Int) (s : ByteArray) (pos : Nat) (n : Int) (h : pos < s.size) : numberGo most (s.data.toList.drop pos) n = numberGo most (s[pos] :: s.data.toList.drop (pos + 1)) n := by
 have : s.data.toList.drop pos = s[pos] :: s.data.toList.drop (pos + 1) := by
  rw [List.drop_eq_getElem_cons (by simpa using h)]; rfl
 rw [this]
theorem numberGo_bad {most n : Int} {c : UInt8} {l : List UInt8} (h : c.toNat < 48 ∨ 57 < c.toNat) : numberGo most (c :: l) n = (0, 6) := by rw [numberGo, if_pos h]
theorem numberGo_over {most n : Int} {c : UInt8} {l : List UInt8} (h : ¬ (c.toNat < 48 ∨ 57 < c.toNat)) (g : most < wrap64 (wrap64 (n * 10) + ((c.toNat : Int) - 48))) : numberGo most (c :: l) n = (0, 5) := by rw [numberGo, if_neg h, if_pos g]
theorem numberGo_on {most n : Int} {c : UInt8} {l : List UInt8} (h : ¬ (c.toNat < 48 ∨ 57 < c.toNat)) (g : wrap64 (wrap64 (n * 10) + ((c.toNat : Int) - 48)) ≤ most) : numberGo most (c :: l) n = numberGo most l (wrap64 (wrap64 (n * 10) + ((c.toNat : Int) - 48))) := by rw [numberGo, if_neg h, if_neg (by omega)]
theorem numberGo_end {most n : Int} {s : ByteArray} {pos : Nat} (h : ¬ pos < s.size) : numberGo most (s.data.toList.drop pos) n = (n, 0) := by
 rw [List.drop_eq_nil_of_le (by simp; omega), numberGo]
theorem below_iter (w : World) (s : ByteArray) (p : Nat) : Below w.heap.size w (w.iter s p) := (Below.refl _ _).alloc (Nat.le_refl _) _
theorem number_ne {s : ByteArray} (h : 0 < s.size) : s.toList.isEmpty = false ∧ ¬ s.toList = [] := by
 have : ¬ s.toList = [] := by
  rw [ByteArray.toList_eq]
  intro e
  have := congrArg List.length e
  rw [Array.length_toList, List.length_nil] at this
  have h2 : s.size = s.data.size := rfl
  omega
 exact ⟨by simpa using this, this⟩
set_option maxHeartbeats 4000000 in
set_option maxRecDepth 1000000 in
theorem hdr_Number.calls (a0 : ByteArray) (a1 : Int) (r1 : Int) (r2 : Int) (w : World) (h : hdr_Number.f a0 a1 = some (r1, r2)) :
  Calls Tryd.prog 30 #[.string a0, .int .i64 a1] w fun e w' => e = .returned (.tuple #[.int .i64 r1, .int .i64 r2]) ∧ Below w.heap.size w w' := by
 have hf : (if numberBad a0.data.toList = true then ((0, 6) : Int × Int) else numberGo a1 a0.data.toList 0) = (r1, r2) := Option.some.inj h
 clear h
 rcases Nat.lt_or_ge 0 a0.size with h0 | h0
 ·obtain ⟨e1, e2⟩ := number_ne h0
  have hl : a0.data.toList = a0[0] :: a0.data.toList.drop 1 := by
   have : a0.data.toList.drop 0 = a0[0] :: a0.data.toList.drop 1 := by
    rw [List.drop_eq_getElem_cons (by simpa using h0)]; rfl
   exact this
  have hemp : a0.data.toList.isEmpty = false := by rw [hl]; rfl
  have hhd : a0.data.toList.headD 0 = a0[0] := by rw [hl]; rfl
  have hlen : a0.data.toList.length = a0.size := by simp
  rcases Nat.lt_or_ge 1 a0.size with h1 | h1
  ·have h1' : (1 : Int) < a0.size := by omega
   by_cases h2 : a0[0].toNat = 48
   ·have h3 : ((a0[0].toNat : Int) == 48) = true := by rw [h2]; rfl
    have h4 : numberBad a0.data.toList = true := by
     unfold numberBad
     rw [hemp, hhd, hlen, Bool.false_or, Bool.and_eq_true, decide_eq_true_iff, beq_iff_eq]
     exact ⟨h1, UInt8.toNat_inj.1 h2⟩
    rw [if_pos h4] at hf
    have HE := Lib.hid hf
    clear hf h4 hl hemp hhd hlen h2
    go_enter Tryd.func30, Tryd.ntmps30
    go_wp2
    go_ret2
    obtain ⟨rfl, rfl⟩ := Prod.mk.inj HE.out
    exact ⟨rfl, Below.refl _ _⟩
   ·have h3 : ((a0[0].toNat : Int) == 48) = false := by rw [beq_eq_false_iff_ne]; omega
    have h4 : ¬ numberBad a0.data.toList = true := by
     unfold numberBad
     rw [hemp, hhd, Bool.false_or, Bool.and_eq_true, beq_iff_eq]
     exact fun h => h2 (by rw [h.2]; rfl)
    rw [if_neg h4] at hf
    have HF := Lib.hid hf
    clear hf h4 hl hemp hhd hlen h2
    go_enter Tryd.func30, Tryd.ntmps30
    go_wp2
    go_loopw [4, 5, 6, 8] (fun v4 v5 n v8 wr => ∃ (pos : Nat) (acc : Int) (u : Value), v4 = .int .i64 0 ∧ v5 = .int .i64 0 ∧ v8 = u ∧ wr = w.iter a0 pos ∧ n = .int .i64 acc ∧ numberGo a1 (a0.data.toList.drop pos) acc = (r1, r2) ∧ pos ≤ a0.size) (fun _ _ _ _ wr => a0.size - wr.iterPos w.heap.size)
    case atStart => exact ⟨0, 0, _, rfl, rfl, rfl, rfl, rfl, HF.out, Nat.zero_le _⟩
    case round =>
     obtain ⟨pos, acc, u, rfl, rfl, rfl, rfl, rfl, hc, hb⟩ := hrel
     have HC := Lib.hid hc
     clear hc
     by_cases hp : pos < a0.size
     ·have HD := Lib.hid (HC.out.symm.trans (numberGo_drop a1 a0 pos acc hp)).symm
      clear HC
      by_cases ha : (a0[pos]'hp).toNat < 128
      ·have hnx : ∀ ty, (Instr.next (.pointer (some ⟨w.heap.size, 0, none⟩)) true ty).run Tryd.prog (w.iter a0 pos) = _ := fun ty => run_next_ascii w a0 pos ty hp ha
       by_cases hd : (a0[pos]'hp).toNat < 48 ∨ 57 < (a0[pos]'hp).toNat
       ·have HE := Lib.hid ((numberGo_bad hd).symm.trans HD.out)
        clear HD
        rcases hd with hd | hd
        all_goals
         go_wp2
         go_ret2
         obtain ⟨rfl, rfl⟩ := Prod.mk.inj HE.out
         exact ⟨rfl, below_iter _ _ _⟩
       ·have hd1 : 48 ≤ (a0[pos]'hp).toNat := by omega
        have hd2 : (a0[pos]'hp).toNat ≤ 57 := by omega
        by_cases hov : a1 < wrap64 (wrap64 (acc * 10) + (((a0[pos]'hp).toNat : Int) - 48))
        ·have HE := Lib.hid ((numberGo_over hd hov).symm.trans HD.out)
         clear HD hd
         go_wp2
         go_ret2
         obtain ⟨rfl, rfl⟩ := Prod.mk.inj HE.out
         exact ⟨rfl, below_iter _ _ _⟩
        ·have hov' : wrap64 (wrap64 (acc * 10) + (((a0[pos]'hp).toNat : Int) - 48)) ≤ a1 := by omega
         have HE := Lib.hid ((numberGo_on hd hov').symm.trans HD.out)
         clear HD hd hov
         go_wp2
         go_roundw
         case rel => exact ⟨pos + 1, _, _, rfl, rfl, rfl, rfl, rfl, HE.out, by omega⟩
         case measure => simp; omega
      ·obtain ⟨k1, k2⟩ := decode_high a0 pos hp (by omega)
       have hnx : ∀ ty, (Instr.next (.pointer (some ⟨w.heap.size, 0, none⟩)) true ty).run Tryd.prog (w.iter a0 pos) = _ := fun ty => run_next_any w a0 pos ty hp
       have HE := Lib.hid ((numberGo_bad (.inr (by omega))).symm.trans HD.out)
       clear HD
       have k3 : (57 : Int) < ((Utf8.decode a0 pos).1 : Int) := by omega
       go_wp2
       go_ret2
       obtain ⟨rfl, rfl⟩ := Prod.mk.inj HE.out
       exact ⟨rfl, below_iter _ _ _⟩
     ·have hnx : ∀ ty, (Instr.next (.pointer (some ⟨w.heap.size, 0, none⟩)) true ty).run Tryd.prog (w.iter a0 pos) = _ := fun ty => run_next_end w a0 pos ty hp
      have HE := Lib.hid ((numberGo_end hp).symm.trans HC.out)
      clear HC
      go_wp2
      go_ret2
      obtain ⟨rfl, rfl⟩ := Prod.mk.inj HE.out
      exact ⟨rfl, below_iter _ _ _⟩
  ·have h1' : (a0.size : Int) ≤ 1 := by omega
   have h4 : ¬ numberBad a0.data.toList = true := by
    unfold numberBad
    rw [hemp, Bool.false_or, Bool.and_eq_true, decide_eq_true_iff, hlen]
    exact fun h => by omega
   rw [if_neg h4] at hf
   have HF := Lib.hid hf
   clear hf h4 hl hemp hhd hlen
   go_enter Tryd.func30, Tryd.ntmps30
   go_wp2
   go_loopw [4, 5, 6, 8] (fun v4 v5 n v8 wr => ∃ (pos : Nat) (acc : Int) (u : Value), v4 = .int .i64 0 ∧ v5 = .int .i64 0 ∧ v8 = u ∧ wr = w.iter a0 pos ∧ n = .int .i64 acc ∧ numberGo a1 (a0.data.toList.drop pos) acc = (r1, r2) ∧ pos ≤ a0.size) (fun _ _ _ _ wr => a0.size - wr.iterPos w.heap.size)
   case atStart => exact ⟨0, 0, _, rfl, rfl, rfl, rfl, rfl, HF.out, Nat.zero_le _⟩
   case round =>
    obtain ⟨pos, acc, u, rfl, rfl, rfl, rfl, rfl, hc, hb⟩ := hrel
    have HC := Lib.hid hc
    clear hc
    by_cases hp : pos < a0.size
    ·have HD := Lib.hid (HC.out.symm.trans (numberGo_drop a1 a0 pos acc hp)).symm
     clear HC
     by_cases ha : (a0[pos]'hp).toNat < 128
     ·have hnx : ∀ ty, (Instr.next (.pointer (some ⟨w.heap.size, 0, none⟩)) true ty).run Tryd.prog (w.iter a0 pos) = _ := fun ty => run_next_ascii w a0 pos ty hp ha
      by_cases hd : (a0[pos]'hp).toNat < 48 ∨ 57 < (a0[pos]'hp).toNat
      ·have HE := Lib.hid ((numberGo_bad hd).symm.trans HD.out)
       clear HD
       rcases hd with hd | hd
       all_goals
        go_wp2
        go_ret2
        obtain ⟨rfl, rfl⟩ := Prod.mk.inj HE.out
        exact ⟨rfl, below_iter _ _ _⟩
      ·have hd1 : 48 ≤ (a0[pos]'hp).toNat := by omega
       have hd2 : (a0[pos]'hp).toNat ≤ 57 := by omega
       by_cases hov : a1 < wrap64 (wrap64 (acc * 10) + (((a0[pos]'hp).toNat : Int) - 48))
       ·have HE := Lib.hid ((numberGo_over hd hov).symm.trans HD.out)
        clear HD hd
        go_wp2
        go_ret2
        obtain ⟨rfl, rfl⟩ := Prod.mk.inj HE.out
        exact ⟨rfl, below_iter _ _ _⟩
       ·have hov' : wrap64 (wrap64 (acc * 10) + (((a0[pos]'hp).toNat : Int) - 48)) ≤ a1 := by omega
        have HE := Lib.hid ((numberGo_on hd hov').symm.trans HD.out)
        clear HD hd hov
        go_wp2
        go_roundw
        case rel => exact ⟨pos + 1, _, _, rfl, rfl, rfl, rfl, rfl, HE.out, by omega⟩
        case measure => simp; omega
     ·obtain ⟨k1, k2⟩ := decode_high a0 pos hp (by omega)
      have hnx : ∀ ty, (Instr.next (.pointer (some ⟨w.heap.size, 0, none⟩)) true ty).run Tryd.prog (w.iter a0 pos) = _ := fun ty => run_next_any w a0 pos ty hp
      have HE := Lib.hid ((numberGo_bad (.inr (by omega))).symm.trans HD.out)
      clear HD
      have k3 : (57 : Int) < ((Utf8.decode a0 pos).1 : Int) := by omega
      go_wp2
      go_ret2
      obtain ⟨rfl, rfl⟩ := Prod.mk.inj HE.out
      exact ⟨rfl, below_iter _ _ _⟩
    ·have hnx : ∀ ty, (Instr.next (.pointer (some ⟨w.heap.size, 0, none⟩)) true ty).run Tryd.prog (w.iter a0 pos) = _ := fun ty => run_next_end w a0 pos ty hp
     have HE := Lib.hid ((numberGo_end hp).symm.trans HC.out)
     clear HC
     go_wp2
     go_ret2
     obtain ⟨rfl, rfl⟩ := Prod.mk.inj HE.out
     exact ⟨rfl, below_iter _ _ _⟩
 ·have hl : a0.data.toList = [] := List.eq_nil_of_length_eq_zero (Nat.le_zero.1 h0)
  have h4 : numberBad a0.data.toList = true := by rw [hl]; rfl
  have e1 : a0.toList = [] := (ByteArray.toList_eq a0).trans hl
  rw [if_pos h4] at hf
  have HE := Lib.hid hf
  clear hf h4 hl
  go_enter Tryd.func30, Tryd.ntmps30
  go_wp2
  go_ret2
  obtain ⟨rfl, rfl⟩ := Prod.mk.inj HE.out
  exact ⟨rfl, Below.refl _ _⟩

end Go.Proofs.YtloclimoffhbhaaDoor.PFx

namespace Go.Proofs.YtloclimoffhbhaaDoor.PFx
open Go.RowKit Go.Proofs.YtloclimoffhbhaaDoorW.PrintWords Go.Proofs.YtloclimoffhbhaaDoorW.PrintLast Go.Proofs.YtloclimoffhbhaaDoorW.PrintMore
attribute [local go_sem] max2_int min2_int max_two min_two max_three min_three max_four min_four   -- for this text's walks alone
set_option linter.unusedVariables false
set_option linter.unusedSimpArgs false

/-! ### strings_Split: function 84 (by hand) -/
def strings_Split.f (a0 a1 : ByteArray) : Option (List ByteArray) := if a0.size < 4294967281 ∧ 1 ≤ a1.size then some (Lib.splitB a1 0 (Lib.countB a0 a1) a0) else none
theorem strings_Split.calls (a0 a1 : ByteArray) (r : List ByteArray) (w : World) (hG : Hand.Good true false w) (h : strings_Split.f a0 a1 = some r) :
  Calls Tryd.prog 84 #[.string a0, .string a1] w fun e w' => ∃ v0_ : Value, e = .returned (v0_) ∧ Kd.R Kd.string 9 w' w.heap.size (fun _ => True) v0_ r ∧ Below w.heap.size w w' := by
 unfold strings_Split.f at h
 by_cases c : a0.size < 4294967281 ∧ 1 ≤ a1.size
 ·rw [if_pos c] at h
  obtain rfl := Option.some.inj h
  exact Hand.split_calls a0 a1 w hG c.1 c.2
 ·rw [if_neg c] at h; cases h

end Go.Proofs.YtloclimoffhbhaaDoor.PFx

namespace Go.Proofs.YtloclimoffhbhaaDoor.PFx
open Go.RowKit Go.Proofs.YtloclimoffhbhaaDoorW.PrintWords Go.Proofs.YtloclimoffhbhaaDoorW.PrintLast Go.Proofs.YtloclimoffhbhaaDoorW.PrintMore
attribute [local go_sem] max2_int min2_int max_two min_two max_three min_three max_four min_four   -- for this text's walks alone
set_option linter.unusedVariables false
set_option linter.unusedSimpArgs false

/-! ### cidr_mask: function 112 -/
def cidr_mask.f (a0 : Int) : Option (Int) := if a0 ≤ 0 then (some 0) else (if 0 ≤ (wrap64 (32 - (mn a0 32))) then (some (shl .u32 4294967295 (wrap64 (32 - (mn a0 32))))) else (none))
set_option maxHeartbeats 8000000 in
set_option maxRecDepth 100000 in
theorem cidr_mask.calls (a0 : Int) (r : Int) (w : World) (h : cidr_mask.f a0 = some r) :
  Calls Tryd.prog 112 #[.int .i64 a0] w fun e w' => e = .returned (.int .u32 r) ∧ Below w.heap.size w w' := by
 have HB := Aside0.mk (Below.refl w.heap.size w)
 have H : (if a0 ≤ 0 then (some 0) else (if 0 ≤ (wrap64 (32 - (mn a0 32))) then (some (shl .u32 4294967295 (wrap64 (32 - (mn a0 32))))) else (none))) = some r := h
 clear h
 by_cases c2 : a0 ≤ 0
 ·rw [if_pos c2] at H
  have c2b0 : decide (a0 ≤ 0) = true := decide_eq_true c2
  clear c2
  obtain rfl := Option.some.inj H
  go_enter Tryd.func112, Tryd.ntmps112
  go_wp2
  go_ret
  exact ⟨by first | rfl | (simp [errW_none, errW_some] <;> rfl) | (simp [*, errW_none, errW_some] <;> rfl), by repeat (first | (with_reducible first | exact HB.out | apply below_alloc | apply pw_below_drewN | apply below_drew1) | exact HB.out)⟩
 ·rw [if_neg c2] at H
  have c2b0 : decide (a0 ≤ 0) = false := decide_eq_false c2
  clear c2
  obtain ⟨ji3, hji3⟩ : ∃ j_ : Int, (mn a0 32) = j_ := ⟨_, rfl⟩
  replace H : (if 0 ≤ (wrap64 (32 - (ji3))) then (some (shl .u32 4294967295 (wrap64 (32 - (ji3))))) else (none)) = some r := by first | (rw [hji3] at H; exact H) | (simp only [hji3] at H ⊢; exact H)
  (try (have hji3h : ji3 ≤ 32 := by (rw [← hji3]; unfold mn; (repeat' split) <;> omega)))
  (try (have hji3g : ji3 ≤ 64 := by omega))
  have hji3_ : (if 32 < a0 then 32 else a0) = ji3 := hji3
  obtain ⟨ji4, hji4⟩ : ∃ j_ : Int, (wrap64 (32 - (ji3))) = j_ := ⟨_, rfl⟩
  replace H : (if 0 ≤ (ji4) then (some (shl .u32 4294967295 (ji4))) else (none)) = some r := by first | (rw [hji4] at H; exact H) | (simp only [hji4] at H ⊢; exact H)
  have hji4w : (IntKind.i64.wrap (32 - (ji3))) = ji4 := (i64_w _).trans hji4
  by_cases c5 : 0 ≤ (ji4)
  ·rw [if_pos c5] at H
   have c5b0 := eq_true c5
   have c5b1 : decide (0 ≤ (ji4)) = true := decide_eq_true c5
   clear c5
   obtain ⟨ji6, hji6⟩ : ∃ j_ : Int, (shl .u32 4294967295 (ji4)) = j_ := ⟨_, rfl⟩
   replace H : (some ji6) = some r := by first | (rw [hji6] at H; exact H) | (simp only [hji6] at H ⊢; exact H)
   have hji6_ : (IntKind.u32.wrap (4294967295 * 2 ^ min (ji4).toNat 32)) = ji6 := hji6
   have hji6z : (ji4) ≤ 32 → (IntKind.u32.wrap (4294967295 * 2 ^ (ji4).toNat)) = ji6 := shl_small hji6
   obtain rfl := Option.some.inj H
   go_enter Tryd.func112, Tryd.ntmps112
   go_wp2
   go_ret
   exact ⟨by first | rfl | (simp [errW_none, errW_some] <;> rfl) | (simp only [← hji3, ← hji4, ← hji6]; first | rfl | (simp [errW_none, errW_some] <;> rfl)) | (simp [*, errW_none, errW_some] <;> rfl), by repeat (first | (with_reducible first | exact HB.out | apply below_alloc | apply pw_below_drewN | apply below_drew1) | exact HB.out)⟩
  ·rw [if_neg c5] at H
   exact absurd H (by simp)

end Go.Proofs.YtloclimoffhbhaaDoor.PFx
