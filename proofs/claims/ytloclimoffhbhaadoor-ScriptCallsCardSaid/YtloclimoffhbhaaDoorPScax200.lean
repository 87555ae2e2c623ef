-- Walks by hand.
-- halved
import Derived.Test.YtloclimoffhbhaaDoorSq6
import Derived.Test.YtloclimoffhbhaaDoorPScax0
import Derived.Test.YtloclimoffhbhaaDoorPScax1
import Derived.Test.YtloclimoffhbhaaDoorPScax2
import Derived.Test.YtloclimoffhbhaaDoorPScax3
import Derived.Test.YtloclimoffhbhaaDoorPScax4
import Derived.Test.YtloclimoffhbhaaDoorPScax5
import Derived.Test.YtloclimoffhbhaaDoorPScax6
import Derived.Test.YtloclimoffhbhaaDoorPScax7
import Derived.Test.YtloclimoffhbhaaDoorPScax8
import Derived.Test.YtloclimoffhbhaaDoorPScax9
import Derived.Test.YtloclimoffhbhaaDoorPScax10
import Derived.Test.YtloclimoffhbhaaDoorPScax11
import Derived.Test.YtloclimoffhbhaaDoorPScax12
import Derived.Test.YtloclimoffhbhaaDoorPScax13
import Derived.Test.YtloclimoffhbhaaDoorPScax14
import Derived.Test.YtloclimoffhbhaaDoorBlk
import Derived.Test.YtloclimoffhbhaaDoorSemi
import Derived.Test.YtloclimoffhbhaaDoorFlt
import Derived.Test.YtloclimoffhbhaaDoorQry
namespace Go.Proofs.YtloclimoffhbhaaDoor.PSca
open Go.RowKit Go.Proofs.YtloclimoffhbhaaDoorW.PrintWords Go.Proofs.YtloclimoffhbhaaDoorW.PrintLast Go.Proofs.YtloclimoffhbhaaDoorW.PrintMore Go.Proofs.YtloclimoffhbhaaDoorW.PrintSq
attribute [local go_sem] max2_int min2_int max_two min_two max_three min_three max_four min_four   -- for this text's walks alone
set_option linter.unusedVariables false
set_option linter.unusedSimpArgs false

open Go.Proofs.YtloclimoffhbhaaDoor.Scr Go.Proofs.YtloclimoffhbhaaDoor.Facts Go.Proofs.YtloclimoffhbhaaDoor.Bits
theorem size46 : (Tryd.prog.info? 46).map (·.size) = some 7 := by kernel_rfl
theorem size122 : (Tryd.prog.info? 122).map (·.size) = some 1 := by kernel_rfl
def cells46 (q : S46) : List Value := [.bool q.f0, .int .i64 q.f1.f0, .int .i64 q.f1.f1, .int .u32 q.f1.f2.f0, .int .i64 q.f1.f2.f1, .int .i64 q.f1.f3, .int .i64 q.f1.f4]
theorem rd46 {l : List S46} {i : Nat} (hi : i < l.length) : rd_T46 l (i : Int) = l[i] := by simp [rd_T46, List.getD, hi]
/-- What a change's text is, as the program prints it. -/
abbrev prC (k : Nat) (q : S46) : Option ByteArray := script_PrintChange.f k q.f0 q.f1.f0 q.f1.f1 q.f1.f2.f0 q.f1.f2.f1 q.f1.f3 q.f1.f4
set_option maxHeartbeats 4000000 in
set_option maxRecDepth 100000 in
/-- A batch, printed. -/
theorem printB (k : Nat) (A : Option Addr) (c : Nat) (l : List S46) (ts : List ByteArray) (r : ByteArray) (w : World) (hG : Hand.Good false true w) (hC : Kd.C k46 w A l.length l) (hl : l.length ≤ 1000) (hts : ts.length = l.length) (hp : ∀ i (h : i < l.length) (h2 : i < ts.length), prC k l[i] = some ts[i]) (hj : strings_Join.f ts ⟨#[59, 32]⟩ = some r) (hr : r.size ≤ 1000000) :
  Calls Tryd.prog 27 #[.iface 122 (.agg #[.slice A l.length c])] w fun e w' => e = .returned (.string (⟨#[98, 97, 116, 99, 104, 32]⟩ ++ r)) ∧ Below w.heap.size w w' := by
 have HG := Aside0.mk hG
 have HC := Aside0.mk hC
 have HL := Aside0.mk hl
 have HTS := Aside0.mk hts
 have HP := Aside0.mk hp
 have HJ := Aside0.mk hj
 have HR := Aside0.mk hr
 have hta := fun v => crossbucklaw25_awake.ta_yes (xT := 20) Tryd.underlying122 v
 clear hG hC hl hts hp hj hr
 go_enter Tryd.func27, Tryd.ntmps27
 go_wp2_with (first
  | ((with_reducible refine gate_dst (N := 3) rfl ?_); refine box_event ?hg (N := 3) ?hd (cs := #[.slice none 0 0]) (t := 122) ?hr ?_; (case hd => rfl); (case hg => rfl); (case hr => first | (go_simp; done) | (go_simp; rfl)); intro gb hgb w1 hbox hb; have BO := Aside0.mk hbox; have B1 := Aside0.mk hb; have HGB := Aside0.mk hgb; clear hgb hbox hb)
  | ((with_reducible refine gate_ (.store 122 (.tmp 3) (.tmp 15)) rfl ?_); refine Hand.wpList_store_blk rfl rfl 122 (.tmp 3) (.tmp 15) rfl [.slice A l.length c] #[.slice A l.length c] rfl rfl BO.out rfl size122 (Nat.le_refl 1) (fun u hu => by simp at hu; rcases hu with rfl; rfl) rfl (fun w2 hp => ?_); have BP := Aside0.mk hp.box; have B2 := Aside0.mk (hp.bl _ B1.out (Nat.le_of_eq HGB.out.symm)); have z0 : w2.cell? ⟨gb, 0, none⟩ = some (.slice A l.length c) := (blk_cell BP.out 0).trans rfl; clear hp))
 go_loopg [4, 19] l.length (fun kq v4 v19 wl => ∃ (i : Nat) (ii : Int), i + kq = l.length ∧ v19 = .int .i64 ii ∧ Aside0 (ii = (i : Int)) ∧ Aside0 (Kd.R Kd.string 9 wl w.heap.size (fun _ => True) v4 (ts.take i)) ∧ Aside0 (Below w.heap.size w wl))
 case atStart => exact ⟨0, 0, by omega, rfl, ⟨rfl⟩, ⟨Kd.R_nil _ _ _ _ _⟩, B2⟩
 case round =>
  clear BO B1 BP B2 z0
  obtain ⟨i, ii, hi, rfl, HII, OL, BL⟩ := hrel
  have HI := Aside0.mk hi
  by_cases hlt : i < l.length
  ·have hcn : decide (ii < (l.length : Int)) = true := decide_eq_true (by have := HII.out; omega)
   have HLT := Aside0.mk hlt
   have p : 0 ≤ ii := by have := HII.out; omega
   have q : ii < (l.length : Int) := by have := HII.out; omega
   obtain ⟨ad, e1, hx0, hx1, hx2, hx3, hx4, hx5, hx6⟩ := at_T46 (Kd.C_below HC.out BL.out) ii p q
   cases e1
   obtain ⟨tx, htx⟩ : ∃ tx, tx = ts[i]'(by have := HTS.out; omega) := ⟨_, rfl⟩
   have TX := Aside0.mk (show prC k (rd_T46 l ii) = some tx by rw [HII.out, rd46 hlt, htx]; exact HP.out i hlt _)
   have TT := Aside0.mk (show ts.take i ++ [tx] = ts.take (i + 1) by rw [htx, List.take_succ_eq_append_getElem (by have := HTS.out; omega)])
   generalize rd_T46 l ii = q at hx0 hx1 hx2 hx3 hx4 hx5 hx6 TX
   replace p := eq_true p
   clear hi hlt htx
   go_wp2_with (first
    | ((with_reducible refine gate_dst (N := 6) rfl ?_); refine box_event ?hg (N := 6) ?hd (cs := #[.bool false, .int .i64 0, .int .i64 0, .int .u32 0, .int .i64 0, .int .i64 0, .int .i64 0]) (t := 46) ?hr ?_; (case hd => rfl); (case hg => rfl); (case hr => first | (go_simp; done) | (go_simp; rfl)); intro g1 hg1 w5 hbox hb; have BO := Aside0.mk hbox; have HB5 := Aside0.mk hb; have HG1 := Aside0.mk hg1; clear hg1 hbox hb)
    | ((with_reducible refine gate_ (.store 46 (.tmp 6) (.tmp 22)) rfl ?_); refine Hand.wpList_store_blk rfl rfl 46 (.tmp 6) (.tmp 22) rfl (cells46 q) (cells46 q).toArray rfl rfl BO.out rfl size46 (Nat.le_refl 7) (fun u hu => by simp [cells46] at hu; rcases hu with rfl | rfl | rfl | rfl | rfl | rfl | rfl <;> rfl) rfl (fun w6 hp => ?_); have BP := Aside0.mk hp.box; have HB6 := Aside0.mk (hp.bl _ HB5.out (Nat.le_of_eq HG1.out.symm)); have zz := cz7 BP.out; clear hp hx0 hx1 hx2 hx3 hx4 hx5 hx6)
    | (go_at_call 29; (with_reducible refine (script_PrintChange.calls k q.f0 q.f1.f0 q.f1.f1 q.f1.f2.f0 q.f1.f2.f1 q.f1.f3 q.f1.f4 tx _ (Hand.Good.below false true HG.out (below_step BL.out HB6.out) rfl rfl) TX.out).mono ?_); rintro e w7 ⟨rfl, hb⟩; have O7 := Aside0.mk (Kd.R_below OL.out (below_step HB6.out hb)); have B7 := Aside0.mk (below_step BL.out (below_step HB6.out hb)); clear hb zz)
    | ((with_reducible refine gate_builtin (b := .append) (xs := #[.tmp 23, .tmp 26]) rfl ?_); at_builtin; refine Kd.R_append Kd.string (w0 := w) w.heap.size rfl (.tmp 23) (.tmp 26) 30 9 (.string ⟨#[]⟩) 16 rfl Tryd.underlying30 info9 rfl (by decide) (by omega) u4 (ts.take i) tx [.string tx] (fun _ => True) (fun _ => False) rfl (by first | rfl | (go_simp; done) | (go_simp; rfl)) ?aP (fun _ hk => hk.elim) ?aF ?aO ?aB ?aS ?aL ?_; (case aP => rfl); (case aF => exact (fun k hk => trivial)); (case aO => exact O7.out); (case aB => exact B7.out); (case aS => exact B7.out.size); (case aL => rw [List.length_take]; have := HL.out; have := HLT.out; omega); intro v9 w9 ho hb9 hg9 hat9; rw [TT.out] at ho; have HO9 := Aside0.mk ho; have HB9 := Aside0.mk hb9; clear ho hb9 hg9 hat9))
   go_roundg (l.length - (i + 1))
   case measure => have := HI.out; have := HLT.out; omega
   case rel => exact ⟨i + 1, ii + 1, by have := HLT.out; omega, by rw [wrap64_id _ (by have := HII.out; omega) (by have := HII.out; have := HLT.out; have := HL.out; omega)], ⟨by have := HII.out; omega⟩, HO9, HB9⟩
  ·have hcn : decide (ii < (l.length : Int)) = false := decide_eq_false (by have := HII.out; omega)
   obtain rfl : i = l.length := by omega
   have OE := Aside0.mk (show Kd.R Kd.string 9 wr w.heap.size (fun _ => True) u4 ts by have := OL.out; rwa [List.take_of_length_le (by rw [HTS.out]; exact Nat.le_refl _)] at this)
   obtain ⟨A4, c4, e4⟩ := Kd.R_slice OE.out
   subst e4
   obtain ⟨_, hc4, hC4⟩ := Kd.R_reads' OE.out
   have C4 := Aside0.mk hC4
   have K4 := Aside0.mk hc4
   have hsz : (9223372036854775807 < 6 + r.size) = False := eq_false (by have := HR.out; omega)
   clear hi hlt hC4 hc4
   go_wp2_with (first
    | (go_at_call 77; (with_reducible refine (strings_Join.calls A4 c4 ts _ r _ (Kd.C_below C4.out (Below.refl _ _)) K4.out HJ.out).mono ?_); rintro e w8 ⟨rfl, hb⟩; have B8 := Aside0.mk (below_step BL.out hb); clear hb))
   go_ret
   exact ⟨rfl, B8.out⟩


open Go.Proofs.YtloclimoffhbhaaDoor.Scr Go.Proofs.YtloclimoffhbhaaDoor.Facts Go.Proofs.YtloclimoffhbhaaDoor.Bits
def bdB (q : S46) : Bool := decide (0 ≤ q.f1.f2.f0) && decide (q.f1.f2.f0 < 4294967296)
theorem bdB_iff {q : S46} : bdB q = true ↔ bdC q := by unfold bdB bdC; simp
theorem join_semi (k : List (List UInt8)) (h : (joinS k).length ≤ 100000) : strings_Join.f (k.map B) ⟨#[59, 32]⟩ = some (B (joinS k)) := by
 have hj : ∀ k : List (List UInt8), Lib.join k [59, 32] = joinS k := by
  intro k
  induction k with
  | nil => rfl
  | cons u r ih =>
   cases r with
   | nil => rw [Lib.join_cons]; simp [Lib.joinTail, joinS]
   | cons v r =>
    rw [joinS, ← ih, Lib.join_cons, Lib.join_cons]
    simp [Lib.joinTail]
 have e1 : (k.map B).map (·.data.toList) = k := by
  rw [List.map_map]
  exact (List.map_congr_left (fun x _ => rfl)).trans (List.map_id _)
 have hk : ∀ k : List (List UInt8), k.length ≤ (joinS k).length + 1 := by
  intro k
  induction k with
  | nil => simp
  | cons u r ih =>
   cases r with
   | nil => simp
   | cons v r =>
    simp only [joinS, List.length_append, List.length_cons] at ih ⊢
    omega
 have h2 := hk k
 unfold strings_Join.f
 rw [show (⟨#[59, 32]⟩ : ByteArray).data.toList = [59, 32] from rfl, e1, hj, if_pos ⟨by omega, by rw [List.length_map]; omega⟩]
 rfl
theorem ev_all {α : Type} {P : α → Prop} {g : α → Nat → Prop} : ∀ (l : List α), (∀ q ∈ l, ∃ K, ∀ k, K ≤ k → g q k) → ∃ K, ∀ k, K ≤ k → ∀ q ∈ l, g q k
 | [], _ => ⟨0, fun k _ q hq => by cases hq⟩
 | x :: l, h => by
  obtain ⟨K1, h1⟩ := h x List.mem_cons_self
  obtain ⟨K2, h2⟩ := ev_all (P := P) l (fun q hq => h q (List.mem_cons_of_mem _ hq))
  refine ⟨max K1 K2, fun k hk q hq => ?_⟩
  rcases List.mem_cons.1 hq with rfl | hq
  ·exact h1 k (by omega)
  ·exact h2 k (by omega) q hq


open Go.Proofs.YtloclimoffhbhaaDoor.Scr Go.Proofs.YtloclimoffhbhaaDoor.Facts Go.Proofs.YtloclimoffhbhaaDoor.Bits
theorem size145 : (Tryd.prog.info? 145).map (·.size) = some 12 := by kernel_rfl
theorem size147 : (Tryd.prog.info? 147).map (·.size) = some 1 := by kernel_rfl
theorem size149 : (Tryd.prog.info? 149).map (·.size) = some 0 := by kernel_rfl
theorem size150 : (Tryd.prog.info? 150).map (·.size) = some 0 := by kernel_rfl
theorem zero122 (w : World) : (zeroValue 122).run Tryd.prog w = .ok (.agg #[.slice none 0 0]) w := by go_simp; first | done | rfl
theorem zero145 (w : World) : (zeroValue 145).run Tryd.prog w = .ok (.agg #[.int .i64 0, .int .i64 0, .int .i64 0, .int .u32 0, .int .i64 0, .int .u32 0, .int .i64 0, .int .i64 0, .int .u16 0, .int .u16 0, .int .u16 0, .int .u16 0]) w := by go_simp; first | done | rfl
theorem zero147 (w : World) : (zeroValue 147).run Tryd.prog w = .ok (.agg #[.int .i64 0]) w := by go_simp; first | done | rfl
theorem zero149 (w : World) : (zeroValue 149).run Tryd.prog w = .ok (.agg #[]) w := by go_simp; first | done | rfl
theorem ta_zero {t a : TypeId} {fs : Array Field} {z : Value} (hu : Tryd.prog.underlying a = some (.struct fs)) (hne : t ≠ a) (hz : ∀ w, (zeroValue a).run Tryd.prog w = .ok z w) (v : Value) (w : World) : (Instr.typeAssert (.iface t v) 20 a true).run Tryd.prog w = .ok (.tuple #[z, .bool false]) w :=
 crossbucklaw25_awake.ta_no hu hne v w (hz w)
theorem lit_event {P : Program} {ops : Array Oper} {rest : List Oper} {o : Oper} {a : Act} {Q : Exit → Act → World → Prop} {W : World} (hgd : o.guard = none) {N : Tmp} (_hd : o.dst = some N) {cs : Array Value} {t : TypeId} {n : Nat}
  (hrun : (execOp a.eval o).run P W = .ok (.value (.slice (some ⟨W.heap.size, 0, none⟩) n n)) (W.alloc (.cells cs t (0, 0))))
  (h : ∀ g, g = W.heap.size → ∀ w1, w1.heap[g]? = some (.cells cs t (0, 0)) → Below W.heap.size W w1 → wpList P ops Q rest (a.put o.dst (.slice (some ⟨g, 0, none⟩) n n)) w1) : wpList P ops Q (o :: rest) a W :=
 Kd.event_run hgd hrun (h _ rfl _ (blk_new W _) (below_alloc (Below.refl _ _) _))
/-- A block of texts, as a list that may grow. -/
theorem R_texts {w : World} {g base t : Nat} {xs : List ByteArray} (hb : w.heap[g]? = some (.cells (xs.map Value.string).toArray t (0, 0))) (hg : base ≤ g) (hl : xs.length ≤ 1000) (hp : 0 < xs.length) : Kd.R Kd.string t w base (fun _ => True) (.slice (some ⟨g, 0, none⟩) xs.length xs.length) xs := by
 refine Kd.R_of_own (enc := Value.string) (h1 := fun _ => rfl) ?_ (fun _ _ => trivial)
 refine ⟨by rw [encs_length, Nat.mul_one], .inr ⟨g, xs.length, (xs.map Value.string).toArray, rfl, hg, hb, Nat.le_refl _, by unfold maxLen; omega, by simp, ?_⟩⟩
 rw [Nat.mul_one]
 simp only [encs]
 exact List.take_of_length_le (by simp)
/-- The words of queries, as the program's table holds them. -/
def kindW : Nat → List UInt8
 | 0 => [114, 101, 97, 99, 104]
 | 1 => [108, 111, 111, 112]
 | 2 => [104, 111, 108, 101]
 | 3 => [100, 114, 111, 112]
 | 4 => [100, 101, 110, 105, 101, 100]
 | _ => [108, 101, 102, 116]
def Kinds (w : World) : Prop := ∀ i : Nat, i < 6 → w.cell? ⟨0, i, none⟩ = some (.string ⟨(kindW i).toArray⟩)
theorem Kinds.below {w w' : World} (h : Kinds w) (hb : Below w.heap.size w w') : Kinds w' := fun i hi => pw_cell_below hb (h i hi)
theorem size9 : (Tryd.prog.info? 9).map (·.size) = some 1 := by kernel_rfl
set_option maxHeartbeats 4000000 in
set_option maxRecDepth 100000 in
theorem to0 (A : Option Addr) (n c : Nat) (a2 a3 a4 a5 a6 a7 a8 a9 a10 a11 a12 a13 a14 : Int) (w : World) :
  Calls Tryd.prog 71 #[.agg #[.int .i64 0, .slice A n c, .int .i64 a2, .int .i64 a3, .int .i64 a4, .int .u32 a5, .int .i64 a6, .int .u32 a7, .int .i64 a8, .int .i64 a9, .int .u16 a10, .int .u16 a11, .int .u16 a12, .int .u16 a13, .int .i64 a14]] w fun e w' => e = .returned (.iface 122 (.agg #[.slice A n c])) ∧ Below w.heap.size w w' := by
 have hu115 := Tryd.underlying115
 have hu113 := Tryd.underlying113
 go_enter Tryd.func71, Tryd.ntmps71
 go_wp2_with (first
  | ((with_reducible refine gate_dst (N := 1) rfl ?_); refine box_event ?hg (N := 1) ?hd (cs := #[.int .i64 0, .slice A n c, .int .i64 a2, .int .i64 a3, .int .i64 a4, .int .u32 a5, .int .i64 a6, .int .u32 a7, .int .i64 a8, .int .i64 a9, .int .u16 a10, .int .u16 a11, .int .u16 a12, .int .u16 a13, .int .i64 a14]) (t := 115) ?hr ?_; (case hd => rfl); (case hg => rfl); (case hr => first | (go_simp; done) | (go_simp; rfl)); intro g hg w1 hbox hb; have BO := Aside0.mk hbox; have B1 := Aside0.mk hb; clear hg hbox hb; have zz := cz15 BO.out))
 go_ret
 exact ⟨rfl, B1.out⟩
set_option maxHeartbeats 4000000 in
set_option maxRecDepth 100000 in
theorem to1 (A : Option Addr) (n c : Nat) (a2 a3 a4 a5 a6 a7 a8 a9 a10 a11 a12 a13 a14 : Int) (w : World) :
  Calls Tryd.prog 71 #[.agg #[.int .i64 1, .slice A n c, .int .i64 a2, .int .i64 a3, .int .i64 a4, .int .u32 a5, .int .i64 a6, .int .u32 a7, .int .i64 a8, .int .i64 a9, .int .u16 a10, .int .u16 a11, .int .u16 a12, .int .u16 a13, .int .i64 a14]] w fun e w' => e = .returned (.iface 145 (.agg #[.int .i64 a2, .int .i64 a3, .int .i64 a4, .int .u32 a5, .int .i64 a6, .int .u32 a7, .int .i64 a8, .int .i64 a9, .int .u16 a10, .int .u16 a11, .int .u16 a12, .int .u16 a13])) ∧ Below w.heap.size w w' := by
 have hu115 := Tryd.underlying115
 have hu113 := Tryd.underlying113
 go_enter Tryd.func71, Tryd.ntmps71
 go_wp2_with (first
  | ((with_reducible refine gate_dst (N := 1) rfl ?_); refine box_event ?hg (N := 1) ?hd (cs := #[.int .i64 1, .slice A n c, .int .i64 a2, .int .i64 a3, .int .i64 a4, .int .u32 a5, .int .i64 a6, .int .u32 a7, .int .i64 a8, .int .i64 a9, .int .u16 a10, .int .u16 a11, .int .u16 a12, .int .u16 a13, .int .i64 a14]) (t := 115) ?hr ?_; (case hd => rfl); (case hg => rfl); (case hr => first | (go_simp; done) | (go_simp; rfl)); intro g hg w1 hbox hb; have BO := Aside0.mk hbox; have B1 := Aside0.mk hb; clear hg hbox hb; have zz := cz15 BO.out))
 go_ret
 exact ⟨rfl, B1.out⟩
set_option maxHeartbeats 4000000 in
set_option maxRecDepth 100000 in
theorem to2 (A : Option Addr) (n c : Nat) (a2 a3 a4 a5 a6 a7 a8 a9 a10 a11 a12 a13 a14 : Int) (w : World) :
  Calls Tryd.prog 71 #[.agg #[.int .i64 2, .slice A n c, .int .i64 a2, .int .i64 a3, .int .i64 a4, .int .u32 a5, .int .i64 a6, .int .u32 a7, .int .i64 a8, .int .i64 a9, .int .u16 a10, .int .u16 a11, .int .u16 a12, .int .u16 a13, .int .i64 a14]] w fun e w' => e = .returned (.iface 149 (.agg #[])) ∧ Below w.heap.size w w' := by
 have hu115 := Tryd.underlying115
 have hu113 := Tryd.underlying113
 go_enter Tryd.func71, Tryd.ntmps71
 go_wp2_with (first
  | ((with_reducible refine gate_dst (N := 1) rfl ?_); refine box_event ?hg (N := 1) ?hd (cs := #[.int .i64 2, .slice A n c, .int .i64 a2, .int .i64 a3, .int .i64 a4, .int .u32 a5, .int .i64 a6, .int .u32 a7, .int .i64 a8, .int .i64 a9, .int .u16 a10, .int .u16 a11, .int .u16 a12, .int .u16 a13, .int .i64 a14]) (t := 115) ?hr ?_; (case hd => rfl); (case hg => rfl); (case hr => first | (go_simp; done) | (go_simp; rfl)); intro g hg w1 hbox hb; have BO := Aside0.mk hbox; have B1 := Aside0.mk hb; clear hg hbox hb; have zz := cz15 BO.out))
 go_ret
 exact ⟨rfl, B1.out⟩
set_option maxHeartbeats 4000000 in
set_option maxRecDepth 100000 in
theorem to3 (A : Option Addr) (n c : Nat) (a2 a3 a4 a5 a6 a7 a8 a9 a10 a11 a12 a13 a14 : Int) (w : World) :
  Calls Tryd.prog 71 #[.agg #[.int .i64 3, .slice A n c, .int .i64 a2, .int .i64 a3, .int .i64 a4, .int .u32 a5, .int .i64 a6, .int .u32 a7, .int .i64 a8, .int .i64 a9, .int .u16 a10, .int .u16 a11, .int .u16 a12, .int .u16 a13, .int .i64 a14]] w fun e w' => e = .returned (.iface 147 (.agg #[.int .i64 a14])) ∧ Below w.heap.size w w' := by
 have hu115 := Tryd.underlying115
 have hu113 := Tryd.underlying113
 go_enter Tryd.func71, Tryd.ntmps71
 go_wp2_with (first
  | ((with_reducible refine gate_dst (N := 1) rfl ?_); refine box_event ?hg (N := 1) ?hd (cs := #[.int .i64 3, .slice A n c, .int .i64 a2, .int .i64 a3, .int .i64 a4, .int .u32 a5, .int .i64 a6, .int .u32 a7, .int .i64 a8, .int .i64 a9, .int .u16 a10, .int .u16 a11, .int .u16 a12, .int .u16 a13, .int .i64 a14]) (t := 115) ?hr ?_; (case hd => rfl); (case hg => rfl); (case hr => first | (go_simp; done) | (go_simp; rfl)); intro g hg w1 hbox hb; have BO := Aside0.mk hbox; have B1 := Aside0.mk hb; clear hg hbox hb; have zz := cz15 BO.out))
 go_ret
 exact ⟨rfl, B1.out⟩
set_option maxHeartbeats 4000000 in
set_option maxRecDepth 100000 in
theorem to4 (A : Option Addr) (n c : Nat) (a2 a3 a4 a5 a6 a7 a8 a9 a10 a11 a12 a13 a14 : Int) (w : World) :
  Calls Tryd.prog 71 #[.agg #[.int .i64 4, .slice A n c, .int .i64 a2, .int .i64 a3, .int .i64 a4, .int .u32 a5, .int .i64 a6, .int .u32 a7, .int .i64 a8, .int .i64 a9, .int .u16 a10, .int .u16 a11, .int .u16 a12, .int .u16 a13, .int .i64 a14]] w fun e w' => e = .returned (.iface 150 (.agg #[])) ∧ Below w.heap.size w w' := by
 have hu115 := Tryd.underlying115
 have hu113 := Tryd.underlying113
 go_enter Tryd.func71, Tryd.ntmps71
 go_wp2_with (first
  | ((with_reducible refine gate_dst (N := 1) rfl ?_); refine box_event ?hg (N := 1) ?hd (cs := #[.int .i64 4, .slice A n c, .int .i64 a2, .int .i64 a3, .int .i64 a4, .int .u32 a5, .int .i64 a6, .int .u32 a7, .int .i64 a8, .int .i64 a9, .int .u16 a10, .int .u16 a11, .int .u16 a12, .int .u16 a13, .int .i64 a14]) (t := 115) ?hr ?_; (case hd => rfl); (case hg => rfl); (case hr => first | (go_simp; done) | (go_simp; rfl)); intro g hg w1 hbox hb; have BO := Aside0.mk hbox; have B1 := Aside0.mk hb; clear hg hbox hb; have zz := cz15 BO.out))
 go_ret
 exact ⟨rfl, B1.out⟩
set_option maxHeartbeats 4000000 in
set_option maxRecDepth 100000 in
theorem print_pin (w : World) :
  Calls Tryd.prog 27 #[.iface 149 (.agg #[])] w fun e w' => e = .returned (.string (⟨#[112, 105, 110]⟩)) ∧ Below w.heap.size w w' := by
 have hta := fun v => crossbucklaw25_awake.ta_yes (xT := 20) Tryd.underlying149 v
 have hta122 := fun v => ta_zero (t := 149) Tryd.underlying122 (by decide) zero122 v
 have hta145 := fun v => ta_zero (t := 149) Tryd.underlying145 (by decide) zero145 v
 go_enter Tryd.func27, Tryd.ntmps27
 go_wp2_with (first
  | ((with_reducible refine gate_dst (N := 9) rfl ?_); refine box_event ?hg (N := 9) ?hd (cs := #[]) (t := 149) ?hr ?_; (case hd => rfl); (case hg => rfl); (case hr => first | (go_simp; done) | (go_simp; rfl)); intro g1 hg1 w1 hbox hb; have BO1 := Aside0.mk hbox; have B1 := Aside0.mk (hb); have HG1 := Aside0.mk hg1; clear hg1 hbox hb)
  | ((with_reducible refine gate_ (.store 149 (.tmp 9) (.tmp 78)) rfl ?_); refine Hand.wpList_store_blk rfl rfl 149 (.tmp 9) (.tmp 78) rfl [] #[] rfl rfl BO1.out rfl size149 (Nat.le_refl 0) (fun u hu => by simp at hu) rfl (fun w1p hp => ?_); have BP1 := Aside0.mk hp.box; have B1p := Aside0.mk (hp.bl _ B1.out (Nat.le_of_eq HG1.out.symm)); clear hp))
 go_ret
 exact ⟨rfl, B1p.out⟩
set_option maxHeartbeats 4000000 in
set_option maxRecDepth 100000 in
theorem print_unpin (a14 : Int) (tn : ByteArray) (w : World) (hG : Hand.Good false true w) (hn : strconv_Itoa_76.f a14 = some tn) (hs : tn.size ≤ 1000) :
  Calls Tryd.prog 27 #[.iface 147 (.agg #[.int .i64 a14])] w fun e w' => e = .returned (.string (⟨#[117, 110, 112, 105, 110, 32]⟩ ++ tn)) ∧ Below w.heap.size w w' := by
 have hta := fun v => crossbucklaw25_awake.ta_yes (xT := 20) Tryd.underlying147 v
 have hta122 := fun v => ta_zero (t := 147) Tryd.underlying122 (by decide) zero122 v
 have hta145 := fun v => ta_zero (t := 147) Tryd.underlying145 (by decide) zero145 v
 have hta149 := fun v => ta_zero (t := 147) Tryd.underlying149 (by decide) zero149 v
 have HG := Aside0.mk hG
 have HN := Aside0.mk hn
 have hsz : (9223372036854775807 < 6 + tn.size) = False := eq_false (by omega)
 clear hG hn hs
 go_enter Tryd.func27, Tryd.ntmps27
 go_wp2_with (first
  | ((with_reducible refine gate_dst (N := 10) rfl ?_); refine box_event ?hg (N := 10) ?hd (cs := #[.int .i64 0]) (t := 147) ?hr ?_; (case hd => rfl); (case hg => rfl); (case hr => first | (go_simp; done) | (go_simp; rfl)); intro g1 hg1 w1 hbox hb; have BO1 := Aside0.mk hbox; have B1 := Aside0.mk (hb); have HG1 := Aside0.mk hg1; clear hg1 hbox hb)
  | ((with_reducible refine gate_ (.store 147 (.tmp 10) (.tmp 81)) rfl ?_); refine Hand.wpList_store_blk rfl rfl 147 (.tmp 10) (.tmp 81) rfl [.int .i64 a14] #[.int .i64 a14] rfl rfl BO1.out rfl size147 (Nat.le_refl 1) (fun u hu => by simp at hu; rcases hu with rfl; rfl) rfl (fun w1p hp => ?_); have BP1 := Aside0.mk hp.box; have B1p := Aside0.mk (hp.bl _ B1.out (Nat.le_of_eq HG1.out.symm)); have z1_0 : w1p.cell? ⟨g1, 0, none⟩ = some (.int .i64 a14) := (blk_cell BP1.out 0).trans rfl; clear hp)
  | (go_at_call 76; (with_reducible refine (strconv_Itoa_76.calls a14 tn _ (Hand.Good.below false true HG.out B1p.out rfl rfl) HN.out).mono ?_); rintro e w8 ⟨rfl, hb⟩; have B8 := Aside0.mk (below_step B1p.out hb); clear hb))
 go_ret
 exact ⟨rfl, B8.out⟩
set_option maxHeartbeats 4000000 in
set_option maxRecDepth 100000 in
theorem print_close (w : World) :
  Calls Tryd.prog 27 #[.iface 150 (.agg #[])] w fun e w' => e = .returned (.string (⟨#[99, 108, 111, 115, 101]⟩)) ∧ Below w.heap.size w w' := by
 have hta := fun v => crossbucklaw25_awake.ta_yes (xT := 20) Tryd.underlying150 v
 have hta122 := fun v => ta_zero (t := 150) Tryd.underlying122 (by decide) zero122 v
 have hta145 := fun v => ta_zero (t := 150) Tryd.underlying145 (by decide) zero145 v
 have hta149 := fun v => ta_zero (t := 150) Tryd.underlying149 (by decide) zero149 v
 have hta147 := fun v => ta_zero (t := 150) Tryd.underlying147 (by decide) zero147 v
 go_enter Tryd.func27, Tryd.ntmps27
 go_wp2_with (first
  | ((with_reducible refine gate_dst (N := 11) rfl ?_); refine box_event ?hg (N := 11) ?hd (cs := #[]) (t := 150) ?hr ?_; (case hd => rfl); (case hg => rfl); (case hr => first | (go_simp; done) | (go_simp; rfl)); intro g1 hg1 w1 hbox hb; have BO1 := Aside0.mk hbox; have B1 := Aside0.mk (hb); have HG1 := Aside0.mk hg1; clear hg1 hbox hb)
  | ((with_reducible refine gate_ (.store 150 (.tmp 11) (.tmp 88)) rfl ?_); refine Hand.wpList_store_blk rfl rfl 150 (.tmp 11) (.tmp 88) rfl [] #[] rfl rfl BO1.out rfl size150 (Nat.le_refl 0) (fun u hu => by simp at hu) rfl (fun w1p hp => ?_); have BP1 := Aside0.mk hp.box; have B1p := Aside0.mk (hp.bl _ B1.out (Nat.le_of_eq HG1.out.symm)); clear hp))
 go_ret
 exact ⟨rfl, B1p.out⟩


open Go.Proofs.YtloclimoffhbhaaDoor.Scr Go.Proofs.YtloclimoffhbhaaDoor.Facts Go.Proofs.YtloclimoffhbhaaDoor.Bits
set_option maxHeartbeats 8000000 in
set_option maxRecDepth 100000 in
theorem print_ask0 (k : Nat) (a3 a4 a5 a6 a7 a8 a9 a10 a11 a12 a13 : Int) (tf tt fl r : ByteArray) (w : World) (hG : Hand.Good false true w) (hK : Kinds w) (hf : strconv_Itoa_76.f a3 = some tf) (ht : strconv_Itoa_76.f a4 = some tt) (hfl : filter_Print.f k a5 a6 a7 a8 a9 a10 a11 a12 a13 = some fl) (hj : strings_Join.f [⟨#[97, 115, 107]⟩, ⟨(kindW 0).toArray⟩, tf, tt, fl] ⟨#[32]⟩ = some r) :
  Calls Tryd.prog 27 #[.iface 145 (.agg #[.int .i64 0, .int .i64 a3, .int .i64 a4, .int .u32 a5, .int .i64 a6, .int .u32 a7, .int .i64 a8, .int .i64 a9, .int .u16 a10, .int .u16 a11, .int .u16 a12, .int .u16 a13])] w fun e w' => e = .returned (.string r) ∧ Below w.heap.size w w' := by
 have hta := fun v => crossbucklaw25_awake.ta_yes (xT := 20) Tryd.underlying145 v
 have hta122 := fun v => ta_zero (t := 145) Tryd.underlying122 (by decide) zero122 v
 have HG := Aside0.mk hG
 have HK := Aside0.mk hK
 have HF := Aside0.mk hf
 have HT := Aside0.mk ht
 have HFL := Aside0.mk hfl
 have HJ := Aside0.mk hj
 clear hG hK hf hfl hj ht
 go_enter Tryd.func27, Tryd.ntmps27
 go_wp2_with (first
  | (go_at_call 76; (with_reducible refine (strconv_Itoa_76.calls a3 tf _ (Hand.Good.below false true HG.out (below_alloc (Below.refl _ _) _) rfl rfl) HF.out).mono ?_); rintro e w2 ⟨rfl, hb⟩; have B2 := Aside0.mk (below_step (below_alloc (Below.refl w.heap.size w) _) hb); have BP2 := Aside0.mk (blk_below (g := w.heap.size) (o := .cells #[.int .i64 0, .int .i64 a3, .int .i64 a4, .int .u32 a5, .int .i64 a6, .int .u32 a7, .int .i64 a8, .int .i64 a9, .int .u16 a10, .int .u16 a11, .int .u16 a12, .int .u16 a13] 145 (0, 0)) (blk_new w _) hb); clear hb; have z_z := cz12 BP2.out)
  | ((with_reducible refine gate_dst (N := 39) rfl ?_); refine lit_event ?hg (N := 39) ?hd (cs := #[.string ⟨#[97, 115, 107]⟩, .string ⟨#[110, 111, 110, 101]⟩, .string tf]) (t := 9) (n := 3) ?hr ?_; (case hd => rfl); (case hg => rfl); (case hr => first | (go_simp; done) | (go_simp; rfl)); intro g3 hg3 w3 hbox hb; have BO3 := Aside0.mk hbox; have B3 := Aside0.mk (below_step B2.out hb); have BP3 := Aside0.mk (blk_below BP2.out hb); have HG3 := Aside0.mk (show w.heap.size ≤ g3 by rw [hg3]; exact below_size B2.out); have NE := Aside0.mk (show w.heap.size ≠ g3 by rw [hg3]; exact Nat.ne_of_lt (blk_lt BP2.out)); clear hg3 hbox hb; clear z_z; have z_z := cz12 BP3.out; have zk : w3.cell? ⟨0, 0, none⟩ = some (.string ⟨(kindW 0).toArray⟩) := HK.out.below B3.out 0 (by omega))
  | ((with_reducible refine gate_ (.store 9 (.tmp 56) (.tmp 55)) rfl ?_); refine Hand.wpList_store_blk (g := g3) (off := 1) rfl rfl 9 (.tmp 56) (.tmp 55) rfl [.string ⟨(kindW 0).toArray⟩] #[.string ⟨#[97, 115, 107]⟩, .string ⟨(kindW 0).toArray⟩, .string tf] ?hp rfl BO3.out rfl size9 (show 1 + 1 ≤ 3 by decide) (fun u hu => by simp at hu; rcases hu with rfl; rfl) rfl (fun w4 hp => ?_); (case hp => first | rfl | (go_simp; done) | (go_simp; rfl)); have BO4 := Aside0.mk hp.box; have B4 := Aside0.mk (hp.bl _ B3.out HG3.out); have BP4 := Aside0.mk (hp.keep BP3.out NE.out); have R4 := Aside0.mk (R_texts (base := w.heap.size) (xs := [⟨#[97, 115, 107]⟩, ⟨(kindW 0).toArray⟩, tf]) BO4.out HG3.out (show 3 ≤ 1000 by decide) (show 0 < 3 by decide)); clear hp zk; clear z_z; have z_z := cz12 BP4.out)
  | (go_at_call 76; (with_reducible refine (strconv_Itoa_76.calls a4 tt _ (Hand.Good.below false true HG.out B4.out rfl rfl) HT.out).mono ?_); rintro e w5 ⟨rfl, hb⟩; have B5 := Aside0.mk (below_step B4.out hb); have BP5 := Aside0.mk (blk_below BP4.out hb); have R5 := Aside0.mk (Kd.R_below R4.out hb); clear hb; clear z_z; have z_z := cz12 BP5.out)
  | ((with_reducible refine gate_builtin (b := .append) (xs := #[.tmp 61, .tmp 66]) rfl ?_); at_builtin; refine Kd.R_append Kd.string (w0 := w) w.heap.size rfl (.tmp 61) (.tmp 66) 30 9 (.string ⟨#[]⟩) 16 rfl Tryd.underlying30 info9 rfl (by decide) (by omega) _ [⟨#[97, 115, 107]⟩, ⟨(kindW 0).toArray⟩, tf] tt [.string tt] (fun _ => True) (fun _ => False) rfl (by first | rfl | (go_simp; done) | (go_simp; rfl)) ?aP (fun _ hk => hk.elim) ?aF ?aO ?aB ?aS ?aL ?_; (case aP => rfl); (case aF => exact (fun k hk => trivial)); (case aO => exact R5.out); (case aB => exact B5.out); (case aS => exact B5.out.size); (case aL => (show (3 + 1) * 16 ≤ _; decide)); intro v6 w6 ho hb9 hg9 hat9; have R6 := Aside0.mk ho; have B6 := Aside0.mk hb9; have BP6 := Aside0.mk (blk_grown BP5.out hg9 (fun e => NE.out (Option.some.inj e))); clear ho hb9 hg9 hat9; clear z_z; have z_z := cz12 BP6.out)
  | (go_at_call 66; (with_reducible refine (filter_Print.calls k a5 a6 a7 a8 a9 a10 a11 a12 a13 fl _ (Hand.Good.below false true HG.out B6.out rfl rfl) HFL.out).mono ?_); rintro e w7 ⟨rfl, hb⟩; have B7 := Aside0.mk (below_step B6.out hb); have R7 := Aside0.mk (Kd.R_below R6.out hb); clear hb; clear z_z)
  | ((with_reducible refine gate_builtin (b := .append) (xs := #[.tmp 68, .tmp 73]) rfl ?_); at_builtin; refine Kd.R_append Kd.string (w0 := w) w.heap.size rfl (.tmp 68) (.tmp 73) 30 9 (.string ⟨#[]⟩) 16 rfl Tryd.underlying30 info9 rfl (by decide) (by omega) _ ([⟨#[97, 115, 107]⟩, ⟨(kindW 0).toArray⟩, tf, tt]) fl [.string fl] (fun _ => True) (fun _ => False) rfl (by first | rfl | (go_simp; done) | (go_simp; rfl)) ?aP (fun _ hk => hk.elim) ?aF ?aO ?aB ?aS ?aL ?_; (case aP => rfl); (case aF => exact (fun k hk => trivial)); (case aO => exact R7.out); (case aB => exact B7.out); (case aS => exact B7.out.size); (case aL => simp); intro v8 w8 ho hb9 hg9 hat9; have R8 := Aside0.mk (show Kd.R Kd.string 9 w8 w.heap.size (fun _ => True) v8 [⟨#[97, 115, 107]⟩, ⟨(kindW 0).toArray⟩, tf, tt, fl] from ho); have B8 := Aside0.mk hb9; clear ho hb9 hg9 hat9; obtain ⟨A8, c8, e8⟩ := Kd.R_slice R8.out; subst e8; obtain ⟨_, hc8, hC8⟩ := Kd.R_reads' R8.out; have C8 := Aside0.mk hC8; have K8 := Aside0.mk hc8; clear hc8 hC8)
  | (go_at_call 77; refine (strings_Join.calls A8 c8 [⟨#[97, 115, 107]⟩, ⟨(kindW 0).toArray⟩, tf, tt, fl] _ r _ C8.out K8.out HJ.out).mono ?_; rintro e w9 ⟨rfl, hb⟩; have B9 := Aside0.mk (below_step B8.out hb); clear hb))
 go_ret
 exact ⟨rfl, B9.out⟩
set_option maxHeartbeats 8000000 in
set_option maxRecDepth 100000 in
theorem print_ask (k : Nat) (m : Nat) (a3 a4 a5 a6 a7 a8 a9 a10 a11 a12 a13 : Int) (tf fl r : ByteArray) (w : World) (hG : Hand.Good false true w) (hK : Kinds w) (hf : strconv_Itoa_76.f a3 = some tf) (h0 : 0 < m) (h6 : m < 6) (hfl : filter_Print.f k a5 a6 a7 a8 a9 a10 a11 a12 a13 = some fl) (hj : strings_Join.f [⟨#[97, 115, 107]⟩, ⟨(kindW m).toArray⟩, tf, fl] ⟨#[32]⟩ = some r) :
  Calls Tryd.prog 27 #[.iface 145 (.agg #[.int .i64 (m : Int), .int .i64 a3, .int .i64 a4, .int .u32 a5, .int .i64 a6, .int .u32 a7, .int .i64 a8, .int .i64 a9, .int .u16 a10, .int .u16 a11, .int .u16 a12, .int .u16 a13])] w fun e w' => e = .returned (.string r) ∧ Below w.heap.size w w' := by
 have hta := fun v => crossbucklaw25_awake.ta_yes (xT := 20) Tryd.underlying145 v
 have hta122 := fun v => ta_zero (t := 145) Tryd.underlying122 (by decide) zero122 v
 have HG := Aside0.mk hG
 have HK := Aside0.mk hK
 have HF := Aside0.mk hf
 have p0 : decide (0 ≤ (m : Int)) = true := decide_eq_true (by omega)
 have p1 : decide ((m : Int) < 6) = true := decide_eq_true (by omega)
 have p2 : ((m : Int) == 0) = false := beq_eq_false_iff_ne.2 (by omega)
 have p3 : (0 ≤ (m : Int)) = True := eq_true (by omega)
 have p4 : ((m : Int) < 6) = True := eq_true (by omega)
 have p5 : (m < 6) = True := eq_true h6
 have HFL := Aside0.mk hfl
 have HJ := Aside0.mk hj
 clear hG hK hf hfl hj
 go_enter Tryd.func27, Tryd.ntmps27
 go_wp2_with (first
  | (go_at_call 76; (with_reducible refine (strconv_Itoa_76.calls a3 tf _ (Hand.Good.below false true HG.out (below_alloc (Below.refl _ _) _) rfl rfl) HF.out).mono ?_); rintro e w2 ⟨rfl, hb⟩; have B2 := Aside0.mk (below_step (below_alloc (Below.refl w.heap.size w) _) hb); have BP2 := Aside0.mk (blk_below (g := w.heap.size) (o := .cells #[.int .i64 (m : Int), .int .i64 a3, .int .i64 a4, .int .u32 a5, .int .i64 a6, .int .u32 a7, .int .i64 a8, .int .i64 a9, .int .u16 a10, .int .u16 a11, .int .u16 a12, .int .u16 a13] 145 (0, 0)) (blk_new w _) hb); clear hb; have z_z := cz12 BP2.out)
  | ((with_reducible refine gate_dst (N := 39) rfl ?_); refine lit_event ?hg (N := 39) ?hd (cs := #[.string ⟨#[97, 115, 107]⟩, .string ⟨#[110, 111, 110, 101]⟩, .string tf]) (t := 9) (n := 3) ?hr ?_; (case hd => rfl); (case hg => rfl); (case hr => first | (go_simp; done) | (go_simp; rfl)); intro g3 hg3 w3 hbox hb; have BO3 := Aside0.mk hbox; have B3 := Aside0.mk (below_step B2.out hb); have BP3 := Aside0.mk (blk_below BP2.out hb); have HG3 := Aside0.mk (show w.heap.size ≤ g3 by rw [hg3]; exact below_size B2.out); have NE := Aside0.mk (show w.heap.size ≠ g3 by rw [hg3]; exact Nat.ne_of_lt (blk_lt BP2.out)); clear hg3 hbox hb; clear z_z; have z_z := cz12 BP3.out; have zk : w3.cell? ⟨0, m, none⟩ = some (.string ⟨(kindW m).toArray⟩) := HK.out.below B3.out m (by omega))
  | ((with_reducible refine gate_ (.store 9 (.tmp 56) (.tmp 55)) rfl ?_); refine Hand.wpList_store_blk (g := g3) (off := 1) rfl rfl 9 (.tmp 56) (.tmp 55) rfl [.string ⟨(kindW m).toArray⟩] #[.string ⟨#[97, 115, 107]⟩, .string ⟨(kindW m).toArray⟩, .string tf] ?hp rfl BO3.out rfl size9 (show 1 + 1 ≤ 3 by decide) (fun u hu => by simp at hu; rcases hu with rfl; rfl) rfl (fun w4 hp => ?_); (case hp => first | rfl | (go_simp; done) | (go_simp; rfl)); have BO4 := Aside0.mk hp.box; have B4 := Aside0.mk (hp.bl _ B3.out HG3.out); have BP4 := Aside0.mk (hp.keep BP3.out NE.out); have R4 := Aside0.mk (R_texts (base := w.heap.size) (xs := [⟨#[97, 115, 107]⟩, ⟨(kindW m).toArray⟩, tf]) BO4.out HG3.out (show 3 ≤ 1000 by decide) (show 0 < 3 by decide)); clear hp zk; clear z_z; have z_z := cz12 BP4.out)
  | (go_at_call 66; (with_reducible refine (filter_Print.calls k a5 a6 a7 a8 a9 a10 a11 a12 a13 fl _ (Hand.Good.below false true HG.out B4.out rfl rfl) HFL.out).mono ?_); rintro e w7 ⟨rfl, hb⟩; have B7 := Aside0.mk (below_step B4.out hb); have R7 := Aside0.mk (Kd.R_below R4.out hb); clear hb; clear z_z)
  | ((with_reducible refine gate_builtin (b := .append) (xs := #[.tmp 68, .tmp 73]) rfl ?_); at_builtin; refine Kd.R_append Kd.string (w0 := w) w.heap.size rfl (.tmp 68) (.tmp 73) 30 9 (.string ⟨#[]⟩) 16 rfl Tryd.underlying30 info9 rfl (by decide) (by omega) _ ([⟨#[97, 115, 107]⟩, ⟨(kindW m).toArray⟩, tf]) fl [.string fl] (fun _ => True) (fun _ => False) rfl (by first | rfl | (go_simp; done) | (go_simp; rfl)) ?aP (fun _ hk => hk.elim) ?aF ?aO ?aB ?aS ?aL ?_; (case aP => rfl); (case aF => exact (fun k hk => trivial)); (case aO => exact R7.out); (case aB => exact B7.out); (case aS => exact B7.out.size); (case aL => simp); intro v8 w8 ho hb9 hg9 hat9; have R8 := Aside0.mk (show Kd.R Kd.string 9 w8 w.heap.size (fun _ => True) v8 [⟨#[97, 115, 107]⟩, ⟨(kindW m).toArray⟩, tf, fl] from ho); have B8 := Aside0.mk hb9; clear ho hb9 hg9 hat9; obtain ⟨A8, c8, e8⟩ := Kd.R_slice R8.out; subst e8; obtain ⟨_, hc8, hC8⟩ := Kd.R_reads' R8.out; have C8 := Aside0.mk hC8; have K8 := Aside0.mk hc8; clear hc8 hC8)
  | (go_at_call 77; refine (strings_Join.calls A8 c8 [⟨#[97, 115, 107]⟩, ⟨(kindW m).toArray⟩, tf, fl] _ r _ C8.out K8.out HJ.out).mono ?_; rintro e w9 ⟨rfl, hb⟩; have B9 := Aside0.mk (below_step B8.out hb); clear hb))
 go_ret
 exact ⟨rfl, B9.out⟩


open Go.Proofs.YtloclimoffhbhaaDoor.Scr Go.Proofs.YtloclimoffhbhaaDoor.Facts Go.Proofs.YtloclimoffhbhaaDoor.Bits
theorem size141 : (Tryd.prog.info? 141).map (·.size) = some 12 := by kernel_rfl
theorem size3_ : (Tryd.prog.info? 3).map (·.size) = some 1 := by kernel_rfl
theorem put12 (a b c d e f g h i j k l a' b' c' d' e' f' g' h' i' j' k' l' : Value) : Hand.putSeg #[a, b, c, d, e, f, g, h, i, j, k, l] 0 [a', b', c', d', e', f', g', h', i', j', k', l'] = #[a', b', c', d', e', f', g', h', i', j', k', l'] := by simp [Hand.putSeg]
theorem fits_all {v : List Value} (h : v.all Value.oneCell' = true) : ∀ u ∈ v, Value.oneCell' u = true := List.all_eq_true.1 h
theorem ix151 (kw : Nat → ByteArray) (i : Nat) (h : i < 6) (w : World) : (Instr.index 151 (.agg #[.string (kw 0), .string (kw 1), .string (kw 2), .string (kw 3), .string (kw 4), .string (kw 5)]) (.int .i64 (i : Int))).run Tryd.prog w = .ok (.string (kw i)) w := by
 match i, h with
 | 0, _ => simp [Instr.index, run_underlying Tryd.underlying151, asIntOf, go_sem]
 | 1, _ => simp [Instr.index, run_underlying Tryd.underlying151, asIntOf, go_sem]
 | 2, _ => simp [Instr.index, run_underlying Tryd.underlying151, asIntOf, go_sem]
 | 3, _ => simp [Instr.index, run_underlying Tryd.underlying151, asIntOf, go_sem]
 | 4, _ => simp [Instr.index, run_underlying Tryd.underlying151, asIntOf, go_sem]
 | 5, _ => simp [Instr.index, run_underlying Tryd.underlying151, asIntOf, go_sem]
theorem cell_put {w w1 : World} {g : Nat} {t : TypeId} {cs : Array Value} (hp : Hand.Put w w1 g t cs) {a : Addr} {v : Value} (h : w.cell? a = some v) (hne : a.block ≠ g) : w1.cell? a = some v := by
 unfold World.cell? at *
 rw [hp.far a.block hne]
 exact h
theorem kind_ne : ∀ m, m < 6 → ∀ i, i < m → kindW i ≠ kindW m := by decide
theorem toList_inj {a b : ByteArray} (h : a.toList = b.toList) : a = b := by rw [ByteArray.toList_eq, ByteArray.toList_eq] at h; cases a; cases b; congr; exact Array.toList_inj.1 h
def query_.T17 : Bool × List (List Nat × List Nat) := (true, [([], []), ([], []), ([1], [1]), ([2], [2]), ([], []), ([0, 3, 4], [0, 3, 4]), ([], []), ([6, 5, 0, 1, 2, 3, 4, 5, 6], [5, 6])])
def query_.B17 : List Nat := [0, 0, 2, 6, 0, 31, 0, 127]
theorem query_.tab17 : rtab .any (opsOf Tryd.f82 17) = query_.T17 := by kernel_rfl
theorem query_.bits17 : waitsOk query_.T17.2 query_.B17 = true := by kernel_rfl
set_option maxHeartbeats 2000000 in
set_option maxRecDepth 100000 in
theorem queryS (kN kF : Nat) (s : ByteArray) (t : List ByteArray) (m : Nat) (n0 : Int) (tf : ByteArray) (f0 f1 f2 f3 f4 f5 f6 f7 f8 : Int) (w : World) (hG : Hand.Good true false w) (hK : Kinds w) (hs : strings_Split.f s ⟨#[32]⟩ = some t) (hm0 : 0 < m) (hm6 : m < 6) (ht : rdOf ByteArray.empty t 0 = ⟨(kindW m).toArray⟩) (hl : t.length = 7)
  (hn : script_numbers.f kN ((t.take 2).drop 1) = some ([n0], 0)) (hj : strings_Join.f (t.drop 2) ⟨#[32]⟩ = some tf) (hf : filter_Parse.f kF tf = some (f0, f1, f2, f3, f4, f5, f6, f7, f8, 0)) :
  Calls Tryd.prog 82 #[.string s] w fun e w' => e = .returned (.tuple #[.agg #[.int .i64 (m : Int), .int .i64 n0, .int .i64 0, .int .u32 f0, .int .i64 f1, .int .u32 f2, .int .i64 f3, .int .i64 f4, .int .u16 f5, .int .u16 f6, .int .u16 f7, .int .u16 f8], .int .i64 0]) ∧ Below w.heap.size w w' := by
 have HG := Aside0.mk hG
 have HK := Aside0.mk hK
 have HS := Aside0.mk hs
 have HL := Aside0.mk hl
 have HT := Aside0.mk ht
 have HN := Aside0.mk hn
 have HJ := Aside0.mk hj
 have HF := Aside0.mk hf
 obtain ⟨kw, hkw⟩ : ∃ kw : Nat → ByteArray, ∀ i, kw i = ⟨(kindW i).toArray⟩ := ⟨_, fun _ => rfl⟩
 have KW := Aside0.mk hkw
 have B0 := Aside0.mk (Below.refl w.heap.size w)
 clear hG hK hs hl ht hn hj hf hkw
 go_enter Tryd.func82, Tryd.ntmps82
 go_wp2_with (first
  | ((with_reducible refine gate_dst (N := 2) rfl ?_); refine box_event ?hg (N := 2) ?hd (cs := #[.int .i64 0, .int .i64 0, .int .i64 0, .int .u32 0, .int .i64 0, .int .u32 0, .int .i64 0, .int .i64 0, .int .u16 0, .int .u16 0, .int .u16 0, .int .u16 0]) (t := 141) ?hr ?_; (case hd => rfl); (case hg => rfl); (case hr => first | (go_simp; done) | (go_simp; rfl)); intro g2 hg2 w2 hbox hb; have A2 := Aside0.mk hbox; have B2 := Aside0.mk hb; have G2 := Aside0.mk (Nat.le_of_eq hg2.symm); clear hg2 hbox hb)
  | (go_at_call 84; (with_reducible refine (strings_Split.calls s ⟨#[32]⟩ t _ (Hand.Good.below true false HG.out B2.out rfl rfl) HS.out).mono ?_); rintro e w3 ⟨v3, rfl, hr, hb⟩; obtain ⟨A3, c3, e3⟩ := Kd.R_slice hr; subst e3; obtain ⟨_, hc3, hC3⟩ := Kd.R_reads' hr; have C3 := Aside0.mk hC3; have K3 := Aside0.mk hc3; have B3 := Aside0.mk (below_step B2.out hb); have A3' := Aside0.mk (blk_below A2.out hb); clear hr hb hc3 hC3; have zk0 : w3.cell? ⟨0, 0, none⟩ = some (.string (kw 0)) := (by rw [KW.out]; exact Kinds.below HK.out B3.out 0 (by decide)); have zk1 : w3.cell? ⟨0, 1, none⟩ = some (.string (kw 1)) := (by rw [KW.out]; exact Kinds.below HK.out B3.out 1 (by decide)); have zk2 : w3.cell? ⟨0, 2, none⟩ = some (.string (kw 2)) := (by rw [KW.out]; exact Kinds.below HK.out B3.out 2 (by decide)); have zk3 : w3.cell? ⟨0, 3, none⟩ = some (.string (kw 3)) := (by rw [KW.out]; exact Kinds.below HK.out B3.out 3 (by decide)); have zk4 : w3.cell? ⟨0, 4, none⟩ = some (.string (kw 4)) := (by rw [KW.out]; exact Kinds.below HK.out B3.out 4 (by decide)); have zk5 : w3.cell? ⟨0, 5, none⟩ = some (.string (kw 5)) := (by rw [KW.out]; exact Kinds.below HK.out B3.out 5 (by decide))))
 obtain ⟨ad, ead, hx⟩ := Kd.at_string C3.out 0 (by decide) (by rw [HL.out]; decide)
 cases ead
 obtain ⟨t0, ht0⟩ : ∃ t0, t0 = rdOf ByteArray.empty t 0 := ⟨_, rfl⟩
 rw [← ht0] at hx
 have T0 := Aside0.mk (show t0 = ⟨(kindW m).toArray⟩ by rw [ht0]; exact HT.out)
 replace hx : w3.cell? ad = some (.string t0) := hx
 have lp : decide (0 < t.length) = true := decide_eq_true (by rw [HL.out]; decide)
 have lp1 : (0 < t.length) = True := eq_true (by rw [HL.out]; decide)
 have lp2 : decide ((0 : Int) < (t.length : Int)) = true := decide_eq_true (by rw [HL.out]; decide)
 clear ht0
 go_loopg [15] 6 (fun kq v15 wl => ∃ (i : Nat) (ii : Int), i + kq = 6 ∧ v15 = .int .i64 ii ∧ wl = w3 ∧ Aside0 (ii = (i : Int)) ∧ Aside0 (i ≤ m))
 case atStart => exact ⟨0, 0, by omega, rfl, rfl, ⟨rfl⟩, ⟨Nat.zero_le _⟩⟩
 case round =>
  clear zk0 zk1 zk2 zk3 zk4 zk5
  obtain ⟨i, ii, hi, rfl, rfl, HII, HIM⟩ := hrel
  have HI := Aside0.mk hi
  have hi6 : i < 6 := by have := HIM.out; omega
  have hcn : decide (ii < 6) = true := decide_eq_true (by have := HII.out; omega)
  have hix : ∀ W, (Instr.index 151 (.agg #[.string (kw 0), .string (kw 1), .string (kw 2), .string (kw 3), .string (kw 4), .string (kw 5)]) (.int .i64 ii)).run Tryd.prog W = .ok (.string (kw i)) W := by rw [HII.out]; exact fun W => ix151 kw i hi6 W
  clear hi
  rcases Nat.lt_or_ge i m with hlt | hge
  ·have hne : t0 ≠ kw i := by
    rw [T0.out, KW.out i]
    intro e
    exact kind_ne m (by omega) i hlt (congrArg (fun b : ByteArray => b.data.toList) e).symm
   have hne3 : (t0.toList == (kw i).toList) = false := beq_eq_false_iff_ne.2 (fun e => hne (toList_inj e))
   have hne4 : (t0.toList != (kw i).toList) = true := bne_iff_ne.2 (fun e => hne (toList_inj e))
   have HLT := Aside0.mk hlt
   clear hlt hne
   go_wp2
   go_roundg (6 - (i + 1))
   case measure => have := HI.out; omega
   case rel => exact ⟨i + 1, ii + 1, by have := HLT.out; omega, by rw [wrap64_id _ (by have := HII.out; omega) (by have := HII.out; omega)], rfl, ⟨by have := HII.out; omega⟩, ⟨by have := HLT.out; omega⟩⟩
  ·obtain him : m = i := by have := HIM.out; omega
   subst him

   have heq : t0 = kw m := by rw [T0.out, KW.out]
   have hne3 : (t0.toList == (kw m).toList) = true := beq_iff_eq.2 (by rw [heq])
   have hne4 : (t0.toList != (kw m).toList) = false := bne_eq_false_iff_eq.2 (by rw [heq])
   have hii1 : (ii == 0) = false := by rw [HII.out]; exact beq_eq_false_iff_ne.2 (by omega)
   have hln : (t.length : Int) = 7 := by rw [HL.out]; rfl
   have hln1 : ((t.length : Int) != 7) = false := bne_eq_false_iff_eq.2 hln
   have hln2 : ((t.length : Int) == 7) = true := beq_iff_eq.2 hln
   obtain ⟨i024, hi024, _, hsz24, _⟩ := info_parts info9
   obtain ⟨A4, hcut4, hA4, hC4⟩ := print_mid_of (P := Tryd.prog) Value.string (⟨#[]⟩ : ByteArray) 30 9 .i64 .i64 Tryd.underlying30 hi024 hsz24 (some ad) c3 t 1 2 (by decide) (by decide) (by omega) K3.out
   obtain ⟨A5, hcut5, hA5, hC5⟩ := print_drop_of (P := Tryd.prog) Value.string (⟨#[]⟩ : ByteArray) 30 9 .i64 Tryd.underlying30 hi024 hsz24 (some ad) c3 t 2 (by decide) (by omega) K3.out
   simp only [show (1 : Int).toNat = 1 from rfl, show (2 : Int).toNat = 2 from rfl] at hcut4 hcut5 hC4 hC5 hA4 hA5
   have C4' := Kd.C_of_reads (h1 := fun _ => rfl) (hA4 _ (Kd.reads_of_C C3.out))
   have C5' := Kd.C_of_reads (h1 := fun _ => rfl) (hA5 _ (Kd.reads_of_C C3.out))
   have HN4' := HN.out
   have HJ5' := HJ.out
   clear hA4 hA5
   generalize (t.take 2).drop 1 = t4 at hcut4 hC4 C4' HN4'
   generalize t.drop 2 = t5 at hcut5 hC5 C5' HJ5'
   generalize c3 - 1 = c4 at hcut4 hC4
   generalize c3 - 2 = c5 at hcut5 hC5
   have C4 : Aside0 (Kd.C Kd.string _ A4 t4.length t4) := ⟨C4'⟩
   have C5 : Aside0 (Kd.C Kd.string _ A5 t5.length t5) := ⟨C5'⟩
   have HN4 := Aside0.mk HN4'
   have HJ5 := Aside0.mk HJ5'
   have K4 := Aside0.mk hC4
   have K5 := Aside0.mk hC5
   clear hC4 hC5 C4' C5' HN4' HJ5' hi024 hsz24 heq hge hln
   go_wp2_with (first
    | (go_at_call 108; (with_reducible refine (script_numbers.calls kN A4 c4 t4 [n0] 0 _ C4.out K4.out HN4.out).mono ?_); rintro e w4 ⟨v4, rfl, hr, hb⟩; obtain ⟨An, cn, en⟩ := Kd.R_slice hr; subst en; have R4 := Aside0.mk hr; have B4 := Aside0.mk (below_step B3.out hb); have B34 := Aside0.mk hb; have A4' := Aside0.mk (blk_below A3'.out hb); clear hr hb)
    | (go_at_call 77; (with_reducible refine (strings_Join.calls A5 c5 t5 _ tf _ (Kd.C_below C5.out B34.out) K5.out HJ5.out).mono ?_); rintro e w5 ⟨rfl, hb⟩; have R5 := Aside0.mk (Kd.R_lower (Kd.R_below R4.out hb) B3.out.size); have B5 := Aside0.mk (below_step B4.out hb); have A5' := Aside0.mk (blk_below A4'.out hb); clear hb)
    | (go_at_call 64; (with_reducible refine (filter_Parse.calls kF tf f0 f1 f2 f3 f4 f5 f6 f7 f8 0 _ (Hand.Good.below true false HG.out B5.out rfl rfl) HF.out).mono ?_); rintro e w6 ⟨rfl, hb⟩; have R6 := Aside0.mk (Kd.R_below R5.out hb); have B6 := Aside0.mk (below_step B5.out hb); have A6' := Aside0.mk (blk_below A5'.out hb); clear hb))
   have BF := Aside0.mk (below_alloc B6.out (.cells #[.int .u32 f0, .int .i64 f1, .int .u32 f2, .int .i64 f3, .int .i64 f4, .int .u16 f5, .int .u16 f6, .int .u16 f7, .int .u16 f8] 77 (0, 0)))
   have F2 := Aside0.mk (blk_below A6'.out (below_alloc (Below.refl w6.heap.size w6) (.cells #[.int .u32 f0, .int .i64 f1, .int .u32 f2, .int .i64 f3, .int .i64 f4, .int .u16 f5, .int .u16 f6, .int .u16 f7, .int .u16 f8] 77 (0, 0))))
   have FF := Aside0.mk (blk_new w6 (.cells #[.int .u32 f0, .int .i64 f1, .int .u32 f2, .int .i64 f3, .int .i64 f4, .int .u16 f5, .int .u16 f6, .int .u16 f7, .int .u16 f8] 77 (0, 0)))
   have FR := Aside0.mk (Kd.R_alloc R6.out (.cells #[.int .u32 f0, .int .i64 f1, .int .u32 f2, .int .i64 f3, .int .i64 f4, .int .u16 f5, .int .u16 f6, .int .u16 f7, .int .u16 f8] 77 (0, 0)))
   have hii := HII.out
   subst hii
   obtain ⟨adn, eadn, _⟩ := Kd.at_int (Kd.R_reads' FR.out).2.2 0 (by decide) (by simp)
   cases eadn
   generalize w6.heap.size = gf at FF ⊢
   generalize w6.alloc (.cells #[.int .u32 f0, .int .i64 f1, .int .u32 f2, .int .i64 f3, .int .i64 f4, .int .u16 f5, .int .u16 f6, .int .u16 f7, .int .u16 f8] 77 (0, 0)) = wf at BF F2 FF FR ⊢

   have BD := Aside0.mk (below_drew1 BF.out)
   have D2 := Aside0.mk (blk_drew F2.out)
   have DF := Aside0.mk (blk_drew FF.out)
   have DR := Aside0.mk (Kd.R_drew FR.out)
   have hq0 : wf.drew.cell? ⟨gf, 0, none⟩ = some (.int .u32 f0) := (blk_cell DF.out 0).trans rfl
   have hq1 : wf.drew.cell? ⟨gf, 1, none⟩ = some (.int .i64 f1) := (blk_cell DF.out 1).trans rfl
   have hq2 : wf.drew.cell? ⟨gf, 2, none⟩ = some (.int .u32 f2) := (blk_cell DF.out 2).trans rfl
   have hq3 : wf.drew.cell? ⟨gf, 3, none⟩ = some (.int .i64 f3) := (blk_cell DF.out 3).trans rfl
   have hq4 : wf.drew.cell? ⟨gf, 4, none⟩ = some (.int .i64 f4) := (blk_cell DF.out 4).trans rfl
   have hq5 : wf.drew.cell? ⟨gf, 5, none⟩ = some (.int .u16 f5) := (blk_cell DF.out 5).trans rfl
   have hq6 : wf.drew.cell? ⟨gf, 6, none⟩ = some (.int .u16 f6) := (blk_cell DF.out 6).trans rfl
   have hq7 : wf.drew.cell? ⟨gf, 7, none⟩ = some (.int .u16 f7) := (blk_cell DF.out 7).trans rfl
   have hq8 : wf.drew.cell? ⟨gf, 8, none⟩ = some (.int .u16 f8) := (blk_cell DF.out 8).trans rfl
   have hq9 : wf.drew.cell? adn = some (.int .i64 n0) := by
    obtain ⟨ad_, e_, h_⟩ := Kd.at_int (Kd.R_reads' DR.out).2.2 0 (by decide) (by simp)
    cases e_
    exact h_
   have DA := Aside0.mk hq9
   refine start_ (n := 8) (S := fun w' => w'.cell? ⟨gf, 0, none⟩ = some (.int .u32 f0) ∧ w'.cell? ⟨gf, 1, none⟩ = some (.int .i64 f1) ∧ w'.cell? ⟨gf, 2, none⟩ = some (.int .u32 f2) ∧ w'.cell? ⟨gf, 3, none⟩ = some (.int .i64 f3) ∧ w'.cell? ⟨gf, 4, none⟩ = some (.int .i64 f4) ∧ w'.cell? ⟨gf, 5, none⟩ = some (.int .u16 f5) ∧ w'.cell? ⟨gf, 6, none⟩ = some (.int .u16 f6) ∧ w'.cell? ⟨gf, 7, none⟩ = some (.int .u16 f7) ∧ w'.cell? ⟨gf, 8, none⟩ = some (.int .u16 f8) ∧ w'.cell? adn = some (.int .i64 n0)) (ds := [7]) #[false, false, false, false, false, false, false, false] (by kernel_rfl) rfl rfl ⟨hq0, hq1, hq2, hq3, hq4, hq5, hq6, hq7, hq8, hq9⟩ (fun hHeld => ?_)
   refine with_tabW query_.tab17 query_.bits17 (fun HT_ HW_ => ?_)
   clear hq0 hq1 hq2 hq3 hq4 hq5 hq6 hq7 hq8 hq9
   generalize wf.drew = wd at BD D2 DR DF DA hHeld ⊢
   refine pure_ (i := 0) (N := some 58) (v := ?_) (a' := ?_) #[true, false, false, false, false, false, false, false] rfl rfl (any_of HT_.out (by kernel_rfl)) (fun _ _ _ h => h) (Or.inl ⟨by rfl, ?_⟩) ?_ ?_
   rotate_left
   ·intro w'
    go_simp
    with_reducible rfl
   rotate_left
   ·simp only [Act.put, List.setIfInBounds_toArray, List.set_cons_zero, List.set_cons_succ, i64_w, i32_w]
    rfl
   refine pure_ (i := 1) (N := some 59) (v := ?_) (a' := ?_) #[true, true, false, false, false, false, false, false] rfl rfl (any_of HT_.out (by kernel_rfl)) (fun _ _ _ h => h) (Or.inl ⟨by rfl, ?_⟩) ?_ ?_
   rotate_left
   ·intro w'
    go_simp
    with_reducible rfl
   rotate_left
   ·simp only [Act.put, List.setIfInBounds_toArray, List.set_cons_zero, List.set_cons_succ, i64_w, i32_w]
    rfl
   refine pure_ (i := 2) (N := some 60) (v := ?_) (a' := ?_) #[true, true, true, false, false, false, false, false] rfl rfl (any_of HT_.out (by kernel_rfl)) (fun _ _ _ h => h) (Or.inl ⟨by rfl, ?_⟩) ?_ ?_
   rotate_left
   ·intro w'
    go_simp
    with_reducible rfl
   rotate_left
   ·simp only [Act.put, List.setIfInBounds_toArray, List.set_cons_zero, List.set_cons_succ, i64_w, i32_w]
    rfl
   refine take_ (i := 3) (N := some 61) (v := ?_) (a' := ?_) #[true, true, true, true, false, false, false, false] rfl rfl (take_ofW HT_.out HW_.out (by kernel_rfl)) (fun _ _ _ h => h) (Or.inl ⟨by rfl, ?_⟩) hHeld ?_ ?_
   rotate_left
   ·rintro w' ⟨s0, s1, s2, s3, s4, s5, s6, s7, s8, s9⟩
    go_simp
    with_reducible rfl
   rotate_left
   ·simp only [Act.put, List.setIfInBounds_toArray, List.set_cons_zero, List.set_cons_succ, i64_w, i32_w]
    rfl
   refine take_ (i := 4) (N := some 62) (v := ?_) (a' := ?_) #[true, true, true, true, true, false, false, false] rfl rfl (take_ofW HT_.out HW_.out (by kernel_rfl)) (fun _ _ _ h => h) (Or.inl ⟨by rfl, ?_⟩) hHeld ?_ ?_
   rotate_left
   ·rintro w' ⟨s0, s1, s2, s3, s4, s5, s6, s7, s8, s9⟩
    go_simp
    with_reducible rfl
   rotate_left
   ·simp only [Act.put, List.setIfInBounds_toArray, List.set_cons_zero, List.set_cons_succ, i64_w, i32_w]
    rfl
   refine pure_ (i := 5) (N := some 63) (v := ?_) (a' := ?_) #[true, true, true, true, true, true, false, false] rfl rfl (any_of HT_.out (by kernel_rfl)) (fun _ _ _ h => h) (Or.inl ⟨by rfl, ?_⟩) ?_ ?_
   rotate_left
   ·intro w'
    go_simp
    with_reducible rfl
   rotate_left
   ·simp only [Act.put, List.setIfInBounds_toArray, List.set_cons_zero, List.set_cons_succ, i64_w, i32_w]
    rfl
   refine one_ (i := 6) (N := some 11) #[true, true, true, true, true, true, true, false] rfl rfl (one_of HT_.out (by kernel_rfl)) (by decide) (fun K hK => ?_)
   refine box_step (by rfl) (N := 11) rfl (cs := #[.int .i64 0, .int .i64 0, .int .i64 0, .int .u32 0, .int .i64 0, .int .u32 0, .int .i64 0, .int .i64 0, .int .u16 0, .int .u16 0, .int .u16 0, .int .u16 0]) (t := 141) ?hr ?_
   case hr => first | (go_simp; done) | (go_simp; rfl)
   intro gq hgq wq hbox hb
   have QO := Aside0.mk hbox
   have QB := Aside0.mk (below_step BD.out hb)
   have Q2 := Aside0.mk (blk_below D2.out hb)
   have QR := Aside0.mk (Kd.R_below DR.out hb)
   have QG := Aside0.mk (show w.heap.size ≤ gq by rw [hgq]; exact below_size BD.out)
   have QN := Aside0.mk (show g2 ≠ gq by rw [hgq]; exact Nat.ne_of_lt (blk_lt D2.out))
   have QF := Aside0.mk (blk_below DF.out hb)
   have QA := Aside0.mk (pw_cell_below hb DA.out)
   have QN2 := Aside0.mk (show adn.block ≠ gq by rw [hgq]; exact Nat.ne_of_lt (World.block_lt_of_cell? _ _ DA.out))
   clear hbox hb hgq
   refine hK.out _ _ ⟨(blk_cell QF.out 0).trans rfl, (blk_cell QF.out 1).trans rfl, (blk_cell QF.out 2).trans rfl, (blk_cell QF.out 3).trans rfl, (blk_cell QF.out 4).trans rfl, (blk_cell QF.out 5).trans rfl, (blk_cell QF.out 6).trans rfl, (blk_cell QF.out 7).trans rfl, (blk_cell QF.out 8).trans rfl, QA.out⟩ (fun hHeld => ?_)
   clear hK K
   refine norm_ (a' := ?_) ?_ ?_
   rotate_left
   ·show Act.put _ (some 11) _ = _
    simp only [Act.put, List.setIfInBounds_toArray, List.set_cons_zero, List.set_cons_succ, i64_w, i32_w]
    rfl
   refine last_ (i := 7) (N := none) #[true, true, true, true, true, true, true, true] rfl rfl (one_of HT_.out (by kernel_rfl)) (by decide) (fun K hK => ?_)
   refine Hand.store_step (by rfl) rfl 141 (.tmp 11) (.tmp 63) rfl [.int .i64 (m : Int), .int .i64 n0, .int .i64 0, .int .u32 f0, .int .i64 f1, .int .u32 f2, .int .i64 f3, .int .i64 f4, .int .u16 f5, .int .u16 f6, .int .u16 f7, .int .u16 f8] #[.int .i64 (m : Int), .int .i64 n0, .int .i64 0, .int .u32 f0, .int .i64 f1, .int .u32 f2, .int .i64 f3, .int .i64 f4, .int .u16 f5, .int .u16 f6, .int .u16 f7, .int .u16 f8] rfl rfl QO.out rfl size141 (by simp) (fits_all rfl) (put12 _ _ _ _ _ _ _ _ _ _ _ _ _ _ _ _ _ _ _ _ _ _ _ _) (fun wp hp => ?_)
   have PO := Aside0.mk hp.box
   have PB := Aside0.mk (hp.bl _ QB.out QG.out)
   have P2 := Aside0.mk (hp.keep Q2.out QN.out)
   clear hp
   refine hK.out _ _ ?_
   clear hK K
   refine done_ (done_of HT_.out (by kernel_rfl)) ?_
   have zqz := cz12 PO.out
   go_wp2_with (first
    | ((with_reducible refine gate_ (.store 141 (.tmp 2) (.tmp 70)) rfl ?_); refine Hand.wpList_store_blk (g := g2) (off := 0) rfl rfl 141 (.tmp 2) (.tmp 70) rfl [.int .i64 (m : Int), .int .i64 n0, .int .i64 0, .int .u32 f0, .int .i64 f1, .int .u32 f2, .int .i64 f3, .int .i64 f4, .int .u16 f5, .int .u16 f6, .int .u16 f7, .int .u16 f8] #[.int .i64 (m : Int), .int .i64 n0, .int .i64 0, .int .u32 f0, .int .i64 f1, .int .u32 f2, .int .i64 f3, .int .i64 f4, .int .u16 f5, .int .u16 f6, .int .u16 f7, .int .u16 f8] rfl rfl P2.out rfl size141 (show 0 + 12 ≤ 12 by decide) (fits_all rfl) (put12 _ _ _ _ _ _ _ _ _ _ _ _ _ _ _ _ _ _ _ _ _ _ _ _) (fun w8 hp => ?_); have P8 := Aside0.mk hp.box; have B8 := Aside0.mk (hp.bl _ PB.out G2.out); have zrz := cz12 P8.out; clear hp))
   refine bodyPost_ret (results_ct rfl _ _ g2 141 #[.int .i64 (m : Int), .int .i64 n0, .int .i64 0, .int .u32 f0, .int .i64 f1, .int .u32 f2, .int .i64 f3, .int .i64 f4, .int .u16 f5, .int .u16 f6, .int .u16 f7, .int .u16 f8] (0, 0) _ rfl P8.out Tryd.underlying141 rfl (by kernel_rfl)) rfl ?_
   exact ⟨rfl, B8.out⟩
set_option maxHeartbeats 2000000 in
set_option maxRecDepth 100000 in
theorem query0 (kN kF : Nat) (s : ByteArray) (t : List ByteArray) (n0 n1 : Int) (tf : ByteArray) (f0 f1 f2 f3 f4 f5 f6 f7 f8 : Int) (w : World) (hG : Hand.Good true false w) (hK : Kinds w) (hs : strings_Split.f s ⟨#[32]⟩ = some t) (ht : rdOf ByteArray.empty t 0 = ⟨(kindW 0).toArray⟩) (hl : t.length = 8)
  (hn : script_numbers.f kN ((t.take 3).drop 1) = some ([n0, n1], 0)) (hj : strings_Join.f (t.drop 3) ⟨#[32]⟩ = some tf) (hf : filter_Parse.f kF tf = some (f0, f1, f2, f3, f4, f5, f6, f7, f8, 0)) :
  Calls Tryd.prog 82 #[.string s] w fun e w' => e = .returned (.tuple #[.agg #[.int .i64 0, .int .i64 n0, .int .i64 n1, .int .u32 f0, .int .i64 f1, .int .u32 f2, .int .i64 f3, .int .i64 f4, .int .u16 f5, .int .u16 f6, .int .u16 f7, .int .u16 f8], .int .i64 0]) ∧ Below w.heap.size w w' := by
 have HG := Aside0.mk hG
 have HK := Aside0.mk hK
 have HS := Aside0.mk hs
 have HL := Aside0.mk hl
 have HT := Aside0.mk ht
 have HN := Aside0.mk hn
 have HJ := Aside0.mk hj
 have HF := Aside0.mk hf
 obtain ⟨kw, hkw⟩ : ∃ kw : Nat → ByteArray, ∀ i, kw i = ⟨(kindW i).toArray⟩ := ⟨_, fun _ => rfl⟩
 have KW := Aside0.mk hkw
 have B0 := Aside0.mk (Below.refl w.heap.size w)
 clear hG hK hs hl ht hn hj hf hkw
 go_enter Tryd.func82, Tryd.ntmps82
 go_wp2_with (first
  | ((with_reducible refine gate_dst (N := 2) rfl ?_); refine box_event ?hg (N := 2) ?hd (cs := #[.int .i64 0, .int .i64 0, .int .i64 0, .int .u32 0, .int .i64 0, .int .u32 0, .int .i64 0, .int .i64 0, .int .u16 0, .int .u16 0, .int .u16 0, .int .u16 0]) (t := 141) ?hr ?_; (case hd => rfl); (case hg => rfl); (case hr => first | (go_simp; done) | (go_simp; rfl)); intro g2 hg2 w2 hbox hb; have A2 := Aside0.mk hbox; have B2 := Aside0.mk hb; have G2 := Aside0.mk (Nat.le_of_eq hg2.symm); clear hg2 hbox hb)
  | (go_at_call 84; (with_reducible refine (strings_Split.calls s ⟨#[32]⟩ t _ (Hand.Good.below true false HG.out B2.out rfl rfl) HS.out).mono ?_); rintro e w3 ⟨v3, rfl, hr, hb⟩; obtain ⟨A3, c3, e3⟩ := Kd.R_slice hr; subst e3; obtain ⟨_, hc3, hC3⟩ := Kd.R_reads' hr; have C3 := Aside0.mk hC3; have K3 := Aside0.mk hc3; have B3 := Aside0.mk (below_step B2.out hb); have A3' := Aside0.mk (blk_below A2.out hb); clear hr hb hc3 hC3; have zk0 : w3.cell? ⟨0, 0, none⟩ = some (.string (kw 0)) := (by rw [KW.out]; exact Kinds.below HK.out B3.out 0 (by decide)); have zk1 : w3.cell? ⟨0, 1, none⟩ = some (.string (kw 1)) := (by rw [KW.out]; exact Kinds.below HK.out B3.out 1 (by decide)); have zk2 : w3.cell? ⟨0, 2, none⟩ = some (.string (kw 2)) := (by rw [KW.out]; exact Kinds.below HK.out B3.out 2 (by decide)); have zk3 : w3.cell? ⟨0, 3, none⟩ = some (.string (kw 3)) := (by rw [KW.out]; exact Kinds.below HK.out B3.out 3 (by decide)); have zk4 : w3.cell? ⟨0, 4, none⟩ = some (.string (kw 4)) := (by rw [KW.out]; exact Kinds.below HK.out B3.out 4 (by decide)); have zk5 : w3.cell? ⟨0, 5, none⟩ = some (.string (kw 5)) := (by rw [KW.out]; exact Kinds.below HK.out B3.out 5 (by decide))))
 obtain ⟨ad, ead, hx⟩ := Kd.at_string C3.out 0 (by decide) (by rw [HL.out]; decide)
 cases ead
 obtain ⟨t0, ht0⟩ : ∃ t0, t0 = rdOf ByteArray.empty t 0 := ⟨_, rfl⟩
 rw [← ht0] at hx
 have T0 := Aside0.mk (show t0 = ⟨(kindW 0).toArray⟩ by rw [ht0]; exact HT.out)
 replace hx : w3.cell? ad = some (.string t0) := hx
 have lp : decide (0 < t.length) = true := decide_eq_true (by rw [HL.out]; decide)
 have lp1 : (0 < t.length) = True := eq_true (by rw [HL.out]; decide)
 have lp2 : decide ((0 : Int) < (t.length : Int)) = true := decide_eq_true (by rw [HL.out]; decide)
 clear ht0
 go_loopg [15] 6 (fun kq v15 wl => ∃ (i : Nat) (ii : Int), i + kq = 6 ∧ v15 = .int .i64 ii ∧ wl = w3 ∧ Aside0 (ii = (i : Int)) ∧ Aside0 (i ≤ 0))
 case atStart => exact ⟨0, 0, by omega, rfl, rfl, ⟨rfl⟩, ⟨Nat.zero_le _⟩⟩
 case round =>
  clear zk0 zk1 zk2 zk3 zk4 zk5
  obtain ⟨i, ii, hi, rfl, rfl, HII, HIM⟩ := hrel
  have HI := Aside0.mk hi
  have hi6 : i < 6 := by have := HIM.out; omega
  have hcn : decide (ii < 6) = true := decide_eq_true (by have := HII.out; omega)
  have hix : ∀ W, (Instr.index 151 (.agg #[.string (kw 0), .string (kw 1), .string (kw 2), .string (kw 3), .string (kw 4), .string (kw 5)]) (.int .i64 ii)).run Tryd.prog W = .ok (.string (kw i)) W := by rw [HII.out]; exact fun W => ix151 kw i hi6 W
  clear hi
  rcases Nat.lt_or_ge i 0 with hlt | hge
  ·have hne : t0 ≠ kw i := by
    rw [T0.out, KW.out i]
    intro e
    exact kind_ne 0 (by omega) i hlt (congrArg (fun b : ByteArray => b.data.toList) e).symm
   have hne3 : (t0.toList == (kw i).toList) = false := beq_eq_false_iff_ne.2 (fun e => hne (toList_inj e))
   have hne4 : (t0.toList != (kw i).toList) = true := bne_iff_ne.2 (fun e => hne (toList_inj e))
   have HLT := Aside0.mk hlt
   clear hlt hne
   go_wp2
   go_roundg (6 - (i + 1))
   case measure => have := HI.out; omega
   case rel => exact ⟨i + 1, ii + 1, by have := HLT.out; omega, by rw [wrap64_id _ (by have := HII.out; omega) (by have := HII.out; omega)], rfl, ⟨by have := HII.out; omega⟩, ⟨by have := HLT.out; omega⟩⟩
  ·obtain him : 0 = i := by have := HIM.out; omega
   subst him

   have heq : t0 = kw 0 := by rw [T0.out, KW.out]
   have hne3 : (t0.toList == (kw 0).toList) = true := beq_iff_eq.2 (by rw [heq])
   have hne4 : (t0.toList != (kw 0).toList) = false := bne_eq_false_iff_eq.2 (by rw [heq])
   have hii1 : (ii == 0) = true := by rw [HII.out]; decide
   have hln : (t.length : Int) = 8 := by rw [HL.out]; rfl
   have hln1 : ((t.length : Int) != 8) = false := bne_eq_false_iff_eq.2 hln
   have hln2 : ((t.length : Int) == 8) = true := beq_iff_eq.2 hln
   obtain ⟨i024, hi024, _, hsz24, _⟩ := info_parts info9
   obtain ⟨A4, hcut4, hA4, hC4⟩ := print_mid_of (P := Tryd.prog) Value.string (⟨#[]⟩ : ByteArray) 30 9 .i64 .i64 Tryd.underlying30 hi024 hsz24 (some ad) c3 t 1 3 (by decide) (by decide) (by omega) K3.out
   obtain ⟨A5, hcut5, hA5, hC5⟩ := print_drop_of (P := Tryd.prog) Value.string (⟨#[]⟩ : ByteArray) 30 9 .i64 Tryd.underlying30 hi024 hsz24 (some ad) c3 t 3 (by decide) (by omega) K3.out
   simp only [show (1 : Int).toNat = 1 from rfl, show (3 : Int).toNat = 3 from rfl] at hcut4 hcut5 hC4 hC5 hA4 hA5
   have C4' := Kd.C_of_reads (h1 := fun _ => rfl) (hA4 _ (Kd.reads_of_C C3.out))
   have C5' := Kd.C_of_reads (h1 := fun _ => rfl) (hA5 _ (Kd.reads_of_C C3.out))
   have HN4' := HN.out
   have HJ5' := HJ.out
   clear hA4 hA5
   generalize (t.take 3).drop 1 = t4 at hcut4 hC4 C4' HN4'
   generalize t.drop 3 = t5 at hcut5 hC5 C5' HJ5'
   generalize c3 - 1 = c4 at hcut4 hC4
   generalize c3 - 3 = c5 at hcut5 hC5
   have C4 : Aside0 (Kd.C Kd.string _ A4 t4.length t4) := ⟨C4'⟩
   have C5 : Aside0 (Kd.C Kd.string _ A5 t5.length t5) := ⟨C5'⟩
   have HN4 := Aside0.mk HN4'
   have HJ5 := Aside0.mk HJ5'
   have K4 := Aside0.mk hC4
   have K5 := Aside0.mk hC5
   clear hC4 hC5 C4' C5' HN4' HJ5' hi024 hsz24 heq hge hln
   go_wp2_with (first
    | (go_at_call 108; (with_reducible refine (script_numbers.calls kN A4 c4 t4 [n0, n1] 0 _ C4.out K4.out HN4.out).mono ?_); rintro e w4 ⟨v4, rfl, hr, hb⟩; obtain ⟨An, cn, en⟩ := Kd.R_slice hr; subst en; have R4 := Aside0.mk hr; have B4 := Aside0.mk (below_step B3.out hb); have B34 := Aside0.mk hb; have A4' := Aside0.mk (blk_below A3'.out hb); clear hr hb)
    | (go_at_call 77; (with_reducible refine (strings_Join.calls A5 c5 t5 _ tf _ (Kd.C_below C5.out B34.out) K5.out HJ5.out).mono ?_); rintro e w5 ⟨rfl, hb⟩; have R5 := Aside0.mk (Kd.R_lower (Kd.R_below R4.out hb) B3.out.size); have B5 := Aside0.mk (below_step B4.out hb); have A5' := Aside0.mk (blk_below A4'.out hb); clear hb)
    | (go_at_call 64; (with_reducible refine (filter_Parse.calls kF tf f0 f1 f2 f3 f4 f5 f6 f7 f8 0 _ (Hand.Good.below true false HG.out B5.out rfl rfl) HF.out).mono ?_); rintro e w6 ⟨rfl, hb⟩; have R6 := Aside0.mk (Kd.R_below R5.out hb); have B6 := Aside0.mk (below_step B5.out hb); have A6' := Aside0.mk (blk_below A5'.out hb); clear hb))
   have BF := Aside0.mk (below_alloc B6.out (.cells #[.int .u32 f0, .int .i64 f1, .int .u32 f2, .int .i64 f3, .int .i64 f4, .int .u16 f5, .int .u16 f6, .int .u16 f7, .int .u16 f8] 77 (0, 0)))
   have F2 := Aside0.mk (blk_below A6'.out (below_alloc (Below.refl w6.heap.size w6) (.cells #[.int .u32 f0, .int .i64 f1, .int .u32 f2, .int .i64 f3, .int .i64 f4, .int .u16 f5, .int .u16 f6, .int .u16 f7, .int .u16 f8] 77 (0, 0))))
   have FF := Aside0.mk (blk_new w6 (.cells #[.int .u32 f0, .int .i64 f1, .int .u32 f2, .int .i64 f3, .int .i64 f4, .int .u16 f5, .int .u16 f6, .int .u16 f7, .int .u16 f8] 77 (0, 0)))
   have FR := Aside0.mk (Kd.R_alloc R6.out (.cells #[.int .u32 f0, .int .i64 f1, .int .u32 f2, .int .i64 f3, .int .i64 f4, .int .u16 f5, .int .u16 f6, .int .u16 f7, .int .u16 f8] 77 (0, 0)))
   have hii := HII.out
   subst hii
   obtain ⟨adn, eadn, _⟩ := Kd.at_int (Kd.R_reads' FR.out).2.2 0 (by decide) (by simp)
   cases eadn
   generalize w6.heap.size = gf at FF ⊢
   generalize w6.alloc (.cells #[.int .u32 f0, .int .i64 f1, .int .u32 f2, .int .i64 f3, .int .i64 f4, .int .u16 f5, .int .u16 f6, .int .u16 f7, .int .u16 f8] 77 (0, 0)) = wf at BF F2 FF FR ⊢

   have BD := Aside0.mk (below_drew1 BF.out)
   have D2 := Aside0.mk (blk_drew F2.out)
   have DF := Aside0.mk (blk_drew FF.out)
   have DR := Aside0.mk (Kd.R_drew FR.out)
   have hq0 : wf.drew.cell? ⟨gf, 0, none⟩ = some (.int .u32 f0) := (blk_cell DF.out 0).trans rfl
   have hq1 : wf.drew.cell? ⟨gf, 1, none⟩ = some (.int .i64 f1) := (blk_cell DF.out 1).trans rfl
   have hq2 : wf.drew.cell? ⟨gf, 2, none⟩ = some (.int .u32 f2) := (blk_cell DF.out 2).trans rfl
   have hq3 : wf.drew.cell? ⟨gf, 3, none⟩ = some (.int .i64 f3) := (blk_cell DF.out 3).trans rfl
   have hq4 : wf.drew.cell? ⟨gf, 4, none⟩ = some (.int .i64 f4) := (blk_cell DF.out 4).trans rfl
   have hq5 : wf.drew.cell? ⟨gf, 5, none⟩ = some (.int .u16 f5) := (blk_cell DF.out 5).trans rfl
   have hq6 : wf.drew.cell? ⟨gf, 6, none⟩ = some (.int .u16 f6) := (blk_cell DF.out 6).trans rfl
   have hq7 : wf.drew.cell? ⟨gf, 7, none⟩ = some (.int .u16 f7) := (blk_cell DF.out 7).trans rfl
   have hq8 : wf.drew.cell? ⟨gf, 8, none⟩ = some (.int .u16 f8) := (blk_cell DF.out 8).trans rfl
   have hq9 : wf.drew.cell? adn = some (.int .i64 n0) := by
    obtain ⟨ad_, e_, h_⟩ := Kd.at_int (Kd.R_reads' DR.out).2.2 0 (by decide) (by simp)
    cases e_
    exact h_
   have DA := Aside0.mk hq9
   have DA1 : Aside0 (wf.drew.cell? (adn.add 1) = some (.int .i64 n1)) := ⟨by
    obtain ⟨ad_, e_, h_⟩ := Kd.at_int (Kd.R_reads' DR.out).2.2 1 (by decide) (by simp)
    cases e_
    exact h_⟩
   refine start_ (n := 8) (S := fun w' => w'.cell? ⟨gf, 0, none⟩ = some (.int .u32 f0) ∧ w'.cell? ⟨gf, 1, none⟩ = some (.int .i64 f1) ∧ w'.cell? ⟨gf, 2, none⟩ = some (.int .u32 f2) ∧ w'.cell? ⟨gf, 3, none⟩ = some (.int .i64 f3) ∧ w'.cell? ⟨gf, 4, none⟩ = some (.int .i64 f4) ∧ w'.cell? ⟨gf, 5, none⟩ = some (.int .u16 f5) ∧ w'.cell? ⟨gf, 6, none⟩ = some (.int .u16 f6) ∧ w'.cell? ⟨gf, 7, none⟩ = some (.int .u16 f7) ∧ w'.cell? ⟨gf, 8, none⟩ = some (.int .u16 f8) ∧ w'.cell? adn = some (.int .i64 n0)) (ds := [7]) #[false, false, false, false, false, false, false, false] (by kernel_rfl) rfl rfl ⟨hq0, hq1, hq2, hq3, hq4, hq5, hq6, hq7, hq8, hq9⟩ (fun hHeld => ?_)
   refine with_tabW query_.tab17 query_.bits17 (fun HT_ HW_ => ?_)
   clear hq0 hq1 hq2 hq3 hq4 hq5 hq6 hq7 hq8 hq9
   generalize wf.drew = wd at BD D2 DR DF DA DA1 hHeld ⊢
   refine pure_ (i := 0) (N := some 58) (v := ?_) (a' := ?_) #[true, false, false, false, false, false, false, false] rfl rfl (any_of HT_.out (by kernel_rfl)) (fun _ _ _ h => h) (Or.inl ⟨by rfl, ?_⟩) ?_ ?_
   rotate_left
   ·intro w'
    go_simp
    with_reducible rfl
   rotate_left
   ·simp only [Act.put, List.setIfInBounds_toArray, List.set_cons_zero, List.set_cons_succ, i64_w, i32_w]
    rfl
   refine pure_ (i := 1) (N := some 59) (v := ?_) (a' := ?_) #[true, true, false, false, false, false, false, false] rfl rfl (any_of HT_.out (by kernel_rfl)) (fun _ _ _ h => h) (Or.inl ⟨by rfl, ?_⟩) ?_ ?_
   rotate_left
   ·intro w'
    go_simp
    with_reducible rfl
   rotate_left
   ·simp only [Act.put, List.setIfInBounds_toArray, List.set_cons_zero, List.set_cons_succ, i64_w, i32_w]
    rfl
   refine pure_ (i := 2) (N := some 60) (v := ?_) (a' := ?_) #[true, true, true, false, false, false, false, false] rfl rfl (any_of HT_.out (by kernel_rfl)) (fun _ _ _ h => h) (Or.inl ⟨by rfl, ?_⟩) ?_ ?_
   rotate_left
   ·intro w'
    go_simp
    with_reducible rfl
   rotate_left
   ·simp only [Act.put, List.setIfInBounds_toArray, List.set_cons_zero, List.set_cons_succ, i64_w, i32_w]
    rfl
   refine take_ (i := 3) (N := some 61) (v := ?_) (a' := ?_) #[true, true, true, true, false, false, false, false] rfl rfl (take_ofW HT_.out HW_.out (by kernel_rfl)) (fun _ _ _ h => h) (Or.inl ⟨by rfl, ?_⟩) hHeld ?_ ?_
   rotate_left
   ·rintro w' ⟨s0, s1, s2, s3, s4, s5, s6, s7, s8, s9⟩
    go_simp
    with_reducible rfl
   rotate_left
   ·simp only [Act.put, List.setIfInBounds_toArray, List.set_cons_zero, List.set_cons_succ, i64_w, i32_w]
    rfl
   refine take_ (i := 4) (N := some 62) (v := ?_) (a' := ?_) #[true, true, true, true, true, false, false, false] rfl rfl (take_ofW HT_.out HW_.out (by kernel_rfl)) (fun _ _ _ h => h) (Or.inl ⟨by rfl, ?_⟩) hHeld ?_ ?_
   rotate_left
   ·rintro w' ⟨s0, s1, s2, s3, s4, s5, s6, s7, s8, s9⟩
    go_simp
    with_reducible rfl
   rotate_left
   ·simp only [Act.put, List.setIfInBounds_toArray, List.set_cons_zero, List.set_cons_succ, i64_w, i32_w]
    rfl
   refine pure_ (i := 5) (N := some 63) (v := ?_) (a' := ?_) #[true, true, true, true, true, true, false, false] rfl rfl (any_of HT_.out (by kernel_rfl)) (fun _ _ _ h => h) (Or.inl ⟨by rfl, ?_⟩) ?_ ?_
   rotate_left
   ·intro w'
    go_simp
    with_reducible rfl
   rotate_left
   ·simp only [Act.put, List.setIfInBounds_toArray, List.set_cons_zero, List.set_cons_succ, i64_w, i32_w]
    rfl
   refine one_ (i := 6) (N := some 11) #[true, true, true, true, true, true, true, false] rfl rfl (one_of HT_.out (by kernel_rfl)) (by decide) (fun K hK => ?_)
   refine box_step (by rfl) (N := 11) rfl (cs := #[.int .i64 0, .int .i64 0, .int .i64 0, .int .u32 0, .int .i64 0, .int .u32 0, .int .i64 0, .int .i64 0, .int .u16 0, .int .u16 0, .int .u16 0, .int .u16 0]) (t := 141) ?hr ?_
   case hr => first | (go_simp; done) | (go_simp; rfl)
   intro gq hgq wq hbox hb
   have QO := Aside0.mk hbox
   have QB := Aside0.mk (below_step BD.out hb)
   have Q2 := Aside0.mk (blk_below D2.out hb)
   have QR := Aside0.mk (Kd.R_below DR.out hb)
   have QG := Aside0.mk (show w.heap.size ≤ gq by rw [hgq]; exact below_size BD.out)
   have QN := Aside0.mk (show g2 ≠ gq by rw [hgq]; exact Nat.ne_of_lt (blk_lt D2.out))
   have QF := Aside0.mk (blk_below DF.out hb)
   have QA := Aside0.mk (pw_cell_below hb DA.out)
   have QN2 := Aside0.mk (show adn.block ≠ gq by rw [hgq]; exact Nat.ne_of_lt (World.block_lt_of_cell? _ _ DA.out))
   have QA1 := Aside0.mk (pw_cell_below hb DA1.out)
   clear hbox hb hgq
   refine hK.out _ _ ⟨(blk_cell QF.out 0).trans rfl, (blk_cell QF.out 1).trans rfl, (blk_cell QF.out 2).trans rfl, (blk_cell QF.out 3).trans rfl, (blk_cell QF.out 4).trans rfl, (blk_cell QF.out 5).trans rfl, (blk_cell QF.out 6).trans rfl, (blk_cell QF.out 7).trans rfl, (blk_cell QF.out 8).trans rfl, QA.out⟩ (fun hHeld => ?_)
   clear hK K
   refine norm_ (a' := ?_) ?_ ?_
   rotate_left
   ·show Act.put _ (some 11) _ = _
    simp only [Act.put, List.setIfInBounds_toArray, List.set_cons_zero, List.set_cons_succ, i64_w, i32_w]
    rfl
   refine last_ (i := 7) (N := none) #[true, true, true, true, true, true, true, true] rfl rfl (one_of HT_.out (by kernel_rfl)) (by decide) (fun K hK => ?_)
   refine Hand.store_step (by rfl) rfl 141 (.tmp 11) (.tmp 63) rfl [.int .i64 0, .int .i64 n0, .int .i64 0, .int .u32 f0, .int .i64 f1, .int .u32 f2, .int .i64 f3, .int .i64 f4, .int .u16 f5, .int .u16 f6, .int .u16 f7, .int .u16 f8] #[.int .i64 0, .int .i64 n0, .int .i64 0, .int .u32 f0, .int .i64 f1, .int .u32 f2, .int .i64 f3, .int .i64 f4, .int .u16 f5, .int .u16 f6, .int .u16 f7, .int .u16 f8] rfl rfl QO.out rfl size141 (by simp) (fits_all rfl) (put12 _ _ _ _ _ _ _ _ _ _ _ _ _ _ _ _ _ _ _ _ _ _ _ _) (fun wp hp => ?_)
   have PO := Aside0.mk hp.box
   have PB := Aside0.mk (hp.bl _ QB.out QG.out)
   have P2 := Aside0.mk (hp.keep Q2.out QN.out)
   have PA1 := Aside0.mk (cell_put hp QA1.out (by rw [add_block]; exact QN2.out))
   clear hp
   refine hK.out _ _ ?_
   clear hK K
   refine done_ (done_of HT_.out (by kernel_rfl)) ?_
   have ha1 : wp.cell? ⟨adn.block, adn.off + 1, none⟩ = some (.int .i64 n1) := PA1.out
   have ln1 : (1 < [n0, n1].length) = True := eq_true (by simp)
   clear PA1
   go_wp2_with (first
    | ((with_reducible refine gate_ (.store 3 (.tmp 69) (.tmp 68)) rfl ?_); refine Hand.wpList_store_blk (g := gq) (off := 2) rfl rfl 3 (.tmp 69) (.tmp 68) rfl [.int .i64 n1] #[.int .i64 0, .int .i64 n0, .int .i64 n1, .int .u32 f0, .int .i64 f1, .int .u32 f2, .int .i64 f3, .int .i64 f4, .int .u16 f5, .int .u16 f6, .int .u16 f7, .int .u16 f8] rfl rfl PO.out rfl size3_ (show 2 + 1 ≤ 12 by decide) (fits_all rfl) (by simp [Hand.putSeg]) (fun w7 hp => ?_); have P7 := Aside0.mk hp.box; have B7 := Aside0.mk (hp.bl _ PB.out QG.out); have P27 := Aside0.mk (hp.keep P2.out QN.out); have zqz := cz12 P7.out; clear hp)
    | ((with_reducible refine gate_ (.store 141 (.tmp 2) (.tmp 70)) rfl ?_); refine Hand.wpList_store_blk (g := g2) (off := 0) rfl rfl 141 (.tmp 2) (.tmp 70) rfl [.int .i64 0, .int .i64 n0, .int .i64 n1, .int .u32 f0, .int .i64 f1, .int .u32 f2, .int .i64 f3, .int .i64 f4, .int .u16 f5, .int .u16 f6, .int .u16 f7, .int .u16 f8] #[.int .i64 0, .int .i64 n0, .int .i64 n1, .int .u32 f0, .int .i64 f1, .int .u32 f2, .int .i64 f3, .int .i64 f4, .int .u16 f5, .int .u16 f6, .int .u16 f7, .int .u16 f8] rfl rfl P27.out rfl size141 (show 0 + 12 ≤ 12 by decide) (fits_all rfl) (put12 _ _ _ _ _ _ _ _ _ _ _ _ _ _ _ _ _ _ _ _ _ _ _ _) (fun w8 hp => ?_); have P8 := Aside0.mk hp.box; have B8 := Aside0.mk (hp.bl _ B7.out G2.out); have zrz := cz12 P8.out; clear hp))
   refine bodyPost_ret (results_ct rfl _ _ g2 141 #[.int .i64 0, .int .i64 n0, .int .i64 n1, .int .u32 f0, .int .i64 f1, .int .u32 f2, .int .i64 f3, .int .i64 f4, .int .u16 f5, .int .u16 f6, .int .u16 f7, .int .u16 f8] (0, 0) _ rfl P8.out Tryd.underlying141 rfl (by kernel_rfl)) rfl ?_
   exact ⟨rfl, B8.out⟩

end Go.Proofs.YtloclimoffhbhaaDoor.PSca
