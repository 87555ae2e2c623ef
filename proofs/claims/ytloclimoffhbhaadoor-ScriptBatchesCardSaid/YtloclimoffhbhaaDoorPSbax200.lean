-- Walks by hand.
-- halved
import Derived.Test.YtloclimoffhbhaaDoorPSbax0
import Derived.Test.YtloclimoffhbhaaDoorPSbax1
import Derived.Test.YtloclimoffhbhaaDoorPSbax2
import Derived.Test.YtloclimoffhbhaaDoorPSbax3
import Derived.Test.YtloclimoffhbhaaDoorPSbax4
import Derived.Test.YtloclimoffhbhaaDoorPSbax5
import Derived.Test.YtloclimoffhbhaaDoorPSbax6
import Derived.Test.YtloclimoffhbhaaDoorPSbax7
import Derived.Test.YtloclimoffhbhaaDoorPSbax8
import Derived.Test.YtloclimoffhbhaaDoorBlk
import Derived.Test.YtloclimoffhbhaaDoorSemi
namespace Go.Proofs.YtloclimoffhbhaaDoor.PSba
open Go.RowKit Go.Proofs.YtloclimoffhbhaaDoorW.PrintWords Go.Proofs.YtloclimoffhbhaaDoorW.PrintLast Go.Proofs.YtloclimoffhbhaaDoorW.PrintMore
attribute [local go_sem] max2_int min2_int max_two min_two max_three min_three max_four min_four   -- for this text's walks alone
set_option linter.unusedVariables false
set_option linter.unusedSimpArgs false

open Go.Proofs.YtloclimoffhbhaaDoor.Scr Go.Proofs.YtloclimoffhbhaaDoor.Facts Go.Proofs.YtloclimoffhbhaaDoor.Bits
theorem size46 : (Tryd.prog.info? 46).map (·.size) = some 7 := by kernel_rfl
theorem size122 : (Tryd.prog.info? 122).map (·.size) = some 1 := by kernel_rfl
def cells46 (q : S46) : List Value := [.bool q.f0, .int .i64 q.f1.f0, .int .i64 q.f1.f1, .int .u32 q.f1.f2.f0, .int .i64 q.f1.f2.f1, .int .i64 q.f1.f3, .int .i64 q.f1.f4]
theorem rd46 {l : List S46} {i : Nat} (hi : i < l.length) : rd_T46 l (i : Int) = l[i] := by simp [rd_T46, List.getD, hi]
/-- What a change's text is, as the program prints it. -/
abbrev prC (k : Nat) (q : S46) : Option ByteArray := script_PrintChange.f k q.f0 q.f1.f0 q.f1.f1 q.f1.f2.f0 q.f1.f2.f1 q.f1.f3 q.f1.f4
set_option maxHeartbeats 4000000 in
set_option maxRecDepth 100000 in
/-- A batch, printed. -/
theorem printB (k : Nat) (A : Option Addr) (c : Nat) (l : List S46) (ts : List ByteArray) (r : ByteArray) (w : World) (hG : Hand.Good false true w) (hC : Kd.C k46 w A l.length l) (hl : l.length ≤ 1000) (hts : ts.length = l.length) (hp : ∀ i (h : i < l.length) (h2 : i < ts.length), prC k l[i] = some ts[i]) (hj : strings_Join.f ts ⟨#[59, 32]⟩ = some r) (hr : r.size ≤ 1000000) :
  Calls Tryd.prog 27 #[.iface 122 (.agg #[.slice A l.length c])] w fun e w' => e = .returned (.string (⟨#[98, 97, 116, 99, 104, 32]⟩ ++ r)) ∧ Below w.heap.size w w' := by
 have HG := Aside0.mk hG
 have HC := Aside0.mk hC
 have HL := Aside0.mk hl
 have HTS := Aside0.mk hts
 have HP := Aside0.mk hp
 have HJ := Aside0.mk hj
 have HR := Aside0.mk hr
 have hta := fun v => crossbucklaw25_awake.ta_yes (xT := 20) Tryd.underlying122 v
 clear hG hC hl hts hp hj hr
 go_enter Tryd.func27, Tryd.ntmps27
 go_wp2_with (first
  | ((with_reducible refine gate_dst (N := 3) rfl ?_); refine box_event ?hg (N := 3) ?hd (cs := #[.slice none 0 0]) (t := 122) ?hr ?_; (case hd => rfl); (case hg => rfl); (case hr => first | (go_simp; done) | (go_simp; rfl)); intro gb hgb w1 hbox hb; have BO := Aside0.mk hbox; have B1 := Aside0.mk hb; have HGB := Aside0.mk hgb; clear hgb hbox hb)
  | ((with_reducible refine gate_ (.store 122 (.tmp 3) (.tmp 15)) rfl ?_); refine Hand.wpList_store_blk rfl rfl 122 (.tmp 3) (.tmp 15) rfl [.slice A l.length c] #[.slice A l.length c] rfl rfl BO.out rfl size122 (Nat.le_refl 1) (fun u hu => by simp at hu; rcases hu with rfl; rfl) rfl (fun w2 hp => ?_); have BP := Aside0.mk hp.box; have B2 := Aside0.mk (hp.bl _ B1.out (Nat.le_of_eq HGB.out.symm)); have z0 : w2.cell? ⟨gb, 0, none⟩ = some (.slice A l.length c) := (blk_cell BP.out 0).trans rfl; clear hp))
 go_loopg [4, 19] l.length (fun kq v4 v19 wl => ∃ (i : Nat) (ii : Int), i + kq = l.length ∧ v19 = .int .i64 ii ∧ Aside0 (ii = (i : Int)) ∧ Aside0 (Kd.R Kd.string 9 wl w.heap.size (fun _ => True) v4 (ts.take i)) ∧ Aside0 (Below w.heap.size w wl))
 case atStart => exact ⟨0, 0, by omega, rfl, ⟨rfl⟩, ⟨Kd.R_nil _ _ _ _ _⟩, B2⟩
 case round =>
  clear BO B1 BP B2 z0
  obtain ⟨i, ii, hi, rfl, HII, OL, BL⟩ := hrel
  have HI := Aside0.mk hi
  by_cases hlt : i < l.length
  ·have hcn : decide (ii < (l.length : Int)) = true := decide_eq_true (by have := HII.out; omega)
   have HLT := Aside0.mk hlt
   have p : 0 ≤ ii := by have := HII.out; omega
   have q : ii < (l.length : Int) := by have := HII.out; omega
   obtain ⟨ad, e1, hx0, hx1, hx2, hx3, hx4, hx5, hx6⟩ := at_T46 (Kd.C_below HC.out BL.out) ii p q
   cases e1
   obtain ⟨tx, htx⟩ : ∃ tx, tx = ts[i]'(by have := HTS.out; omega) := ⟨_, rfl⟩
   have TX := Aside0.mk (show prC k (rd_T46 l ii) = some tx by rw [HII.out, rd46 hlt, htx]; exact HP.out i hlt _)
   have TT := Aside0.mk (show ts.take i ++ [tx] = ts.take (i + 1) by rw [htx, List.take_succ_eq_append_getElem (by have := HTS.out; omega)])
   generalize rd_T46 l ii = q at hx0 hx1 hx2 hx3 hx4 hx5 hx6 TX
   replace p := eq_true p
   clear hi hlt htx
   go_wp2_with (first
    | ((with_reducible refine gate_dst (N := 6) rfl ?_); refine box_event ?hg (N := 6) ?hd (cs := #[.bool false, .int .i64 0, .int .i64 0, .int .u32 0, .int .i64 0, .int .i64 0, .int .i64 0]) (t := 46) ?hr ?_; (case hd => rfl); (case hg => rfl); (case hr => first | (go_simp; done) | (go_simp; rfl)); intro g1 hg1 w5 hbox hb; have BO := Aside0.mk hbox; have HB5 := Aside0.mk hb; have HG1 := Aside0.mk hg1; clear hg1 hbox hb)
    | ((with_reducible refine gate_ (.store 46 (.tmp 6) (.tmp 22)) rfl ?_); refine Hand.wpList_store_blk rfl rfl 46 (.tmp 6) (.tmp 22) rfl (cells46 q) (cells46 q).toArray rfl rfl BO.out rfl size46 (Nat.le_refl 7) (fun u hu => by simp [cells46] at hu; rcases hu with rfl | rfl | rfl | rfl | rfl | rfl | rfl <;> rfl) rfl (fun w6 hp => ?_); have BP := Aside0.mk hp.box; have HB6 := Aside0.mk (hp.bl _ HB5.out (Nat.le_of_eq HG1.out.symm)); have z0 : w6.cell? ⟨g1, 0, none⟩ = some (.bool q.f0) := (blk_cell BP.out 0).trans rfl; have z1 : w6.cell? ⟨g1, 1, none⟩ = some (.int .i64 q.f1.f0) := (blk_cell BP.out 1).trans rfl; have z2 : w6.cell? ⟨g1, 2, none⟩ = some (.int .i64 q.f1.f1) := (blk_cell BP.out 2).trans rfl; have z3 : w6.cell? ⟨g1, 3, none⟩ = some (.int .u32 q.f1.f2.f0) := (blk_cell BP.out 3).trans rfl; have z4 : w6.cell? ⟨g1, 4, none⟩ = some (.int .i64 q.f1.f2.f1) := (blk_cell BP.out 4).trans rfl; have z5 : w6.cell? ⟨g1, 5, none⟩ = some (.int .i64 q.f1.f3) := (blk_cell BP.out 5).trans rfl; have z6 : w6.cell? ⟨g1, 6, none⟩ = some (.int .i64 q.f1.f4) := (blk_cell BP.out 6).trans rfl; clear hp hx0 hx1 hx2 hx3 hx4 hx5 hx6)
    | (go_at_call 29; (with_reducible refine (script_PrintChange.calls k q.f0 q.f1.f0 q.f1.f1 q.f1.f2.f0 q.f1.f2.f1 q.f1.f3 q.f1.f4 tx _ (Hand.Good.below false true HG.out (below_step BL.out HB6.out) rfl rfl) TX.out).mono ?_); rintro e w7 ⟨rfl, hb⟩; have O7 := Aside0.mk (Kd.R_below OL.out (below_step HB6.out hb)); have B7 := Aside0.mk (below_step BL.out (below_step HB6.out hb)); clear hb z0 z1 z2 z3 z4 z5 z6)
    | ((with_reducible refine gate_builtin (b := .append) (xs := #[.tmp 23, .tmp 26]) rfl ?_); at_builtin; refine Kd.R_append Kd.string (w0 := w) w.heap.size rfl (.tmp 23) (.tmp 26) 30 9 (.string ⟨#[]⟩) 16 rfl Tryd.underlying30 info9 rfl (by decide) (by omega) u4 (ts.take i) tx [.string tx] (fun _ => True) (fun _ => False) rfl (by first | rfl | (go_simp; done) | (go_simp; rfl)) ?aP (fun _ hk => hk.elim) ?aF ?aO ?aB ?aS ?aL ?_; (case aP => rfl); (case aF => exact (fun k hk => trivial)); (case aO => exact O7.out); (case aB => exact B7.out); (case aS => exact B7.out.size); (case aL => rw [List.length_take]; have := HL.out; have := HLT.out; omega); intro v9 w9 ho hb9 hg9 hat9; rw [TT.out] at ho; have HO9 := Aside0.mk ho; have HB9 := Aside0.mk hb9; clear ho hb9 hg9 hat9))
   go_roundg (l.length - (i + 1))
   case measure => have := HI.out; have := HLT.out; omega
   case rel => exact ⟨i + 1, ii + 1, by have := HLT.out; omega, by rw [wrap64_id _ (by have := HII.out; omega) (by have := HII.out; have := HLT.out; have := HL.out; omega)], ⟨by have := HII.out; omega⟩, HO9, HB9⟩
  ·have hcn : decide (ii < (l.length : Int)) = false := decide_eq_false (by have := HII.out; omega)
   obtain rfl : i = l.length := by omega
   have OE := Aside0.mk (show Kd.R Kd.string 9 wr w.heap.size (fun _ => True) u4 ts by have := OL.out; rwa [List.take_of_length_le (by rw [HTS.out]; exact Nat.le_refl _)] at this)
   obtain ⟨A4, c4, e4⟩ := Kd.R_slice OE.out
   subst e4
   obtain ⟨_, hc4, hC4⟩ := Kd.R_reads' OE.out
   have C4 := Aside0.mk hC4
   have K4 := Aside0.mk hc4
   have hsz : (9223372036854775807 < 6 + r.size) = False := eq_false (by have := HR.out; omega)
   clear hi hlt hC4 hc4
   go_wp2_with (first
    | (go_at_call 77; (with_reducible refine (strings_Join.calls A4 c4 ts _ r _ (Kd.C_below C4.out (Below.refl _ _)) K4.out HJ.out).mono ?_); rintro e w8 ⟨rfl, hb⟩; have B8 := Aside0.mk (below_step BL.out hb); clear hb))
   go_ret
   exact ⟨rfl, B8.out⟩


open Go.Proofs.YtloclimoffhbhaaDoor.Scr Go.Proofs.YtloclimoffhbhaaDoor.Facts Go.Proofs.YtloclimoffhbhaaDoor.Bits
attribute [local go_sem high] eqA46
theorem joinS_snoc : ∀ (ws : List (List UInt8)) (w : List UInt8), joinS (ws ++ [w]) = if ws = [] then w else joinS ws ++ 59 :: 32 :: w
 | [], w => rfl
 | [v], w => rfl
 | u :: v :: r, w => by
  have ih := joinS_snoc (v :: r) w
  rw [if_neg (by simp)] at ih
  rw [if_neg (by simp)]
  show u ++ 59 :: 32 :: joinS (v :: r ++ [w]) = _
  rw [ih]
  simp [joinS]
theorem join_semi (k : List (List UInt8)) (h : (joinS k).length ≤ 100000) : strings_Join.f (k.map B) ⟨#[59, 32]⟩ = some (B (joinS k)) := by
 have hj : ∀ k : List (List UInt8), Lib.join k [59, 32] = joinS k := by
  intro k
  induction k with
  | nil => rfl
  | cons u r ih =>
   cases r with
   | nil => rw [Lib.join_cons]; simp [Lib.joinTail, joinS]
   | cons v r =>
    rw [joinS, ← ih, Lib.join_cons, Lib.join_cons]
    simp [Lib.joinTail]
 have e1 : (k.map B).map (·.data.toList) = k := by
  rw [List.map_map]
  exact (List.map_congr_left (fun x _ => rfl)).trans (List.map_id _)
 have hk : ∀ k : List (List UInt8), k.length ≤ (joinS k).length + 1 := by
  intro k
  induction k with
  | nil => simp
  | cons u r ih =>
   cases r with
   | nil => simp
   | cons v r =>
    simp only [joinS, List.length_append, List.length_cons] at ih ⊢
    omega
 have h2 := hk k
 unfold strings_Join.f
 rw [show (⟨#[59, 32]⟩ : ByteArray).data.toList = [59, 32] from rfl, e1, hj, if_pos ⟨by omega, by rw [List.length_map]; omega⟩]
 rfl
theorem printB_at (k : Nat) (l : List S46) (ts : List ByteArray) {A : Option Addr} {c n b : Nat} {ok : Nat → Prop} {r s : ByteArray} {w w1 : World} (hG : Hand.Good true true w) (hb : Below w.heap.size w w1) (hC : Kd.R k46 46 w1 b ok (.slice A n c) l) (hl : n ≤ 30) (hn : l.length = n) (hts : ts.length = l.length) (hp : ∀ i (h : i < l.length) (h2 : i < ts.length), prC k l[i] = some ts[i]) (hj : strings_Join.f ts ⟨#[59, 32]⟩ = some r) (hr : r.size ≤ 1000000) (hs : (⟨#[98, 97, 116, 99, 104, 32]⟩ : ByteArray) ++ r = s) :
  Calls Tryd.prog 27 #[.iface 122 (.agg #[.slice A n c])] w1 fun e w' => e = .returned (.string s) ∧ Below w1.heap.size w1 w' := by
 subst hn
 rw [← hs]
 exact printB k A c l ts r w1 (Hand.Good.below false true hG hb rfl rfl) (Kd.R_reads' hC).2.2 (by omega) hts hp hj hr
theorem prB_at {k : Nat} {l : List S46} (h : ∀ q ∈ l, prC k (backC q) = some (B (chT q))) (i : Nat) (h1 : i < (l.map backC).length) (h2 : i < ((l.map chT).map B).length) : prC k (l.map backC)[i] = some ((l.map chT).map B)[i] := by
 rw [List.getElem_map, List.getElem_map, List.getElem_map]
 exact h _ (List.getElem_mem _)
def batches_.T19 : Bool × List (List Nat × List Nat) := (true, [([], []), ([0], [0]), ([1], [1]), ([2], [2]), ([2], [2]), ([4, 2], [2, 4]), ([2], [2]), ([5, 6, 2], [2, 5, 6]), ([7, 2], [2, 7]), ([3, 8, 2], [2, 3, 8]), ([2, 9], [2, 9])])
def batches_.B19 : List Nat := [0, 1, 3, 7, 7, 23, 7, 119, 247, 511, 1023]
theorem batches_.tab19 : rtab .any (opsOf Tryd.f18 19) = batches_.T19 := by kernel_rfl
theorem batches_.bits19 : waitsOk batches_.T19.2 batches_.B19 = true := by kernel_rfl
set_option maxHeartbeats 4000000 in
set_option maxRecDepth 100000 in
theorem batches_walk (kR kP kC kA : Nat) (A : Option Addr) (c : Nat) (l : List S46) (w : World) (hG : Hand.Good true true w) (hC : Kd.C k46 w A l.length l) (hc : l.length ≤ c) (h0 : 0 < l.length) (hl : l.length ≤ 30)
  (hR : crossbuckref25_Right.f kR 0 l 0 0 0 0 0 0 0 0 0 0 0 0 0 = some true) (hp : ∀ q ∈ l, prC kP q = some (B (chT q))) (hpb : ∀ q ∈ l, prC kP (backC q) = some (B (chT q))) (hlen : ∀ q ∈ l, (chT q).length ≤ 80)
  (hch : script_changes.f kC (B (joinS (l.map chT))) = some (l.map backC, 0)) (hc1 : ∀ q ∈ l, script_Change.f kC (B (chT q)) = some ((backC q).f0, (backC q).f1.f0, (backC q).f1.f1, (backC q).f1.f2.f0, (backC q).f1.f2.f1, (backC q).f1.f3, (backC q).f1.f4, 0)) (haw : crossbucklaw25_awake.f kA = some true) :
  Calls Tryd.prog 18 #[.slice A l.length c] w fun e w' => e = .returned (.bool true) ∧ Below w.heap.size w w' := by
 have HG := Aside0.mk hG
 have HC := Aside0.mk hC
 have HK := Aside0.mk hc
 have HL := Aside0.mk hl
 have H0 := Aside0.mk h0
 have HR := Aside0.mk hR
 have HP := Aside0.mk hp
 have HPB := Aside0.mk hpb
 have HLEN := Aside0.mk hlen
 have HCH := Aside0.mk hch
 have HC1 := Aside0.mk hc1
 have HAW := Aside0.mk haw
 have B0 := Aside0.mk (Below.refl w.heap.size w)
 have hta := fun v => crossbucklaw25_awake.ta_yes (xT := 20) Tryd.underlying122 v
 have q1 : decide (30 < l.length) = false := decide_eq_false (by omega)
 have q2 : decide ((30 : Int) < (l.length : Int)) = false := decide_eq_false (by omega)
 have q3 : ((l.length : Int) == 0) = false := beq_eq_false_iff_ne.2 (by omega)
 have q4 : decide ((l.length : Int) = 0) = false := decide_eq_false (by omega)
 have q5 : decide (l.length = 0) = false := decide_eq_false (by omega)
 clear hG hC hc h0 hl hR hp hpb hlen hch hc1 haw
 go_enter Tryd.func18, Tryd.ntmps18
 go_wp2_with (first
  | (go_at_call 68; (with_reducible refine (crossbuckref25_Right.calls kR 0 A c l 0 0 0 0 0 0 0 0 0 0 0 0 0 true _ HC.out HK.out HR.out).mono ?_); rintro e w2 ⟨rfl, hb⟩; have B2 := Aside0.mk (below_step B0.out hb); clear hb))
 clear q1 q2 q3 q4 q5
 go_loopg [3, 31] l.length (fun kq v3 v31 wl => ∃ (i : Nat) (ii : Int) (s : ByteArray), i + kq = l.length ∧ v31 = .int .i64 ii ∧ v3 = .string s ∧ Aside0 (ii = (i : Int)) ∧ Aside0 (s = B ([98, 97, 116, 99, 104, 32] ++ joinS ((l.take i).map chT))) ∧ Aside0 (Below w.heap.size w wl))
 case atStart => exact ⟨0, 0, _, by omega, rfl, rfl, ⟨rfl⟩, ⟨rfl⟩, B2⟩
 case round =>
  clear B2
  obtain ⟨i, ii, s, hi, rfl, rfl, HII, HS, BL⟩ := hrel
  have HI := Aside0.mk hi
  have HSZ := Aside0.mk (show s.size ≤ 10000 by
   have h1 := joinS_len ((l.take i).map chT) (fun x hx => by obtain ⟨y, hy, rfl⟩ := List.mem_map.1 hx; exact HLEN.out y (List.mem_of_mem_take hy))
   have h2 := HL.out
   rw [HS.out, B_size, List.length_append]
   rw [List.length_map, List.length_take] at h1
   simp only [List.length_cons, List.length_nil]
   omega)
  by_cases hlt : i < l.length
  ·have hcn : decide (ii < (l.length : Int)) = true := decide_eq_true (by have := HII.out; omega)
   have HLT := Aside0.mk hlt
   have p : 0 ≤ ii := by have := HII.out; omega
   have q : ii < (l.length : Int) := by have := HII.out; omega
   obtain ⟨ad, e1, hx0, hx1, hx2, hx3, hx4, hx5, hx6⟩ := at_T46 (Kd.C_below HC.out BL.out) ii p q
   cases e1
   obtain ⟨q, hq⟩ : ∃ q, q = rd_T46 l ii := ⟨_, rfl⟩
   rw [← hq] at hx0 hx1 hx2 hx3 hx4 hx5 hx6
   rw [HII.out, rd46 hlt] at hq
   have QM := Aside0.mk (show q ∈ l by rw [hq]; exact List.getElem_mem hlt)
   have TK := Aside0.mk (show (l.take i).map chT ++ [chT q] = (l.take (i + 1)).map chT by rw [hq, List.take_succ_eq_append_getElem hlt, List.map_append]; rfl)
   obtain ⟨tx, htx⟩ : ∃ tx, tx = B (chT q) := ⟨_, rfl⟩
   have TX := Aside0.mk (show prC kP q = some tx by rw [htx]; exact HP.out q QM.out)
   have HTX := Aside0.mk htx
   have htl : tx.size ≤ 80 := by rw [htx, B_size]; exact HLEN.out q QM.out
   have hs1 : (9223372036854775807 < s.size + 2) = False := eq_false (by have := HSZ.out; omega)
   have hs2 : (9223372036854775807 < s.size + tx.size) = False := eq_false (by have := HSZ.out; omega)
   have hs3 : (9223372036854775807 < s.size + 2 + tx.size) = False := eq_false (by have := HSZ.out; omega)
   replace p := eq_true p
   clear hi hlt htx hq htl
   rcases (show ii = 0 ∨ 0 < ii by have := HII.out; omega) with hi0 | hi0
   ·have hcp : decide (0 < ii) = false := decide_eq_false (by omega)
    have HI0 := Aside0.mk (show i = 0 by have := HII.out; omega)
    clear hi0
    go_wp2_with (first
     | ((with_reducible refine gate_dst (N := 5) rfl ?_); refine box_event ?hg (N := 5) ?hd (cs := #[.bool false, .int .i64 0, .int .i64 0, .int .u32 0, .int .i64 0, .int .i64 0, .int .i64 0]) (t := 46) ?hr ?_; (case hd => rfl); (case hg => rfl); (case hr => first | (go_simp; done) | (go_simp; rfl)); intro g1 hg1 w51 hbox hb; have BO1 := Aside0.mk hbox; have HB51 := Aside0.mk hb; have HG1 := Aside0.mk hg1; clear hg1 hbox hb)
     | ((with_reducible refine gate_ (.store 46 (.tmp 5) (.tmp 35)) rfl ?_); refine Hand.wpList_store_blk rfl rfl 46 (.tmp 5) (.tmp 35) rfl (cells46 q) (cells46 q).toArray rfl rfl BO1.out rfl size46 (Nat.le_refl 7) (fun u hu => by simp [cells46] at hu; rcases hu with rfl | rfl | rfl | rfl | rfl | rfl | rfl <;> rfl) rfl (fun w61 hp => ?_); have BP1 := Aside0.mk hp.box; have HB61 := Aside0.mk (hp.bl _ HB51.out (Nat.le_of_eq HG1.out.symm)); have z0 : w61.cell? ⟨g1, 0, none⟩ = some (.bool q.f0) := (blk_cell BP1.out 0).trans rfl; have z1 : w61.cell? ⟨g1, 1, none⟩ = some (.int .i64 q.f1.f0) := (blk_cell BP1.out 1).trans rfl; have z2 : w61.cell? ⟨g1, 2, none⟩ = some (.int .i64 q.f1.f1) := (blk_cell BP1.out 2).trans rfl; have z3 : w61.cell? ⟨g1, 3, none⟩ = some (.int .u32 q.f1.f2.f0) := (blk_cell BP1.out 3).trans rfl; have z4 : w61.cell? ⟨g1, 4, none⟩ = some (.int .i64 q.f1.f2.f1) := (blk_cell BP1.out 4).trans rfl; have z5 : w61.cell? ⟨g1, 5, none⟩ = some (.int .i64 q.f1.f3) := (blk_cell BP1.out 5).trans rfl; have z6 : w61.cell? ⟨g1, 6, none⟩ = some (.int .i64 q.f1.f4) := (blk_cell BP1.out 6).trans rfl; clear hx0 hx1 hx2 hx3 hx4 hx5 hx6; clear hp)
     | (go_at_call 29; (with_reducible refine (script_PrintChange.calls kP q.f0 q.f1.f0 q.f1.f1 q.f1.f2.f0 q.f1.f2.f1 q.f1.f3 q.f1.f4 tx _ (Hand.Good.below false true HG.out (below_step BL.out HB61.out) rfl rfl) TX.out).mono ?_); rintro e w7 ⟨rfl, hb⟩; have B7 := Aside0.mk (below_step BL.out (below_step HB61.out hb)); clear hb z0 z1 z2 z3 z4 z5 z6))
    go_roundg (l.length - (i + 1))
    case measure => have := HI.out; have := HLT.out; omega
    case rel => exact ⟨i + 1, ii + 1, _, by have := HLT.out; omega, by rw [wrap64_id _ (by have := HII.out; omega) (by have := HII.out; have := HLT.out; have := HL.out; omega)], rfl, ⟨by have := HII.out; omega⟩, ⟨by
     have h0 := HI0.out
     rw [← TK.out, HS.out, HTX.out, B_add, h0]
     simp [joinS]⟩, B7⟩
   ·have hcp : decide (0 < ii) = true := decide_eq_true hi0
    have HI0 := Aside0.mk (show 0 < i by have := HII.out; omega)
    clear hi0
    go_wp2_with (first
     | ((with_reducible refine gate_dst (N := 5) rfl ?_); refine box_event ?hg (N := 5) ?hd (cs := #[.bool false, .int .i64 0, .int .i64 0, .int .u32 0, .int .i64 0, .int .i64 0, .int .i64 0]) (t := 46) ?hr ?_; (case hd => rfl); (case hg => rfl); (case hr => first | (go_simp; done) | (go_simp; rfl)); intro g1 hg1 w51 hbox hb; have BO1 := Aside0.mk hbox; have HB51 := Aside0.mk hb; have HG1 := Aside0.mk hg1; clear hg1 hbox hb)
     | ((with_reducible refine gate_ (.store 46 (.tmp 5) (.tmp 35)) rfl ?_); refine Hand.wpList_store_blk rfl rfl 46 (.tmp 5) (.tmp 35) rfl (cells46 q) (cells46 q).toArray rfl rfl BO1.out rfl size46 (Nat.le_refl 7) (fun u hu => by simp [cells46] at hu; rcases hu with rfl | rfl | rfl | rfl | rfl | rfl | rfl <;> rfl) rfl (fun w61 hp => ?_); have BP1 := Aside0.mk hp.box; have HB61 := Aside0.mk (hp.bl _ HB51.out (Nat.le_of_eq HG1.out.symm)); have z0 : w61.cell? ⟨g1, 0, none⟩ = some (.bool q.f0) := (blk_cell BP1.out 0).trans rfl; have z1 : w61.cell? ⟨g1, 1, none⟩ = some (.int .i64 q.f1.f0) := (blk_cell BP1.out 1).trans rfl; have z2 : w61.cell? ⟨g1, 2, none⟩ = some (.int .i64 q.f1.f1) := (blk_cell BP1.out 2).trans rfl; have z3 : w61.cell? ⟨g1, 3, none⟩ = some (.int .u32 q.f1.f2.f0) := (blk_cell BP1.out 3).trans rfl; have z4 : w61.cell? ⟨g1, 4, none⟩ = some (.int .i64 q.f1.f2.f1) := (blk_cell BP1.out 4).trans rfl; have z5 : w61.cell? ⟨g1, 5, none⟩ = some (.int .i64 q.f1.f3) := (blk_cell BP1.out 5).trans rfl; have z6 : w61.cell? ⟨g1, 6, none⟩ = some (.int .i64 q.f1.f4) := (blk_cell BP1.out 6).trans rfl; clear hx0 hx1 hx2 hx3 hx4 hx5 hx6; clear hp)
     | (go_at_call 29; (with_reducible refine (script_PrintChange.calls kP q.f0 q.f1.f0 q.f1.f1 q.f1.f2.f0 q.f1.f2.f1 q.f1.f3 q.f1.f4 tx _ (Hand.Good.below false true HG.out (below_step BL.out HB61.out) rfl rfl) TX.out).mono ?_); rintro e w7 ⟨rfl, hb⟩; have B7 := Aside0.mk (below_step BL.out (below_step HB61.out hb)); clear hb z0 z1 z2 z3 z4 z5 z6))
    go_roundg (l.length - (i + 1))
    case measure => have := HI.out; have := HLT.out; omega
    case rel => exact ⟨i + 1, ii + 1, _, by have := HLT.out; omega, by rw [wrap64_id _ (by have := HII.out; omega) (by have := HII.out; have := HLT.out; have := HL.out; omega)], rfl, ⟨by have := HII.out; omega⟩, ⟨by
     have h0 := HI0.out
     have h1 := HLT.out
     rw [← TK.out, joinS_snoc, if_neg (by intro e; have := congrArg List.length e; rw [List.length_map, List.length_take, List.length_nil] at this; omega), HS.out, HTX.out, show (⟨#[59, 32]⟩ : ByteArray) = B [59, 32] from rfl, B_add, B_add]
     simp⟩, B7⟩
  ·have hcn : decide (ii < (l.length : Int)) = false := decide_eq_false (by have := HII.out; omega)
   obtain rfl : i = l.length := by omega
   rw [List.take_length] at HS
   clear hi hlt
   have hcut := cut_mid 32 [98, 97, 116, 99, 104] (joinS (l.map chT)) (by decide) (by
    have := HSZ.out
    rw [HS.out, B_size] at this
    simp only [List.length_append, List.length_cons, List.length_nil] at this ⊢
    omega)
   have HCUT := Aside0.mk (show strings_Cut.f s ⟨#[32]⟩ = some (B [98, 97, 116, 99, 104], B (joinS (l.map chT)), true) by rw [HS.out]; exact hcut)
   have HJ := Aside0.mk (join_semi (l.map chT) (by
    have := HSZ.out
    rw [HS.out, B_size] at this
    simp only [List.length_append, List.length_cons, List.length_nil] at this
    omega))
   have HJS := Aside0.mk (show (B (joinS (l.map chT))).size ≤ 1000000 by
    have := HSZ.out
    rw [HS.out, B_size] at this
    rw [B_size]
    simp only [List.length_append, List.length_cons, List.length_nil] at this
    omega)
   have HSE := Aside0.mk (show (⟨#[98, 97, 116, 99, 104, 32]⟩ : ByteArray) ++ B (joinS (l.map chT)) = s by rw [HS.out, ← B_add]; rfl)
   clear hcut
   go_wp2_with (first
    | (go_at_call 26; (with_reducible refine (crossbucklaw25_awake.batch_ kC s _ _ (l.map backC) _ (Hand.Good.below true false HG.out BL.out rfl rfl) HCUT.out (toList_B _) HCH.out).mono ?_); rintro e w7 ⟨v7, rfl, hr, hb⟩; obtain ⟨X7, x7, e7⟩ := Kd.R_slice hr; subst e7; rw [List.length_map] at hr ⊢; have R7 := Aside0.mk hr; have B7 := Aside0.mk (below_step BL.out hb); clear hr hb)
    | ((with_reducible refine gate_dst (N := 8) rfl ?_); refine box_event ?hg (N := 8) ?hd (cs := #[.slice none 0 0]) (t := 122) ?hr ?_; (case hd => rfl); (case hg => rfl); (case hr => first | (go_simp; done) | (go_simp; rfl)); intro gb hgb w8 hbox hb; have BO := Aside0.mk hbox; have B8 := Aside0.mk hb; have HGB := Aside0.mk hgb; clear hgb hbox hb)
    | ((with_reducible refine gate_ (.store 122 (.tmp 8) (.tmp 53)) rfl ?_); refine Hand.wpList_store_blk rfl rfl 122 (.tmp 8) (.tmp 53) rfl [.slice X7 l.length x7] #[.slice X7 l.length x7] rfl rfl BO.out rfl size122 (Nat.le_refl 1) (fun u hu => by simp at hu; rcases hu with rfl; rfl) rfl (fun w9 hp => ?_); have BP := Aside0.mk hp.box; have B9 := Aside0.mk (hp.bl _ B8.out (Nat.le_of_eq HGB.out.symm)); have z0 : w9.cell? ⟨gb, 0, none⟩ = some (.slice X7 l.length x7) := (blk_cell BP.out 0).trans rfl; clear hp)
    | (go_at_call 27; (with_reducible refine (printB_at kP (l.map backC) ((l.map chT).map B) HG.out (below_step B7.out B9.out) (Kd.R_below R7.out B9.out) HL.out (by rw [List.length_map]) (by rw [List.length_map, List.length_map, List.length_map]) (fun i h h2 => prB_at HPB.out i h h2) HJ.out HJS.out HSE.out).mono ?_); rintro e w10 ⟨rfl, hb⟩; have B10 := Aside0.mk (below_step (below_step B7.out B9.out) hb); have R10 := Aside0.mk (Kd.R_below R7.out (below_step B9.out hb)); have BP10 := Aside0.mk (blk_below BP.out hb); clear hb z0))
   clear HCUT HJ HJS HSE HSZ HS
   go_loopg [77] l.length (fun kq v77 wl => ∃ (j : Nat) (jj : Int), j + kq = l.length ∧ v77 = .int .i64 jj ∧ Aside0 (jj = (j : Int)) ∧ Aside0 (Below w10.heap.size w10 wl))
   case atStart => exact ⟨0, 0, by omega, rfl, ⟨rfl⟩, ⟨Below.refl _ _⟩⟩
   case round =>
    obtain ⟨j, jj, hj, rfl, HJJ, BM⟩ := hrel
    have HJ := Aside0.mk hj
    by_cases hlj : j < l.length
    ·have hcj : decide (jj < (l.length : Int)) = true := decide_eq_true (by have := HJJ.out; omega)
     have HLJ := Aside0.mk hlj
     have p : 0 ≤ jj := by have := HJJ.out; omega
     have q : jj < (l.length : Int) := by have := HJJ.out; omega
     have BW := Aside0.mk (below_step B10.out BM.out)
     obtain ⟨ad, e1, hx0, hx1, hx2, hx3, hx4, hx5, hx6⟩ := at_T46 (Kd.C_below HC.out BW.out) jj p q
     cases e1
     have R11 := Aside0.mk (Kd.R_below R10.out BM.out)
     obtain ⟨ad7, e7, hy0, hy1, hy2, hy3, hy4, hy5, hy6⟩ := at_T46 (Kd.R_reads' R11.out).2.2 jj p (by rw [List.length_map]; exact q)
     subst e7
     have hrb : rd_T46 (l.map backC) jj = backC l[j] := by rw [HJJ.out, rd46 (by rw [List.length_map]; exact hlj), List.getElem_map]
     obtain ⟨q0, hq⟩ : ∃ q, q = rd_T46 l jj := ⟨_, rfl⟩
     rw [← hq] at hx0 hx1 hx2 hx3 hx4 hx5 hx6
     rw [HJJ.out, rd46 hlj] at hq
     rw [hrb, ← hq] at hy0 hy1 hy2 hy3 hy4 hy5 hy6
     have QM := Aside0.mk (show q0 ∈ l by rw [hq]; exact List.getElem_mem hlj)
     have TX := Aside0.mk (HP.out q0 QM.out)
     have CX := Aside0.mk (HC1.out q0 QM.out)
     generalize backC q0 = b at hy0 hy1 hy2 hy3 hy4 hy5 hy6 CX
     generalize B (chT q0) = tx at TX CX
     have Y0 := Aside0.mk hy0
     have Y1 := Aside0.mk hy1
     have Y2 := Aside0.mk hy2
     have Y3 := Aside0.mk hy3
     have Y4 := Aside0.mk hy4
     have Y5 := Aside0.mk hy5
     have Y6 := Aside0.mk hy6
     replace p := eq_true p
     clear hj hlj hq hrb hy0 hy1 hy2 hy3 hy4 hy5 hy6
     go_wp2_with (first
      | ((with_reducible refine gate_dst (N := 11) rfl ?_); refine box_event ?hg (N := 11) ?hd (cs := #[.bool false, .int .i64 0, .int .i64 0, .int .u32 0, .int .i64 0, .int .i64 0, .int .i64 0]) (t := 46) ?hr ?_; (case hd => rfl); (case hg => rfl); (case hr => first | (go_simp; done) | (go_simp; rfl)); intro g2 hg2 w52 hbox hb; have BO2 := Aside0.mk hbox; have HB52 := Aside0.mk hb; have HG2 := Aside0.mk hg2; clear hg2 hbox hb)
      | ((with_reducible refine gate_ (.store 46 (.tmp 11) (.tmp 81)) rfl ?_); refine Hand.wpList_store_blk rfl rfl 46 (.tmp 11) (.tmp 81) rfl (cells46 q0) (cells46 q0).toArray rfl rfl BO2.out rfl size46 (Nat.le_refl 7) (fun u hu => by simp [cells46] at hu; rcases hu with rfl | rfl | rfl | rfl | rfl | rfl | rfl <;> rfl) rfl (fun w62 hp => ?_); have BP2 := Aside0.mk hp.box; have HB62 := Aside0.mk (hp.bl _ HB52.out (Nat.le_of_eq HG2.out.symm)); have z0 : w62.cell? ⟨g2, 0, none⟩ = some (.bool q0.f0) := (blk_cell BP2.out 0).trans rfl; have z1 : w62.cell? ⟨g2, 1, none⟩ = some (.int .i64 q0.f1.f0) := (blk_cell BP2.out 1).trans rfl; have z2 : w62.cell? ⟨g2, 2, none⟩ = some (.int .i64 q0.f1.f1) := (blk_cell BP2.out 2).trans rfl; have z3 : w62.cell? ⟨g2, 3, none⟩ = some (.int .u32 q0.f1.f2.f0) := (blk_cell BP2.out 3).trans rfl; have z4 : w62.cell? ⟨g2, 4, none⟩ = some (.int .i64 q0.f1.f2.f1) := (blk_cell BP2.out 4).trans rfl; have z5 : w62.cell? ⟨g2, 5, none⟩ = some (.int .i64 q0.f1.f3) := (blk_cell BP2.out 5).trans rfl; have z6 : w62.cell? ⟨g2, 6, none⟩ = some (.int .i64 q0.f1.f4) := (blk_cell BP2.out 6).trans rfl; clear hx0 hx1 hx2 hx3 hx4 hx5 hx6; clear hp)
      | (go_at_call 29; (with_reducible refine (script_PrintChange.calls kP q0.f0 q0.f1.f0 q0.f1.f1 q0.f1.f2.f0 q0.f1.f2.f1 q0.f1.f3 q0.f1.f4 tx _ (Hand.Good.below false true HG.out (below_step BW.out HB62.out) rfl rfl) TX.out).mono ?_); rintro e w7 ⟨rfl, hb⟩; have D7 := Aside0.mk (below_step HB62.out hb); clear hb z0 z1 z2 z3 z4 z5 z6)
      | (go_at_call 28; (with_reducible refine (script_Change.calls kC tx b.f0 b.f1.f0 b.f1.f1 b.f1.f2.f0 b.f1.f2.f1 b.f1.f3 b.f1.f4 0 _ (Hand.Good.below true false HG.out (below_step BW.out D7.out) rfl rfl) CX.out).mono ?_); rintro e w8 ⟨rfl, hb⟩; have D8 := Aside0.mk (below_step D7.out hb); clear hb)
      | ((with_reducible refine gate_dst (N := 12) rfl ?_); refine box_event ?hg (N := 12) ?hd (cs := #[.bool false, .int .i64 0, .int .i64 0, .int .u32 0, .int .i64 0, .int .i64 0, .int .i64 0]) (t := 46) ?hr ?_; (case hd => rfl); (case hg => rfl); (case hr => first | (go_simp; done) | (go_simp; rfl)); intro g3 hg3 w53 hbox hb; have BO3 := Aside0.mk hbox; have HB53 := Aside0.mk hb; have HG3 := Aside0.mk hg3; clear hg3 hbox hb)
      | ((with_reducible refine gate_ (.store 46 (.tmp 12) (.tmp 86)) rfl ?_); refine Hand.wpList_store_blk rfl rfl 46 (.tmp 12) (.tmp 86) rfl (cells46 b) (cells46 b).toArray rfl rfl BO3.out rfl size46 (Nat.le_refl 7) (fun u hu => by simp [cells46] at hu; rcases hu with rfl | rfl | rfl | rfl | rfl | rfl | rfl <;> rfl) rfl (fun w63 hp => ?_); have BP3 := Aside0.mk hp.box; have HB63 := Aside0.mk (hp.bl _ HB53.out (Nat.le_of_eq HG3.out.symm)); clear hp))
     have D9 := Aside0.mk (below_step D8.out HB63.out)
     have BD := Aside0.mk (below_drew1 (below_step BM.out D9.out))
     have PB3 := Aside0.mk (blk_drew BP3.out)
     have PGB := Aside0.mk (blk_below BP10.out BD.out)
     have hb6 := below_drew1 D9.out
     have hq0 : w63.drew.cell? ⟨g3, 0, none⟩ = some (.bool b.f0) := (blk_cell PB3.out 0).trans rfl
     have hq1 : w63.drew.cell? ⟨g3, 1, none⟩ = some (.int .i64 b.f1.f0) := (blk_cell PB3.out 1).trans rfl
     have hq2 : w63.drew.cell? ⟨g3, 2, none⟩ = some (.int .i64 b.f1.f1) := (blk_cell PB3.out 2).trans rfl
     have hq3 : w63.drew.cell? ⟨g3, 3, none⟩ = some (.int .u32 b.f1.f2.f0) := (blk_cell PB3.out 3).trans rfl
     have hq4 : w63.drew.cell? ⟨g3, 4, none⟩ = some (.int .i64 b.f1.f2.f1) := (blk_cell PB3.out 4).trans rfl
     have hq5 : w63.drew.cell? ⟨g3, 5, none⟩ = some (.int .i64 b.f1.f3) := (blk_cell PB3.out 5).trans rfl
     have hq6 : w63.drew.cell? ⟨g3, 6, none⟩ = some (.int .i64 b.f1.f4) := (blk_cell PB3.out 6).trans rfl
     have hq7 : w63.drew.cell? ⟨gb, 0, none⟩ = some (.slice (some ad7) l.length x7) := (blk_cell PGB.out 0).trans rfl
     have hq8 := pw_cell_below hb6 Y0.out
     have hq9 := pw_cell_below hb6 Y1.out
     have hq10 := pw_cell_below hb6 Y2.out
     have hq11 := pw_cell_below hb6 Y3.out
     have hq12 := pw_cell_below hb6 Y4.out
     have hq13 := pw_cell_below hb6 Y5.out
     have hq14 := pw_cell_below hb6 Y6.out
     refine start_ (n := 11) (S := fun w' => w'.cell? ⟨g3, 0, none⟩ = some (.bool b.f0) ∧ w'.cell? ⟨g3, 1, none⟩ = some (.int .i64 b.f1.f0) ∧ w'.cell? ⟨g3, 2, none⟩ = some (.int .i64 b.f1.f1) ∧ w'.cell? ⟨g3, 3, none⟩ = some (.int .u32 b.f1.f2.f0) ∧ w'.cell? ⟨g3, 4, none⟩ = some (.int .i64 b.f1.f2.f1) ∧ w'.cell? ⟨g3, 5, none⟩ = some (.int .i64 b.f1.f3) ∧ w'.cell? ⟨g3, 6, none⟩ = some (.int .i64 b.f1.f4) ∧ w'.cell? ⟨gb, 0, none⟩ = some (.slice (some ad7) l.length x7) ∧ w'.cell? (ad7.add (jj.toNat * 7)) = some (.bool b.f0) ∧ w'.cell? ⟨(ad7.add (jj.toNat * 7)).block, (ad7.add (jj.toNat * 7)).off + 1, none⟩ = some (.int .i64 b.f1.f0) ∧ w'.cell? ⟨(ad7.add (jj.toNat * 7)).block, (ad7.add (jj.toNat * 7)).off + 2, none⟩ = some (.int .i64 b.f1.f1) ∧ w'.cell? ⟨(ad7.add (jj.toNat * 7)).block, (ad7.add (jj.toNat * 7)).off + 3, none⟩ = some (.int .u32 b.f1.f2.f0) ∧ w'.cell? ⟨(ad7.add (jj.toNat * 7)).block, (ad7.add (jj.toNat * 7)).off + 4, none⟩ = some (.int .i64 b.f1.f2.f1) ∧ w'.cell? ⟨(ad7.add (jj.toNat * 7)).block, (ad7.add (jj.toNat * 7)).off + 5, none⟩ = some (.int .i64 b.f1.f3) ∧ w'.cell? ⟨(ad7.add (jj.toNat * 7)).block, (ad7.add (jj.toNat * 7)).off + 6, none⟩ = some (.int .i64 b.f1.f4)) (ds := []) #[false, false, false, false, false, false, false, false, false, false, false] (by kernel_rfl) rfl rfl ⟨hq0, hq1, hq2, hq3, hq4, hq5, hq6, hq7, hq8, hq9, hq10, hq11, hq12, hq13, hq14⟩ (fun hHeld => ?_)
     refine with_tabW batches_.tab19 batches_.bits19 (fun HT_ HW_ => ?_)
     clear hq0 hq1 hq2 hq3 hq4 hq5 hq6 hq7 hq8 hq9 hq10 hq11 hq12 hq13 hq14 hb6
     generalize w63.drew = wd at BD hHeld ⊢
     refine pure_ (i := 0) (N := some 88) (v := ?_) (a' := ?_) #[true, false, false, false, false, false, false, false, false, false, false] rfl rfl (any_of HT_.out (by kernel_rfl)) (fun _ _ _ h => h) (Or.inl ⟨by rfl, ?_⟩) ?_ ?_
     rotate_left
     ·intro w'
      go_simp
      with_reducible rfl
     rotate_left
     ·simp only [Act.put, List.setIfInBounds_toArray, List.set_cons_zero, List.set_cons_succ, i64_w, i32_w]
      rfl
     refine pure_ (i := 1) (N := some 89) (v := ?_) (a' := ?_) #[true, true, false, false, false, false, false, false, false, false, false] rfl rfl (any_of HT_.out (by kernel_rfl)) (fun _ _ _ h => h) (Or.inl ⟨by rfl, ?_⟩) ?_ ?_
     rotate_left
     ·intro w'
      go_simp
      with_reducible rfl
     rotate_left
     ·simp only [Act.put, List.setIfInBounds_toArray, List.set_cons_zero, List.set_cons_succ, i64_w, i32_w]
      rfl
     refine pure_ (i := 2) (N := some 90) (v := ?_) (a' := ?_) #[true, true, true, false, false, false, false, false, false, false, false] rfl rfl (any_of HT_.out (by kernel_rfl)) (fun _ _ _ h => h) (Or.inl ⟨by rfl, ?_⟩) ?_ ?_
     rotate_left
     ·intro w'
      go_simp
      with_reducible rfl
     rotate_left
     ·simp only [Act.put, List.setIfInBounds_toArray, List.set_cons_zero, List.set_cons_succ, i64_w, i32_w]
      rfl
     refine pure_ (i := 4) (N := some 92) (v := ?_) (a' := ?_) #[true, true, true, false, true, false, false, false, false, false, false] rfl rfl (any_of HT_.out (by kernel_rfl)) (fun _ _ _ h => h) (Or.inl ⟨by rfl, ?_⟩) ?_ ?_
     rotate_left
     ·intro w'
      go_simp
      with_reducible rfl
     rotate_left
     ·simp only [Act.put, List.setIfInBounds_toArray, List.set_cons_zero, List.set_cons_succ, i64_w, i32_w]
      rfl
     refine pure_ (i := 6) (N := some 94) (v := ?_) (a' := ?_) #[true, true, true, false, true, false, true, false, false, false, false] rfl rfl (any_of HT_.out (by kernel_rfl)) (fun _ _ _ h => h) (Or.inl ⟨by rfl, ?_⟩) ?_ ?_
     rotate_left
     ·intro w'
      go_simp
      with_reducible rfl
     rotate_left
     ·simp only [Act.put, List.setIfInBounds_toArray, List.set_cons_zero, List.set_cons_succ, i64_w, i32_w]
      rfl
     refine take_ (i := 3) (N := some 91) (v := ?_) (a' := ?_) #[true, true, true, true, true, false, true, false, false, false, false] rfl rfl (take_ofW HT_.out HW_.out (by kernel_rfl)) (fun _ _ _ h => h) (Or.inl ⟨by rfl, ?_⟩) hHeld ?_ ?_
     rotate_left
     ·rintro w' ⟨s0, s1, s2, s3, s4, s5, s6, s7, s8, s9, s10, s11, s12, s13, s14⟩
      go_simp
      with_reducible rfl
     rotate_left
     ·simp only [Act.put, List.setIfInBounds_toArray, List.set_cons_zero, List.set_cons_succ, i64_w, i32_w]
      rfl
     refine take_ (i := 5) (N := some 93) (v := ?_) (a' := ?_) #[true, true, true, true, true, true, true, false, false, false, false] rfl rfl (take_ofW HT_.out HW_.out (by kernel_rfl)) (fun _ _ _ h => h) (Or.inl ⟨by rfl, ?_⟩) hHeld ?_ ?_
     rotate_left
     ·rintro w' ⟨s0, s1, s2, s3, s4, s5, s6, s7, s8, s9, s10, s11, s12, s13, s14⟩
      go_simp
      with_reducible rfl
     rotate_left
     ·simp only [Act.put, List.setIfInBounds_toArray, List.set_cons_zero, List.set_cons_succ, i64_w, i32_w]
      rfl
     refine pure_ (i := 7) (N := some 95) (v := ?_) (a' := ?_) #[true, true, true, true, true, true, true, true, false, false, false] rfl rfl (any_of HT_.out (by kernel_rfl)) (fun _ _ _ h => h) (Or.inl ⟨by rfl, ?_⟩) ?_ ?_
     rotate_left
     ·intro w'
      go_simp
      with_reducible rfl
     rotate_left
     ·simp only [Act.put, List.setIfInBounds_toArray, List.set_cons_zero, List.set_cons_succ, i64_w, i32_w]
      rfl
     refine take_ (i := 8) (N := some 96) (v := ?_) (a' := ?_) #[true, true, true, true, true, true, true, true, true, false, false] rfl rfl (take_ofW HT_.out HW_.out (by kernel_rfl)) (fun _ _ _ h => h) (Or.inl ⟨by rfl, ?_⟩) hHeld ?_ ?_
     rotate_left
     ·rintro w' ⟨s0, s1, s2, s3, s4, s5, s6, s7, s8, s9, s10, s11, s12, s13, s14⟩
      go_simp
      with_reducible rfl
     rotate_left
     ·simp only [Act.put, List.setIfInBounds_toArray, List.set_cons_zero, List.set_cons_succ, i64_w, i32_w]
      rfl
     refine pure_ (i := 9) (N := some 97) (v := ?_) (a' := ?_) #[true, true, true, true, true, true, true, true, true, true, false] rfl rfl (any_of HT_.out (by kernel_rfl)) (fun _ _ _ h => h) (Or.inl ⟨by rfl, ?_⟩) ?_ ?_
     rotate_left
     ·intro w'
      go_simp
      with_reducible rfl
     rotate_left
     ·simp only [Act.put, List.setIfInBounds_toArray, List.set_cons_zero, List.set_cons_succ, i64_w, i32_w]
      rfl
     refine pure_ (i := 10) (N := some 98) (v := ?_) (a' := ?_) #[true, true, true, true, true, true, true, true, true, true, true] rfl rfl (any_of HT_.out (by kernel_rfl)) (fun _ _ _ h => h) (Or.inl ⟨by rfl, ?_⟩) ?_ ?_
     rotate_left
     ·intro w'
      go_simp
      with_reducible rfl
     rotate_left
     ·simp only [Act.put, List.setIfInBounds_toArray, List.set_cons_zero, List.set_cons_succ, i64_w, i32_w]
      rfl
     refine done_ (done_of HT_.out (by kernel_rfl)) ?_
     go_wp2
     go_roundg (l.length - (j + 1))
     case measure => have := HJ.out; have := HLJ.out; omega
     case rel => exact ⟨j + 1, jj + 1, by have := HLJ.out; omega, by rw [wrap64_id _ (by have := HJJ.out; omega) (by have := HJJ.out; have := HLJ.out; have := HL.out; omega)], ⟨by have := HJJ.out; omega⟩, BD⟩
    ·have hcj : decide (jj < (l.length : Int)) = false := decide_eq_false (by have := HJJ.out; omega)
     obtain rfl : j = l.length := by omega
     clear hj hlj
     go_wp2_with (first
      | (go_at_call 21; (with_reducible refine (crossbucklaw25_awake.calls kA true _ (Hand.Good.below true false HG.out (below_step B10.out BM.out) rfl rfl) HAW.out).mono ?_); rintro e w20 ⟨rfl, hb⟩; have B20 := Aside0.mk (below_step (below_step B10.out BM.out) hb); clear hb))
     go_ret
     exact ⟨rfl, B20.out⟩


open Go.Proofs.YtloclimoffhbhaaDoor.Scr Go.Proofs.YtloclimoffhbhaaDoor.Facts Go.Proofs.YtloclimoffhbhaaDoor.Bits
theorem backC_right {q : S46} (hb : bdC q) (h : rightC q = true) : bdC (backC q) ∧ rightC (backC q) = true ∧ chT (backC q) = chT q := by
 unfold backC
 by_cases hd : q.f0 = true
 ·rw [if_pos hd]
  refine ⟨⟨Int.le_refl 0, show (0 : Int) < 4294967296 by decide⟩, ?_, ?_⟩
  ·rw [rightC_iff] at h ⊢
   exact ⟨h.1, .inl rfl⟩
  ·unfold chT
   rw [if_pos hd, if_pos rfl]
 ·rw [if_neg hd]
  exact ⟨hb, h, rfl⟩
/-! ### crossbucklaw25_ScriptBatches: function 18 (by hand) -/
def bdB (q : S46) : Bool := decide (0 ≤ q.f1.f2.f0) && decide (q.f1.f2.f0 < 4294967296)
theorem bdB_iff {q : S46} : bdB q = true ↔ bdC q := by unfold bdB bdC; simp
def crossbucklaw25_ScriptBatches.f (l0 : List S46) : Option Bool := if l0.all bdB = true then some true else none
set_option maxHeartbeats 4000000 in
set_option maxRecDepth 100000 in
theorem batches_few (kA : Nat) (A : Option Addr) (c : Nat) (l : List S46) (w : World) (hG : Hand.Good true true w) (h : l.length = 0 ∨ 30 < l.length) (haw : crossbucklaw25_awake.f kA = some true) :
  Calls Tryd.prog 18 #[.slice A l.length c] w fun e w' => e = .returned (.bool true) ∧ Below w.heap.size w w' := by
 have HG := Aside0.mk hG
 have HAW := Aside0.mk haw
 have B0 := Aside0.mk (Below.refl w.heap.size w)
 rcases h with h | h
 ·rw [h]
  clear h hG haw
  go_enter Tryd.func18, Tryd.ntmps18
  go_wp2_with (first
   | (go_at_call 21; (with_reducible refine (crossbucklaw25_awake.calls kA true _ (Hand.Good.below true false HG.out B0.out rfl rfl) HAW.out).mono ?_); rintro e w20 ⟨rfl, hb⟩; have B20 := Aside0.mk hb; clear hb))
  go_ret
  exact ⟨rfl, B20.out⟩
 ·have q1 : decide (30 < l.length) = true := decide_eq_true h
  have q2 : decide ((30 : Int) < (l.length : Int)) = true := decide_eq_true (by omega)
  have q3 : ((l.length : Int) == 0) = false := beq_eq_false_iff_ne.2 (by omega)
  have q4 : decide ((l.length : Int) = 0) = false := decide_eq_false (by omega)
  have q5 : decide (l.length = 0) = false := decide_eq_false (by omega)
  clear h hG haw
  go_enter Tryd.func18, Tryd.ntmps18
  go_wp2_with (first
   | (go_at_call 21; (with_reducible refine (crossbucklaw25_awake.calls kA true _ (Hand.Good.below true false HG.out B0.out rfl rfl) HAW.out).mono ?_); rintro e w20 ⟨rfl, hb⟩; have B20 := Aside0.mk hb; clear hb))
  go_ret
  exact ⟨rfl, B20.out⟩
set_option maxHeartbeats 4000000 in
set_option maxRecDepth 100000 in
theorem batches_wrong (kA kR : Nat) (A : Option Addr) (c : Nat) (l : List S46) (w : World) (hG : Hand.Good true true w) (hC : Kd.C k46 w A l.length l) (hc : l.length ≤ c) (h0 : 0 < l.length) (hl : l.length ≤ 30) (hR : crossbuckref25_Right.f kR 0 l 0 0 0 0 0 0 0 0 0 0 0 0 0 = some false) (haw : crossbucklaw25_awake.f kA = some true) :
  Calls Tryd.prog 18 #[.slice A l.length c] w fun e w' => e = .returned (.bool true) ∧ Below w.heap.size w w' := by
 have HG := Aside0.mk hG
 have HC := Aside0.mk hC
 have HK := Aside0.mk hc
 have HR := Aside0.mk hR
 have HAW := Aside0.mk haw
 have B0 := Aside0.mk (Below.refl w.heap.size w)
 have q1 : decide (30 < l.length) = false := decide_eq_false (by omega)
 have q2 : decide ((30 : Int) < (l.length : Int)) = false := decide_eq_false (by omega)
 have q3 : ((l.length : Int) == 0) = false := beq_eq_false_iff_ne.2 (by omega)
 have q4 : decide ((l.length : Int) = 0) = false := decide_eq_false (by omega)
 have q5 : decide (l.length = 0) = false := decide_eq_false (by omega)
 clear hG hC hc h0 hl hR haw
 go_enter Tryd.func18, Tryd.ntmps18
 go_wp2_with (first
  | (go_at_call 68; (with_reducible refine (crossbuckref25_Right.calls kR 0 A c l 0 0 0 0 0 0 0 0 0 0 0 0 0 false _ HC.out HK.out HR.out).mono ?_); rintro e w2 ⟨rfl, hb⟩; have B2 := Aside0.mk (below_step B0.out hb); clear hb)
  | (go_at_call 21; (with_reducible refine (crossbucklaw25_awake.calls kA true _ (Hand.Good.below true false HG.out B2.out rfl rfl) HAW.out).mono ?_); rintro e w20 ⟨rfl, hb⟩; have B20 := Aside0.mk (below_step B2.out hb); clear hb))
 go_ret
 exact ⟨rfl, B20.out⟩
theorem ev_all {α : Type} {P : α → Prop} {g : α → Nat → Prop} : ∀ (l : List α), (∀ q ∈ l, ∃ K, ∀ k, K ≤ k → g q k) → ∃ K, ∀ k, K ≤ k → ∀ q ∈ l, g q k
 | [], _ => ⟨0, fun k _ q hq => by cases hq⟩
 | x :: l, h => by
  obtain ⟨K1, h1⟩ := h x List.mem_cons_self
  obtain ⟨K2, h2⟩ := ev_all (P := P) l (fun q hq => h q (List.mem_cons_of_mem _ hq))
  refine ⟨max K1 K2, fun k hk q hq => ?_⟩
  rcases List.mem_cons.1 hq with rfl | hq
  ·exact h1 k (by omega)
  ·exact h2 k (by omega) q hq
theorem crossbucklaw25_ScriptBatches.calls (A0 : Option Addr) (c0 : Nat) (l0 : List S46) (r : Bool) (w : World) (hr0 : Kd.C k46 w A0 l0.length l0) (hc0 : l0.length ≤ c0) (hG : Hand.Good true true w) (h : crossbucklaw25_ScriptBatches.f l0 = some r) :
  Calls Tryd.prog 18 #[.slice A0 l0.length c0] w fun e w' => e = .returned (.bool r) ∧ Below w.heap.size w w' := by
 unfold crossbucklaw25_ScriptBatches.f at h
 by_cases hb' : l0.all bdB = true
 case neg => rw [if_neg hb'] at h; cases h
 rw [if_pos hb'] at h
 have hb : ∀ q ∈ l0, bdC q := fun q hq => bdB_iff.1 (List.all_eq_true.1 hb' q hq)
 obtain rfl := Option.some.inj h
 obtain ⟨kA, hA⟩ := awake25_ev.rounds
 by_cases h1 : l0.length = 0 ∨ 30 < l0.length
 ·exact batches_few kA A0 c0 l0 w hG h1 hA
 have h0 : 0 < l0.length := by omega
 have hl : l0.length ≤ 30 := by omega
 obtain ⟨kR, hR⟩ := (rightL_ev l0 (by omega) hb 0 0 0 0 0 0 0 0 0 0 0 0 0).rounds
 rw [show decide (0 < l0.length) = true from decide_eq_true h0, Bool.and_true] at hR
 cases hall : l0.all rightC with
 | false =>
  rw [hall] at hR
  exact batches_wrong kA kR A0 c0 l0 w hG hr0 hc0 h0 hl hR hA
 | true =>
  rw [hall] at hR
  have hr : ∀ q ∈ l0, rightC q = true := List.all_eq_true.1 hall
  obtain ⟨K1, hp⟩ := ev_all (P := fun _ => True) (g := fun q k => prC k q = some (B (chT q))) l0 (fun q hq => print_ev (hb q hq) (hr q hq))
  obtain ⟨K2, hpb⟩ := ev_all (P := fun _ => True) (g := fun q k => prC k (backC q) = some (B (chT q))) l0 (fun q hq => by
   obtain ⟨h1, h2, h3⟩ := backC_right (hb q hq) (hr q hq)
   have := print_ev h1 h2
   rw [h3] at this
   exact this)
  obtain ⟨K3, hc1⟩ := ev_all (P := fun _ => True) (g := fun q k => script_Change.f k (B (chT q)) = some ((backC q).f0, (backC q).f1.f0, (backC q).f1.f1, (backC q).f1.f2.f0, (backC q).f1.f2.f1, (backC q).f1.f3, (backC q).f1.f4, 0)) l0 (fun q hq => read_ev (hb q hq) (hr q hq))
  have hch : Ev (fun k => script_changes.f k (B (joinS (l0.map chT)))) (l0.map backC, 0) := by
   cases l0 with
   | nil => simp at h0
   | cons x l => exact changes_ev x l (by simp at hl; omega) hb hr
  obtain ⟨K4, hch⟩ := hch
  exact batches_walk kR (max K1 K2) (max K3 K4) kA A0 c0 l0 w hG hr0 hc0 h0 hl hR (hp _ (by omega)) (hpb _ (by omega)) (fun q hq => chT_len (hb q hq) (hr q hq)) (hch _ (by omega)) (hc1 _ (by omega)) hA

end Go.Proofs.YtloclimoffhbhaaDoor.PSba
