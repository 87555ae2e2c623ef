-- Walks by hand.
-- halved
import Derived.Test.YtloclimoffhbhaaDoorSq6
import Derived.Test.YtloclimoffhbhaaDoorPScax200
namespace Go.Proofs.YtloclimoffhbhaaDoor.PSca
open Go.RowKit Go.Proofs.YtloclimoffhbhaaDoorW.PrintWords Go.Proofs.YtloclimoffhbhaaDoorW.PrintLast Go.Proofs.YtloclimoffhbhaaDoorW.PrintMore Go.Proofs.YtloclimoffhbhaaDoorW.PrintSq
attribute [local go_sem] max2_int min2_int max_two min_two max_three min_three max_four min_four   -- for this text's walks alone
set_option linter.unusedVariables false
set_option linter.unusedSimpArgs false

open Go.Proofs.YtloclimoffhbhaaDoor.Scr Go.Proofs.YtloclimoffhbhaaDoor.Facts Go.Proofs.YtloclimoffhbhaaDoor.Bits
set_option maxHeartbeats 2000000 in
set_option maxRecDepth 100000 in
theorem call_ask (s v rest : ByteArray) (q0 q1 q2 q3 q4 q5 q6 q7 q8 q9 q10 q11 : Int) (w : World) (hG : Hand.Good true false w) (hc : strings_Cut.f s ⟨#[32]⟩ = some (v, rest, true)) (hv : v.toList = [97, 115, 107])
  (hq : ∀ w1, Below w.heap.size w w1 → Calls Tryd.prog 82 #[.string rest] w1 fun e w' => e = .returned (.tuple #[.agg #[.int .i64 q0, .int .i64 q1, .int .i64 q2, .int .u32 q3, .int .i64 q4, .int .u32 q5, .int .i64 q6, .int .i64 q7, .int .u16 q8, .int .u16 q9, .int .u16 q10, .int .u16 q11], .int .i64 0]) ∧ Below w1.heap.size w1 w') :
  Calls Tryd.prog 26 #[.string s] w fun e w' => e = .returned (.tuple #[.iface 145 (.agg #[.int .i64 q0, .int .i64 q1, .int .i64 q2, .int .u32 q3, .int .i64 q4, .int .u32 q5, .int .i64 q6, .int .i64 q7, .int .u16 q8, .int .u16 q9, .int .u16 q10, .int .u16 q11]), .int .i64 0]) ∧ Below w.heap.size w w' := by
 have HG := Aside0.mk hG
 have HC := Aside0.mk hc
 have HQ := Aside0.mk hq
 have v_batch : (v.toList == [98, 97, 116, 99, 104]) = false := by rw [hv]; rfl
 have v_ask : (v.toList == [97, 115, 107]) = true := by rw [hv]; rfl
 have v_unpin : (v.toList == [117, 110, 112, 105, 110]) = false := by rw [hv]; rfl
 clear hG hc hq hv
 go_enter Tryd.func26, Tryd.ntmps26
 go_wp2_with (first
  | (go_at_call 80; (with_reducible refine (strings_Cut.calls s _ v rest true _ HG.out HC.out).mono ?_); rintro e w1 ⟨rfl, hb⟩; have B1 := Aside0.mk hb; clear hb)
  | (go_at_call 82; (with_reducible refine (HQ.out _ B1.out).mono ?_); rintro e w2 ⟨rfl, hb⟩; have B2 := Aside0.mk (below_step B1.out hb); clear hb))
 go_ret2
 exact ⟨rfl, below_alloc B2.out _⟩
set_option maxHeartbeats 2000000 in
set_option maxRecDepth 100000 in
theorem call_unpin (s v rest : ByteArray) (n : Int) (w : World) (hG : Hand.Good true false w) (hc : strings_Cut.f s ⟨#[32]⟩ = some (v, rest, true)) (hv : v.toList = [117, 110, 112, 105, 110]) (hn : hdr_Number.f rest 2097152 = some (n, 0)) :
  Calls Tryd.prog 26 #[.string s] w fun e w' => e = .returned (.tuple #[.iface 147 (.agg #[.int .i64 n]), .int .i64 0]) ∧ Below w.heap.size w w' := by
 have HG := Aside0.mk hG
 have HC := Aside0.mk hc
 have HN := Aside0.mk hn
 have v_batch : (v.toList == [98, 97, 116, 99, 104]) = false := by rw [hv]; rfl
 have v_ask : (v.toList == [97, 115, 107]) = false := by rw [hv]; rfl
 have v_unpin : (v.toList == [117, 110, 112, 105, 110]) = true := by rw [hv]; rfl
 clear hG hc hn hv
 go_enter Tryd.func26, Tryd.ntmps26
 go_wp2_with (first
  | (go_at_call 80; (with_reducible refine (strings_Cut.calls s _ v rest true _ HG.out HC.out).mono ?_); rintro e w1 ⟨rfl, hb⟩; have B1 := Aside0.mk hb; clear hb)
  | (go_at_call 30; (with_reducible refine (hdr_Number.calls rest _ n 0 _ HN.out).mono ?_); rintro e w2 ⟨rfl, hb⟩; have B2 := Aside0.mk (below_step B1.out hb); clear hb))
 go_ret2
 exact ⟨rfl, B2.out⟩
set_option maxHeartbeats 2000000 in
set_option maxRecDepth 100000 in
theorem call_pin (s rest : ByteArray) (w : World) (hG : Hand.Good true false w) (hc : strings_Cut.f s ⟨#[32]⟩ = some (s, rest, false)) (hv : s.toList = [112, 105, 110]) :
  Calls Tryd.prog 26 #[.string s] w fun e w' => e = .returned (.tuple #[.iface 149 (.agg #[]), .int .i64 0]) ∧ Below w.heap.size w w' := by
 have HG := Aside0.mk hG
 have HC := Aside0.mk hc
 have s_batch : (s.toList == [98, 97, 116, 99, 104]) = false := by rw [hv]; rfl
 have s_ask : (s.toList == [97, 115, 107]) = false := by rw [hv]; rfl
 have s_unpin : (s.toList == [117, 110, 112, 105, 110]) = false := by rw [hv]; rfl
 have s_pin : (s.toList == [112, 105, 110]) = true := by rw [hv]; rfl
 have s_close : (s.toList == [99, 108, 111, 115, 101]) = false := by rw [hv]; rfl
 clear hG hc hv
 go_enter Tryd.func26, Tryd.ntmps26
 go_wp2_with (first
  | (go_at_call 80; (with_reducible refine (strings_Cut.calls s _ s rest false _ HG.out HC.out).mono ?_); rintro e w1 ⟨rfl, hb⟩; have B1 := Aside0.mk hb; clear hb))
 go_ret2
 exact ⟨rfl, B1.out⟩
set_option maxHeartbeats 2000000 in
set_option maxRecDepth 100000 in
theorem call_close (s rest : ByteArray) (w : World) (hG : Hand.Good true false w) (hc : strings_Cut.f s ⟨#[32]⟩ = some (s, rest, false)) (hv : s.toList = [99, 108, 111, 115, 101]) :
  Calls Tryd.prog 26 #[.string s] w fun e w' => e = .returned (.tuple #[.iface 150 (.agg #[]), .int .i64 0]) ∧ Below w.heap.size w w' := by
 have HG := Aside0.mk hG
 have HC := Aside0.mk hc
 have s_batch : (s.toList == [98, 97, 116, 99, 104]) = false := by rw [hv]; rfl
 have s_ask : (s.toList == [97, 115, 107]) = false := by rw [hv]; rfl
 have s_unpin : (s.toList == [117, 110, 112, 105, 110]) = false := by rw [hv]; rfl
 have s_pin : (s.toList == [112, 105, 110]) = false := by rw [hv]; rfl
 have s_close : (s.toList == [99, 108, 111, 115, 101]) = true := by rw [hv]; rfl
 clear hG hc hv
 go_enter Tryd.func26, Tryd.ntmps26
 go_wp2_with (first
  | (go_at_call 80; (with_reducible refine (strings_Cut.calls s _ s rest false _ HG.out HC.out).mono ?_); rintro e w1 ⟨rfl, hb⟩; have B1 := Aside0.mk hb; clear hb))
 go_ret2
 exact ⟨rfl, B1.out⟩


open Go.Proofs.YtloclimoffhbhaaDoor.Scr Go.Proofs.YtloclimoffhbhaaDoor.Facts Go.Proofs.YtloclimoffhbhaaDoor.Bits
theorem eqA42' (d : Nat) (w : World) (x0 y0 : Int) (x1 y1 : Int) :
  (Op.equalIn (d + 2) 42 (.agg #[.int .u32 x0, .int .i64 x1]) (.agg #[.int .u32 y0, .int .i64 y1])).run Tryd.prog w = .ok (x0 == y0 && (x1 == y1)) w := by
 refine eqA_of Tryd.underlying42 (by kernel_rfl) ?_
 refine eqf_cons (by rfl) (by go_simp; rfl) (by go_simp; rfl) (by go_simp) ?_
 exact eqf_last (by rfl) (by go_simp; rfl) (by go_simp; rfl) (by go_simp)
theorem eqA61 (d : Nat) (w : World) (x0 y0 : Int) (x1 y1 : Int) :
  (Op.equalIn (d + 2) 61 (.agg #[.int .u16 x0, .int .u16 x1]) (.agg #[.int .u16 y0, .int .u16 y1])).run Tryd.prog w = .ok (x0 == y0 && (x1 == y1)) w := by
 refine eqA_of Tryd.underlying61 (by kernel_rfl) ?_
 refine eqf_cons (by rfl) (by go_simp; rfl) (by go_simp; rfl) (by go_simp) ?_
 exact eqf_last (by rfl) (by go_simp; rfl) (by go_simp; rfl) (by go_simp)
theorem eqA77 (d : Nat) (w : World) (x0 y0 x1 y1 x2 y2 x3 y3 x4 y4 x5 y5 x6 y6 x7 y7 x8 y8 : Int) :
  (Op.equalIn (d + 3) 77 (.agg #[.int .u32 x0, .int .i64 x1, .int .u32 x2, .int .i64 x3, .int .i64 x4, .int .u16 x5, .int .u16 x6, .int .u16 x7, .int .u16 x8]) (.agg #[.int .u32 y0, .int .i64 y1, .int .u32 y2, .int .i64 y3, .int .i64 y4, .int .u16 y5, .int .u16 y6, .int .u16 y7, .int .u16 y8])).run Tryd.prog w = .ok ((x0 == y0 && (x1 == y1)) && ((x2 == y2 && (x3 == y3)) && (x4 == y4 && ((x5 == y5 && (x6 == y6)) && (x7 == y7 && (x8 == y8)))))) w := by
 refine eqA_of Tryd.underlying77 (by kernel_rfl) ?_
 refine eqf_cons (by rfl) (by go_simp) (by go_simp) (eqA42' (d + 0) w _ _ _ _) ?_
 refine eqf_cons (by rfl) (by go_simp) (by go_simp) (eqA42' (d + 0) w _ _ _ _) ?_
 refine eqf_cons (by rfl) (by go_simp; rfl) (by go_simp; rfl) (by go_simp) ?_
 refine eqf_cons (by rfl) (by go_simp) (by go_simp) (eqA61 (d + 0) w _ _ _ _) ?_
 exact eqf_last (by rfl) (by go_simp) (by go_simp) (eqA61 (d + 0) w _ _ _ _)
theorem eqA141 (d : Nat) (w : World) (x0 y0 x1 y1 x2 y2 x3 y3 x4 y4 x5 y5 x6 y6 x7 y7 x8 y8 x9 y9 x10 y10 x11 y11 : Int) :
  (Op.equalIn (d + 4) 141 (.agg #[.int .i64 x0, .int .i64 x1, .int .i64 x2, .int .u32 x3, .int .i64 x4, .int .u32 x5, .int .i64 x6, .int .i64 x7, .int .u16 x8, .int .u16 x9, .int .u16 x10, .int .u16 x11]) (.agg #[.int .i64 y0, .int .i64 y1, .int .i64 y2, .int .u32 y3, .int .i64 y4, .int .u32 y5, .int .i64 y6, .int .i64 y7, .int .u16 y8, .int .u16 y9, .int .u16 y10, .int .u16 y11])).run Tryd.prog w = .ok (x0 == y0 && (x1 == y1 && (x2 == y2 && ((x3 == y3 && (x4 == y4)) && ((x5 == y5 && (x6 == y6)) && (x7 == y7 && ((x8 == y8 && (x9 == y9)) && (x10 == y10 && (x11 == y11))))))))) w := by
 refine eqA_of Tryd.underlying141 (by kernel_rfl) ?_
 refine eqf_cons (by rfl) (by go_simp; rfl) (by go_simp; rfl) (by go_simp) ?_
 refine eqf_cons (by rfl) (by go_simp; rfl) (by go_simp; rfl) (by go_simp) ?_
 refine eqf_cons (by rfl) (by go_simp; rfl) (by go_simp; rfl) (by go_simp) ?_
 exact eqf_last (by rfl) (by go_simp) (by go_simp) (eqA77 (d + 0) w _ _ _ _ _ _ _ _ _ _ _ _ _ _ _ _ _ _)
attribute [local go_sem high] eqA141
set_option maxHeartbeats 2000000 in
set_option maxRecDepth 100000 in
theorem is_pin (A : Option Addr) (n c : Nat) (a2 a3 a4 a5 a6 a7 a8 a9 a10 a11 a12 a13 a14 : Int) (w : World) :
  Calls Tryd.prog 73 #[.iface 149 (.agg #[]), .agg #[.int .i64 2, .slice A n c, .int .i64 a2, .int .i64 a3, .int .i64 a4, .int .u32 a5, .int .i64 a6, .int .u32 a7, .int .i64 a8, .int .i64 a9, .int .u16 a10, .int .u16 a11, .int .u16 a12, .int .u16 a13, .int .i64 a14]] w fun e w' => e = .returned (.bool true) ∧ Below w.heap.size w w' := by
 have hta := fun v => crossbucklaw25_awake.ta_yes (xT := 20) Tryd.underlying149 v
 have hta122 := fun v => ta_zero (t := 149) Tryd.underlying122 (by decide) zero122 v
 have hta145 := fun v => ta_zero (t := 149) Tryd.underlying145 (by decide) zero145 v
 have B0 := Aside0.mk (Below.refl w.heap.size w)
 go_enter Tryd.func73, Tryd.ntmps73
 go_wp2_with (first
  | ((with_reducible refine gate_dst (N := 3) rfl ?_); refine box_event ?hg (N := 3) ?hd (cs := #[.int .i64 2, .slice A n c, .int .i64 a2, .int .i64 a3, .int .i64 a4, .int .u32 a5, .int .i64 a6, .int .u32 a7, .int .i64 a8, .int .i64 a9, .int .u16 a10, .int .u16 a11, .int .u16 a12, .int .u16 a13, .int .i64 a14]) (t := 115) ?hr ?_; (case hd => rfl); (case hg => rfl); (case hr => first | (go_simp; done) | (go_simp; rfl)); intro g1 hg w1 hbox hb; have X1 := Aside0.mk hbox; have B1 := Aside0.mk (below_step B0.out hb); have G1 := Aside0.mk (show w.heap.size ≤ g1 by rw [hg]; exact below_size B0.out); have zz := cz15 X1.out; clear hg hbox hb)
  | ((with_reducible refine gate_dst (N := 9) rfl ?_); refine box_event ?hg (N := 9) ?hd (cs := #[]) (t := 149) ?hr ?_; (case hd => rfl); (case hg => rfl); (case hr => first | (go_simp; done) | (go_simp; rfl)); intro g2 hg w2 hbox hb; have X2 := Aside0.mk hbox; have B2 := Aside0.mk (below_step B1.out hb); have G2 := Aside0.mk (show w.heap.size ≤ g2 by rw [hg]; exact below_size B1.out); have X12 := Aside0.mk (blk_below X1.out hb); have N12 := Aside0.mk (show g1 ≠ g2 by rw [hg]; exact Nat.ne_of_lt (blk_lt X1.out)); clear zz; have zz := cz15 X12.out; clear hg hbox hb)
  | ((with_reducible refine gate_ (.store 149 (.tmp 9) (.tmp 67)) rfl ?_); refine Hand.wpList_store_blk (g := g2) (off := 0) rfl rfl 149 (.tmp 9) (.tmp 67) rfl [] #[] rfl rfl X2.out rfl size149 (show 0 + 0 ≤ 0 by decide) (fits_all rfl) (rfl) (fun w3 hp => ?_); have X3 := Aside0.mk hp.box; have B3 := Aside0.mk (hp.bl _ B2.out G2.out); have X13 := Aside0.mk (hp.keep X12.out N12.out); clear zz; have zz := cz15 X13.out; clear hp))
 go_ret
 exact ⟨rfl, B3.out⟩
set_option maxHeartbeats 2000000 in
set_option maxRecDepth 100000 in
theorem is_unpin (A : Option Addr) (n c : Nat) (a2 a3 a4 a5 a6 a7 a8 a9 a10 a11 a12 a13 a14 : Int) (w : World) :
  Calls Tryd.prog 73 #[.iface 147 (.agg #[.int .i64 a14]), .agg #[.int .i64 3, .slice A n c, .int .i64 a2, .int .i64 a3, .int .i64 a4, .int .u32 a5, .int .i64 a6, .int .u32 a7, .int .i64 a8, .int .i64 a9, .int .u16 a10, .int .u16 a11, .int .u16 a12, .int .u16 a13, .int .i64 a14]] w fun e w' => e = .returned (.bool true) ∧ Below w.heap.size w w' := by
 have hta := fun v => crossbucklaw25_awake.ta_yes (xT := 20) Tryd.underlying147 v
 have hta122 := fun v => ta_zero (t := 147) Tryd.underlying122 (by decide) zero122 v
 have hta145 := fun v => ta_zero (t := 147) Tryd.underlying145 (by decide) zero145 v
 have hta149 := fun v => ta_zero (t := 147) Tryd.underlying149 (by decide) zero149 v
 have B0 := Aside0.mk (Below.refl w.heap.size w)
 go_enter Tryd.func73, Tryd.ntmps73
 go_wp2_with (first
  | ((with_reducible refine gate_dst (N := 3) rfl ?_); refine box_event ?hg (N := 3) ?hd (cs := #[.int .i64 3, .slice A n c, .int .i64 a2, .int .i64 a3, .int .i64 a4, .int .u32 a5, .int .i64 a6, .int .u32 a7, .int .i64 a8, .int .i64 a9, .int .u16 a10, .int .u16 a11, .int .u16 a12, .int .u16 a13, .int .i64 a14]) (t := 115) ?hr ?_; (case hd => rfl); (case hg => rfl); (case hr => first | (go_simp; done) | (go_simp; rfl)); intro g1 hg w1 hbox hb; have X1 := Aside0.mk hbox; have B1 := Aside0.mk (below_step B0.out hb); have G1 := Aside0.mk (show w.heap.size ≤ g1 by rw [hg]; exact below_size B0.out); have zz := cz15 X1.out; clear hg hbox hb)
  | ((with_reducible refine gate_dst (N := 10) rfl ?_); refine box_event ?hg (N := 10) ?hd (cs := #[.int .i64 0]) (t := 147) ?hr ?_; (case hd => rfl); (case hg => rfl); (case hr => first | (go_simp; done) | (go_simp; rfl)); intro g2 hg w2 hbox hb; have X2 := Aside0.mk hbox; have B2 := Aside0.mk (below_step B1.out hb); have G2 := Aside0.mk (show w.heap.size ≤ g2 by rw [hg]; exact below_size B1.out); have X12 := Aside0.mk (blk_below X1.out hb); have N12 := Aside0.mk (show g1 ≠ g2 by rw [hg]; exact Nat.ne_of_lt (blk_lt X1.out)); clear zz; have zz := cz15 X12.out; clear hg hbox hb)
  | ((with_reducible refine gate_ (.store 147 (.tmp 10) (.tmp 73)) rfl ?_); refine Hand.wpList_store_blk (g := g2) (off := 0) rfl rfl 147 (.tmp 10) (.tmp 73) rfl [.int .i64 a14] #[.int .i64 a14] rfl rfl X2.out rfl size147 (show 0 + 1 ≤ 1 by decide) (fits_all rfl) (rfl) (fun w3 hp => ?_); have X3 := Aside0.mk hp.box; have B3 := Aside0.mk (hp.bl _ B2.out G2.out); have X13 := Aside0.mk (hp.keep X12.out N12.out); clear zz; have zz := cz15 X13.out; have y0 : w3.cell? ⟨g2, 0, none⟩ = some (.int .i64 a14) := (blk_cell X3.out 0).trans rfl; clear hp))
 go_ret
 exact ⟨rfl, B3.out⟩
set_option maxHeartbeats 2000000 in
set_option maxRecDepth 100000 in
theorem is_close (A : Option Addr) (n c : Nat) (a2 a3 a4 a5 a6 a7 a8 a9 a10 a11 a12 a13 a14 : Int) (w : World) :
  Calls Tryd.prog 73 #[.iface 150 (.agg #[]), .agg #[.int .i64 4, .slice A n c, .int .i64 a2, .int .i64 a3, .int .i64 a4, .int .u32 a5, .int .i64 a6, .int .u32 a7, .int .i64 a8, .int .i64 a9, .int .u16 a10, .int .u16 a11, .int .u16 a12, .int .u16 a13, .int .i64 a14]] w fun e w' => e = .returned (.bool true) ∧ Below w.heap.size w w' := by
 have hta := fun v => crossbucklaw25_awake.ta_yes (xT := 20) Tryd.underlying150 v
 have hta122 := fun v => ta_zero (t := 150) Tryd.underlying122 (by decide) zero122 v
 have hta145 := fun v => ta_zero (t := 150) Tryd.underlying145 (by decide) zero145 v
 have hta149 := fun v => ta_zero (t := 150) Tryd.underlying149 (by decide) zero149 v
 have hta147 := fun v => ta_zero (t := 150) Tryd.underlying147 (by decide) zero147 v
 have B0 := Aside0.mk (Below.refl w.heap.size w)
 go_enter Tryd.func73, Tryd.ntmps73
 go_wp2_with (first
  | ((with_reducible refine gate_dst (N := 3) rfl ?_); refine box_event ?hg (N := 3) ?hd (cs := #[.int .i64 4, .slice A n c, .int .i64 a2, .int .i64 a3, .int .i64 a4, .int .u32 a5, .int .i64 a6, .int .u32 a7, .int .i64 a8, .int .i64 a9, .int .u16 a10, .int .u16 a11, .int .u16 a12, .int .u16 a13, .int .i64 a14]) (t := 115) ?hr ?_; (case hd => rfl); (case hg => rfl); (case hr => first | (go_simp; done) | (go_simp; rfl)); intro g1 hg w1 hbox hb; have X1 := Aside0.mk hbox; have B1 := Aside0.mk (below_step B0.out hb); have G1 := Aside0.mk (show w.heap.size ≤ g1 by rw [hg]; exact below_size B0.out); have zz := cz15 X1.out; clear hg hbox hb)
  | ((with_reducible refine gate_dst (N := 11) rfl ?_); refine box_event ?hg (N := 11) ?hd (cs := #[]) (t := 150) ?hr ?_; (case hd => rfl); (case hg => rfl); (case hr => first | (go_simp; done) | (go_simp; rfl)); intro g2 hg w2 hbox hb; have X2 := Aside0.mk hbox; have B2 := Aside0.mk (below_step B1.out hb); have G2 := Aside0.mk (show w.heap.size ≤ g2 by rw [hg]; exact below_size B1.out); have X12 := Aside0.mk (blk_below X1.out hb); have N12 := Aside0.mk (show g1 ≠ g2 by rw [hg]; exact Nat.ne_of_lt (blk_lt X1.out)); clear zz; have zz := cz15 X12.out; clear hg hbox hb)
  | ((with_reducible refine gate_ (.store 150 (.tmp 11) (.tmp 86)) rfl ?_); refine Hand.wpList_store_blk (g := g2) (off := 0) rfl rfl 150 (.tmp 11) (.tmp 86) rfl [] #[] rfl rfl X2.out rfl size150 (show 0 + 0 ≤ 0 by decide) (fits_all rfl) (rfl) (fun w3 hp => ?_); have X3 := Aside0.mk hp.box; have B3 := Aside0.mk (hp.bl _ B2.out G2.out); have X13 := Aside0.mk (hp.keep X12.out N12.out); clear zz; have zz := cz15 X13.out; clear hp))
 go_ret
 exact ⟨rfl, B3.out⟩
set_option maxHeartbeats 2000000 in
set_option maxRecDepth 100000 in
theorem is_ask0 (A : Option Addr) (n c : Nat) (a2 a3 a4 a5 a6 a7 a8 a9 a10 a11 a12 a13 a14 : Int) (w : World) :
  Calls Tryd.prog 73 #[.iface 145 (.agg #[.int .i64 0, .int .i64 a3, .int .i64 a4, .int .u32 a5, .int .i64 a6, .int .u32 a7, .int .i64 a8, .int .i64 a9, .int .u16 a10, .int .u16 a11, .int .u16 a12, .int .u16 a13]), .agg #[.int .i64 1, .slice A n c, .int .i64 0, .int .i64 a3, .int .i64 a4, .int .u32 a5, .int .i64 a6, .int .u32 a7, .int .i64 a8, .int .i64 a9, .int .u16 a10, .int .u16 a11, .int .u16 a12, .int .u16 a13, .int .i64 a14]] w fun e w' => e = .returned (.bool true) ∧ Below w.heap.size w w' := by
 have hta := fun v => crossbucklaw25_awake.ta_yes (xT := 20) Tryd.underlying145 v
 have hta122 := fun v => ta_zero (t := 145) Tryd.underlying122 (by decide) zero122 v
 have B0 := Aside0.mk (Below.refl w.heap.size w)
 go_enter Tryd.func73, Tryd.ntmps73
 go_wp2_with (first
  | ((with_reducible refine gate_dst (N := 3) rfl ?_); refine box_event ?hg (N := 3) ?hd (cs := #[.int .i64 1, .slice A n c, .int .i64 0, .int .i64 a3, .int .i64 a4, .int .u32 a5, .int .i64 a6, .int .u32 a7, .int .i64 a8, .int .i64 a9, .int .u16 a10, .int .u16 a11, .int .u16 a12, .int .u16 a13, .int .i64 a14]) (t := 115) ?hr ?_; (case hd => rfl); (case hg => rfl); (case hr => first | (go_simp; done) | (go_simp; rfl)); intro g1 hg w1 hbox hb; have X1 := Aside0.mk hbox; have B1 := Aside0.mk (below_step B0.out hb); have G1 := Aside0.mk (show w.heap.size ≤ g1 by rw [hg]; exact below_size B0.out); have zz := cz15 X1.out; clear hg hbox hb)
  | ((with_reducible refine gate_dst (N := 7) rfl ?_); refine box_event ?hg (N := 7) ?hd (cs := #[.int .i64 0, .int .i64 0, .int .i64 0, .int .u32 0, .int .i64 0, .int .u32 0, .int .i64 0, .int .i64 0, .int .u16 0, .int .u16 0, .int .u16 0, .int .u16 0]) (t := 145) ?hr ?_; (case hd => rfl); (case hg => rfl); (case hr => first | (go_simp; done) | (go_simp; rfl)); intro g2 hg w2 hbox hb; have X2 := Aside0.mk hbox; have B2 := Aside0.mk (below_step B1.out hb); have G2 := Aside0.mk (show w.heap.size ≤ g2 by rw [hg]; exact below_size B1.out); have X12 := Aside0.mk (blk_below X1.out hb); have N12 := Aside0.mk (show g1 ≠ g2 by rw [hg]; exact Nat.ne_of_lt (blk_lt X1.out)); clear zz; clear hg hbox hb)
  | ((with_reducible refine gate_ (.store 145 (.tmp 7) (.tmp 49)) rfl ?_); refine Hand.wpList_store_blk (g := g2) (off := 0) rfl rfl 145 (.tmp 7) (.tmp 49) rfl [.int .i64 0, .int .i64 a3, .int .i64 a4, .int .u32 a5, .int .i64 a6, .int .u32 a7, .int .i64 a8, .int .i64 a9, .int .u16 a10, .int .u16 a11, .int .u16 a12, .int .u16 a13] #[.int .i64 0, .int .i64 a3, .int .i64 a4, .int .u32 a5, .int .i64 a6, .int .u32 a7, .int .i64 a8, .int .i64 a9, .int .u16 a10, .int .u16 a11, .int .u16 a12, .int .u16 a13] rfl rfl X2.out rfl size145 (show 0 + 12 ≤ 12 by decide) (fits_all rfl) (put12 _ _ _ _ _ _ _ _ _ _ _ _ _ _ _ _ _ _ _ _ _ _ _ _) (fun w3 hp => ?_); have X3 := Aside0.mk hp.box; have B3 := Aside0.mk (hp.bl _ B2.out G2.out); have X13 := Aside0.mk (hp.keep X12.out N12.out); have zz := cz15 X13.out; clear hp)
  | ((with_reducible refine gate_dst (N := 8) rfl ?_); refine box_event ?hg (N := 8) ?hd (cs := #[.int .i64 0, .int .i64 0, .int .i64 0, .int .u32 0, .int .i64 0, .int .u32 0, .int .i64 0, .int .i64 0, .int .u16 0, .int .u16 0, .int .u16 0, .int .u16 0]) (t := 141) ?hr ?_; (case hd => rfl); (case hg => rfl); (case hr => first | (go_simp; done) | (go_simp; rfl)); intro g4 hg w4 hbox hb; have X4 := Aside0.mk hbox; have B4 := Aside0.mk (below_step B3.out hb); have G4 := Aside0.mk (show w.heap.size ≤ g4 by rw [hg]; exact below_size B3.out); have X14 := Aside0.mk (blk_below X13.out hb); have X34 := Aside0.mk (blk_below X3.out hb); have N14 := Aside0.mk (show g1 ≠ g4 by rw [hg]; exact Nat.ne_of_lt (blk_lt X13.out)); have N24 := Aside0.mk (show g2 ≠ g4 by rw [hg]; exact Nat.ne_of_lt (blk_lt X3.out)); clear zz; clear hg hbox hb)
  | ((with_reducible refine gate_ (.store 141 (.tmp 8) (.tmp 51)) rfl ?_); refine Hand.wpList_store_blk (g := g4) (off := 0) rfl rfl 141 (.tmp 8) (.tmp 51) rfl [.int .i64 0, .int .i64 a3, .int .i64 a4, .int .u32 a5, .int .i64 a6, .int .u32 a7, .int .i64 a8, .int .i64 a9, .int .u16 a10, .int .u16 a11, .int .u16 a12, .int .u16 a13] #[.int .i64 0, .int .i64 a3, .int .i64 a4, .int .u32 a5, .int .i64 a6, .int .u32 a7, .int .i64 a8, .int .i64 a9, .int .u16 a10, .int .u16 a11, .int .u16 a12, .int .u16 a13] rfl rfl X4.out rfl size141 (show 0 + 12 ≤ 12 by decide) (fits_all rfl) (put12 _ _ _ _ _ _ _ _ _ _ _ _ _ _ _ _ _ _ _ _ _ _ _ _) (fun w5 hp => ?_); have X5 := Aside0.mk hp.box; have B5 := Aside0.mk (hp.bl _ B4.out G4.out); have X15 := Aside0.mk (hp.keep X14.out N14.out); have X35 := Aside0.mk (hp.keep X34.out N24.out); have zz := cz15 X15.out; have yz := cz12 X35.out; have uz := cz12 X5.out; clear hp))
 go_ret
 exact ⟨by simp, B5.out⟩
set_option maxHeartbeats 2000000 in
set_option maxRecDepth 100000 in
theorem is_ask (A : Option Addr) (n c : Nat) (a2 a3 a4 a5 a6 a7 a8 a9 a10 a11 a12 a13 a14 : Int) (w : World) (h0 : 0 < a2) :
  Calls Tryd.prog 73 #[.iface 145 (.agg #[.int .i64 a2, .int .i64 a3, .int .i64 0, .int .u32 a5, .int .i64 a6, .int .u32 a7, .int .i64 a8, .int .i64 a9, .int .u16 a10, .int .u16 a11, .int .u16 a12, .int .u16 a13]), .agg #[.int .i64 1, .slice A n c, .int .i64 a2, .int .i64 a3, .int .i64 a4, .int .u32 a5, .int .i64 a6, .int .u32 a7, .int .i64 a8, .int .i64 a9, .int .u16 a10, .int .u16 a11, .int .u16 a12, .int .u16 a13, .int .i64 a14]] w fun e w' => e = .returned (.bool true) ∧ Below w.heap.size w w' := by
 have hta := fun v => crossbucklaw25_awake.ta_yes (xT := 20) Tryd.underlying145 v
 have hta122 := fun v => ta_zero (t := 145) Tryd.underlying122 (by decide) zero122 v
 have B0 := Aside0.mk (Below.refl w.heap.size w)
 have p1 : (a2 == 0) = false := beq_eq_false_iff_ne.2 (by omega)
 have p2 : (a2 != 0) = true := bne_iff_ne.2 (by omega)
 clear h0
 go_enter Tryd.func73, Tryd.ntmps73
 go_wp2_with (first
  | ((with_reducible refine gate_dst (N := 3) rfl ?_); refine box_event ?hg (N := 3) ?hd (cs := #[.int .i64 1, .slice A n c, .int .i64 a2, .int .i64 a3, .int .i64 a4, .int .u32 a5, .int .i64 a6, .int .u32 a7, .int .i64 a8, .int .i64 a9, .int .u16 a10, .int .u16 a11, .int .u16 a12, .int .u16 a13, .int .i64 a14]) (t := 115) ?hr ?_; (case hd => rfl); (case hg => rfl); (case hr => first | (go_simp; done) | (go_simp; rfl)); intro g1 hg w1 hbox hb; have X1 := Aside0.mk hbox; have B1 := Aside0.mk (below_step B0.out hb); have G1 := Aside0.mk (show w.heap.size ≤ g1 by rw [hg]; exact below_size B0.out); have zz := cz15 X1.out; clear hg hbox hb)
  | ((with_reducible refine gate_dst (N := 7) rfl ?_); refine box_event ?hg (N := 7) ?hd (cs := #[.int .i64 0, .int .i64 0, .int .i64 0, .int .u32 0, .int .i64 0, .int .u32 0, .int .i64 0, .int .i64 0, .int .u16 0, .int .u16 0, .int .u16 0, .int .u16 0]) (t := 145) ?hr ?_; (case hd => rfl); (case hg => rfl); (case hr => first | (go_simp; done) | (go_simp; rfl)); intro g2 hg w2 hbox hb; have X2 := Aside0.mk hbox; have B2 := Aside0.mk (below_step B1.out hb); have G2 := Aside0.mk (show w.heap.size ≤ g2 by rw [hg]; exact below_size B1.out); have X12 := Aside0.mk (blk_below X1.out hb); have N12 := Aside0.mk (show g1 ≠ g2 by rw [hg]; exact Nat.ne_of_lt (blk_lt X1.out)); clear zz; clear hg hbox hb)
  | ((with_reducible refine gate_ (.store 145 (.tmp 7) (.tmp 49)) rfl ?_); refine Hand.wpList_store_blk (g := g2) (off := 0) rfl rfl 145 (.tmp 7) (.tmp 49) rfl [.int .i64 a2, .int .i64 a3, .int .i64 0, .int .u32 a5, .int .i64 a6, .int .u32 a7, .int .i64 a8, .int .i64 a9, .int .u16 a10, .int .u16 a11, .int .u16 a12, .int .u16 a13] #[.int .i64 a2, .int .i64 a3, .int .i64 0, .int .u32 a5, .int .i64 a6, .int .u32 a7, .int .i64 a8, .int .i64 a9, .int .u16 a10, .int .u16 a11, .int .u16 a12, .int .u16 a13] rfl rfl X2.out rfl size145 (show 0 + 12 ≤ 12 by decide) (fits_all rfl) (put12 _ _ _ _ _ _ _ _ _ _ _ _ _ _ _ _ _ _ _ _ _ _ _ _) (fun w3 hp => ?_); have X3 := Aside0.mk hp.box; have B3 := Aside0.mk (hp.bl _ B2.out G2.out); have X13 := Aside0.mk (hp.keep X12.out N12.out); have zz := cz15 X13.out; clear hp)
  | ((with_reducible refine gate_dst (N := 8) rfl ?_); refine box_event ?hg (N := 8) ?hd (cs := #[.int .i64 0, .int .i64 0, .int .i64 0, .int .u32 0, .int .i64 0, .int .u32 0, .int .i64 0, .int .i64 0, .int .u16 0, .int .u16 0, .int .u16 0, .int .u16 0]) (t := 141) ?hr ?_; (case hd => rfl); (case hg => rfl); (case hr => first | (go_simp; done) | (go_simp; rfl)); intro g4 hg w4 hbox hb; have X4 := Aside0.mk hbox; have B4 := Aside0.mk (below_step B3.out hb); have G4 := Aside0.mk (show w.heap.size ≤ g4 by rw [hg]; exact below_size B3.out); have X14 := Aside0.mk (blk_below X13.out hb); have X34 := Aside0.mk (blk_below X3.out hb); have N14 := Aside0.mk (show g1 ≠ g4 by rw [hg]; exact Nat.ne_of_lt (blk_lt X13.out)); have N24 := Aside0.mk (show g2 ≠ g4 by rw [hg]; exact Nat.ne_of_lt (blk_lt X3.out)); clear zz; clear hg hbox hb)
  | ((with_reducible refine gate_ (.store 141 (.tmp 8) (.tmp 51)) rfl ?_); refine Hand.wpList_store_blk (g := g4) (off := 0) rfl rfl 141 (.tmp 8) (.tmp 51) rfl [.int .i64 a2, .int .i64 a3, .int .i64 a4, .int .u32 a5, .int .i64 a6, .int .u32 a7, .int .i64 a8, .int .i64 a9, .int .u16 a10, .int .u16 a11, .int .u16 a12, .int .u16 a13] #[.int .i64 a2, .int .i64 a3, .int .i64 a4, .int .u32 a5, .int .i64 a6, .int .u32 a7, .int .i64 a8, .int .i64 a9, .int .u16 a10, .int .u16 a11, .int .u16 a12, .int .u16 a13] rfl rfl X4.out rfl size141 (show 0 + 12 ≤ 12 by decide) (fits_all rfl) (put12 _ _ _ _ _ _ _ _ _ _ _ _ _ _ _ _ _ _ _ _ _ _ _ _) (fun w5 hp => ?_); have X5 := Aside0.mk hp.box; have B5 := Aside0.mk (hp.bl _ B4.out G4.out); have X15 := Aside0.mk (hp.keep X14.out N14.out); have X35 := Aside0.mk (hp.keep X34.out N24.out); have zz := cz15 X15.out; have yz := cz12 X35.out; have uz := cz12 X5.out; clear hp)
  | ((with_reducible refine gate_ (.store 3 (.tmp 55) (.const (.int .i64 0))) rfl ?_); refine Hand.wpList_store_blk (g := g4) (off := 2) rfl rfl 3 (.tmp 55) (.const (.int .i64 0)) rfl [.int .i64 0] #[.int .i64 a2, .int .i64 a3, .int .i64 0, .int .u32 a5, .int .i64 a6, .int .u32 a7, .int .i64 a8, .int .i64 a9, .int .u16 a10, .int .u16 a11, .int .u16 a12, .int .u16 a13] rfl rfl X5.out rfl size3_ (show 2 + 1 ≤ 12 by decide) (fits_all rfl) (by simp [Hand.putSeg]) (fun w6 hp => ?_); have X6 := Aside0.mk hp.box; have B6 := Aside0.mk (hp.bl _ B5.out G4.out); have X16 := Aside0.mk (hp.keep X15.out N14.out); have X36 := Aside0.mk (hp.keep X35.out N24.out); clear zz; clear yz; clear uz; have zz := cz15 X16.out; have yz := cz12 X36.out; have uz := cz12 X6.out; clear hp))
 go_ret
 exact ⟨by simp, B6.out⟩


open Go.Proofs.YtloclimoffhbhaaDoor.Scr Go.Proofs.YtloclimoffhbhaaDoor.Facts Go.Proofs.YtloclimoffhbhaaDoor.Bits
abbrev sameF (x y : S46) : Option Bool := crossbucklaw25_sameChange.f x.f0 x.f1.f0 x.f1.f1 x.f1.f2.f0 x.f1.f2.f1 x.f1.f3 x.f1.f4 y.f0 y.f1.f0 y.f1.f1 y.f1.f2.f0 y.f1.f2.f1 y.f1.f3 y.f1.f4
def isb_.T9 : Bool × List (List Nat × List Nat) := (true, [([], []), ([0], [0]), ([], []), ([1, 2], [1, 2]), ([3], [3]), ([], []), ([5], [5]), ([], []), ([6, 7], [6, 7]), ([8], [8]), ([4, 9], [4, 9]), ([10], [10])])
def isb_.B9 : List Nat := [0, 1, 0, 7, 15, 0, 32, 0, 224, 480, 1023, 2047]
theorem isb_.tab9 : rtab .any (opsOf Tryd.f73 9) = isb_.T9 := by kernel_rfl
theorem isb_.bits9 : waitsOk isb_.T9.2 isb_.B9 = true := by kernel_rfl
set_option maxHeartbeats 2000000 in
set_option maxRecDepth 100000 in
theorem is_batch_some (ad1 ad : Addr) (c1 c : Nat) (l1 l : List S46) (a2 a3 a4 a5 a6 a7 a8 a9 a10 a11 a12 a13 a14 : Int) (w : World) (hC1 : Kd.C k46 w (some ad1) l.length l1) (hC : Kd.C k46 w (some ad) l.length l) (hl : l.length ≤ 1000)
  (hs : ∀ ii : Int, 0 ≤ ii → ii < (l.length : Int) → sameF (rd_T46 l1 ii) (rd_T46 l ii) = some true) :
  Calls Tryd.prog 73 #[.iface 122 (.agg #[.slice (some ad1) l.length c1]), .agg #[.int .i64 0, .slice (some ad) l.length c, .int .i64 a2, .int .i64 a3, .int .i64 a4, .int .u32 a5, .int .i64 a6, .int .u32 a7, .int .i64 a8, .int .i64 a9, .int .u16 a10, .int .u16 a11, .int .u16 a12, .int .u16 a13, .int .i64 a14]] w fun e w' => e = .returned (.bool true) ∧ Below w.heap.size w w' := by
 have hta := fun v => crossbucklaw25_awake.ta_yes (xT := 20) Tryd.underlying122 v
 have B0 := Aside0.mk (Below.refl w.heap.size w)
 have HC1 := Aside0.mk hC1
 have HC := Aside0.mk hC
 have HL := Aside0.mk hl
 have HS := Aside0.mk hs
 clear hC1 hC hl hs
 go_enter Tryd.func73, Tryd.ntmps73
 go_wp2_with (first
  | ((with_reducible refine gate_dst (N := 3) rfl ?_); refine box_event ?hg (N := 3) ?hd (cs := #[.int .i64 0, .slice (some ad) l.length c, .int .i64 a2, .int .i64 a3, .int .i64 a4, .int .u32 a5, .int .i64 a6, .int .u32 a7, .int .i64 a8, .int .i64 a9, .int .u16 a10, .int .u16 a11, .int .u16 a12, .int .u16 a13, .int .i64 a14]) (t := 115) ?hr ?_; (case hd => rfl); (case hg => rfl); (case hr => first | (go_simp; done) | (go_simp; rfl)); intro g1 hg w1 hbox hb; have X1 := Aside0.mk hbox; have B1 := Aside0.mk (below_step B0.out hb); have G1 := Aside0.mk (show w.heap.size ≤ g1 by rw [hg]; exact below_size B0.out); have zz := cz15 X1.out; clear hg hbox hb)
  | ((with_reducible refine gate_dst (N := 5) rfl ?_); refine box_event ?hg (N := 5) ?hd (cs := #[.slice none 0 0]) (t := 122) ?hr ?_; (case hd => rfl); (case hg => rfl); (case hr => first | (go_simp; done) | (go_simp; rfl)); intro g2 hg w2 hbox hb; have X2 := Aside0.mk hbox; have B2 := Aside0.mk (below_step B1.out hb); have G2 := Aside0.mk (show w.heap.size ≤ g2 by rw [hg]; exact below_size B1.out); have X12 := Aside0.mk (blk_below X1.out hb); have N12 := Aside0.mk (show g1 ≠ g2 by rw [hg]; exact Nat.ne_of_lt (blk_lt X1.out)); clear zz; clear hg hbox hb)
  | ((with_reducible refine gate_ (.store 122 (.tmp 5) (.tmp 15)) rfl ?_); refine Hand.wpList_store_blk (g := g2) (off := 0) rfl rfl 122 (.tmp 5) (.tmp 15) rfl [.slice (some ad1) l.length c1] #[.slice (some ad1) l.length c1] rfl rfl X2.out rfl size122 (show 0 + 1 ≤ 1 by decide) (fits_all rfl) (rfl) (fun w3 hp => ?_); have X3 := Aside0.mk hp.box; have B3 := Aside0.mk (hp.bl _ B2.out G2.out); have X13 := Aside0.mk (hp.keep X12.out N12.out); have zz := cz15 X13.out; have y0 : w3.cell? ⟨g2, 0, none⟩ = some (.slice (some ad1) l.length c1) := (blk_cell X3.out 0).trans rfl; clear hp))
 clear zz y0
 go_loopg [31] l.length (fun kq v31 wl => ∃ (i : Nat) (ii : Int), i + kq = l.length ∧ v31 = .int .i64 ii ∧ Aside0 (ii = (i : Int)) ∧ Aside0 (Below w3.heap.size w3 wl))
 case atStart => exact ⟨0, 0, by omega, rfl, ⟨rfl⟩, ⟨Below.refl _ _⟩⟩
 case round =>
  obtain ⟨i, ii, hi, rfl, HII, BL⟩ := hrel
  have HI := Aside0.mk hi
  by_cases hlt : i < l.length
  ·have hcn : decide (ii < (l.length : Int)) = true := decide_eq_true (by have := HII.out; omega)
   have HLT := Aside0.mk hlt
   have p : 0 ≤ ii := by have := HII.out; omega
   have q : ii < (l.length : Int) := by have := HII.out; omega
   have BW := Aside0.mk (below_step B3.out BL.out)
   obtain ⟨ad1_, e1, hx0, hx1, hx2, hx3, hx4, hx5, hx6⟩ := at_T46 (Kd.C_below HC1.out BW.out) ii p q
   cases e1
   obtain ⟨ad_, e2, hy0, hy1, hy2, hy3, hy4, hy5, hy6⟩ := at_T46 (Kd.C_below HC.out BW.out) ii p q
   cases e2
   have hsx := HS.out ii p q
   generalize rd_T46 l1 ii = x at hx0 hx1 hx2 hx3 hx4 hx5 hx6 hsx
   generalize rd_T46 l ii = y at hy0 hy1 hy2 hy3 hy4 hy5 hy6 hsx
   have HSX := Aside0.mk (show crossbucklaw25_sameChange.f x.f0 x.f1.f0 x.f1.f1 x.f1.f2.f0 x.f1.f2.f1 x.f1.f3 x.f1.f4 y.f0 y.f1.f0 y.f1.f1 y.f1.f2.f0 y.f1.f2.f1 y.f1.f3 y.f1.f4 = some true from hsx)
   have U0 := Aside0.mk hx0
   have U1 := Aside0.mk hx1
   have U2 := Aside0.mk hx2
   have U3 := Aside0.mk hx3
   have U4 := Aside0.mk hx4
   have U5 := Aside0.mk hx5
   have U6 := Aside0.mk hx6
   have U7 := Aside0.mk hy0
   have U8 := Aside0.mk hy1
   have U9 := Aside0.mk hy2
   have U10 := Aside0.mk hy3
   have U11 := Aside0.mk hy4
   have U12 := Aside0.mk hy5
   have U13 := Aside0.mk hy6
   replace p := eq_true p
   clear hi hlt hsx hx0 hx1 hx2 hx3 hx4 hx5 hx6 hy0 hy1 hy2 hy3 hy4 hy5 hy6
   go_wp2
   have BD := Aside0.mk (below_drew1 BL.out)
   have hb6 := below_drew1 (Below.refl wr.heap.size wr)
   have hq0 : wr.drew.cell? ⟨g2, 0, none⟩ = some (.slice (some ad1) l.length c1) := (blk_cell (blk_below X3.out BD.out) 0).trans rfl
   have hq1 : wr.drew.cell? ⟨g1, 1, none⟩ = some (.slice (some ad) l.length c) := (blk_cell (blk_below X13.out BD.out) 1).trans rfl
   have hq2 := pw_cell_below hb6 U0.out
   have hq3 := pw_cell_below hb6 U1.out
   have hq4 := pw_cell_below hb6 U2.out
   have hq5 := pw_cell_below hb6 U3.out
   have hq6 := pw_cell_below hb6 U4.out
   have hq7 := pw_cell_below hb6 U5.out
   have hq8 := pw_cell_below hb6 U6.out
   have hq9 := pw_cell_below hb6 U7.out
   have hq10 := pw_cell_below hb6 U8.out
   have hq11 := pw_cell_below hb6 U9.out
   have hq12 := pw_cell_below hb6 U10.out
   have hq13 := pw_cell_below hb6 U11.out
   have hq14 := pw_cell_below hb6 U12.out
   have hq15 := pw_cell_below hb6 U13.out
   have HA0 := Aside0.mk hq0
   have HA1 := Aside0.mk hq1
   have HA2 := Aside0.mk hq2
   have HA3 := Aside0.mk hq3
   have HA4 := Aside0.mk hq4
   have HA5 := Aside0.mk hq5
   have HA6 := Aside0.mk hq6
   have HA7 := Aside0.mk hq7
   have HA8 := Aside0.mk hq8
   have HA9 := Aside0.mk hq9
   have HA10 := Aside0.mk hq10
   have HA11 := Aside0.mk hq11
   have HA12 := Aside0.mk hq12
   have HA13 := Aside0.mk hq13
   have HA14 := Aside0.mk hq14
   have HA15 := Aside0.mk hq15
   refine start_ (n := 12) (S := fun w' => w'.cell? ⟨g2, 0, none⟩ = some (.slice (some ad1) l.length c1) ∧ w'.cell? ⟨g1, 1, none⟩ = some (.slice (some ad) l.length c) ∧ w'.cell? (ad1.add (ii.toNat * 7)) = some (.bool x.f0) ∧ w'.cell? ⟨(ad1.add (ii.toNat * 7)).block, (ad1.add (ii.toNat * 7)).off + 1, none⟩ = some (.int .i64 x.f1.f0) ∧ w'.cell? ⟨(ad1.add (ii.toNat * 7)).block, (ad1.add (ii.toNat * 7)).off + 2, none⟩ = some (.int .i64 x.f1.f1) ∧ w'.cell? ⟨(ad1.add (ii.toNat * 7)).block, (ad1.add (ii.toNat * 7)).off + 3, none⟩ = some (.int .u32 x.f1.f2.f0) ∧ w'.cell? ⟨(ad1.add (ii.toNat * 7)).block, (ad1.add (ii.toNat * 7)).off + 4, none⟩ = some (.int .i64 x.f1.f2.f1) ∧ w'.cell? ⟨(ad1.add (ii.toNat * 7)).block, (ad1.add (ii.toNat * 7)).off + 5, none⟩ = some (.int .i64 x.f1.f3) ∧ w'.cell? ⟨(ad1.add (ii.toNat * 7)).block, (ad1.add (ii.toNat * 7)).off + 6, none⟩ = some (.int .i64 x.f1.f4) ∧ w'.cell? (ad.add (ii.toNat * 7)) = some (.bool y.f0) ∧ w'.cell? ⟨(ad.add (ii.toNat * 7)).block, (ad.add (ii.toNat * 7)).off + 1, none⟩ = some (.int .i64 y.f1.f0) ∧ w'.cell? ⟨(ad.add (ii.toNat * 7)).block, (ad.add (ii.toNat * 7)).off + 2, none⟩ = some (.int .i64 y.f1.f1) ∧ w'.cell? ⟨(ad.add (ii.toNat * 7)).block, (ad.add (ii.toNat * 7)).off + 3, none⟩ = some (.int .u32 y.f1.f2.f0) ∧ w'.cell? ⟨(ad.add (ii.toNat * 7)).block, (ad.add (ii.toNat * 7)).off + 4, none⟩ = some (.int .i64 y.f1.f2.f1) ∧ w'.cell? ⟨(ad.add (ii.toNat * 7)).block, (ad.add (ii.toNat * 7)).off + 5, none⟩ = some (.int .i64 y.f1.f3) ∧ w'.cell? ⟨(ad.add (ii.toNat * 7)).block, (ad.add (ii.toNat * 7)).off + 6, none⟩ = some (.int .i64 y.f1.f4)) (ds := []) #[false, false, false, false, false, false, false, false, false, false, false, false] (by kernel_rfl) rfl rfl ⟨hq0, hq1, hq2, hq3, hq4, hq5, hq6, hq7, hq8, hq9, hq10, hq11, hq12, hq13, hq14, hq15⟩ (fun hHeld => ?_)
   refine with_tabW isb_.tab9 isb_.bits9 (fun HT_ HW_ => ?_)
   clear hq0 hq1 hq2 hq3 hq4 hq5 hq6 hq7 hq8 hq9 hq10 hq11 hq12 hq13 hq14 hq15 hb6
   generalize wr.drew = wd at BD HA0 HA1 HA2 HA3 HA4 HA5 HA6 HA7 HA8 HA9 HA10 HA11 HA12 HA13 HA14 HA15 hHeld ⊢
   refine pure_ (i := 0) (N := some 34) (v := ?_) (a' := ?_) #[true, false, false, false, false, false, false, false, false, false, false, false] rfl rfl (any_of HT_.out (by kernel_rfl)) (fun _ _ _ h => h) (Or.inl ⟨by rfl, ?_⟩) ?_ ?_
   rotate_left
   ·intro w'
    go_simp
    with_reducible rfl
   rotate_left
   ·simp only [Act.put, List.setIfInBounds_toArray, List.set_cons_zero, List.set_cons_succ, i64_w, i32_w]
    rfl
   refine pure_ (i := 2) (N := some 36) (v := ?_) (a' := ?_) #[true, false, true, false, false, false, false, false, false, false, false, false] rfl rfl (any_of HT_.out (by kernel_rfl)) (fun _ _ _ h => h) (Or.inl ⟨by rfl, ?_⟩) ?_ ?_
   rotate_left
   ·intro w'
    go_simp
    with_reducible rfl
   rotate_left
   ·simp only [Act.put, List.setIfInBounds_toArray, List.set_cons_zero, List.set_cons_succ, i64_w, i32_w]
    rfl
   refine pure_ (i := 5) (N := some 39) (v := ?_) (a' := ?_) #[true, false, true, false, false, true, false, false, false, false, false, false] rfl rfl (any_of HT_.out (by kernel_rfl)) (fun _ _ _ h => h) (Or.inl ⟨by rfl, ?_⟩) ?_ ?_
   rotate_left
   ·intro w'
    go_simp
    with_reducible rfl
   rotate_left
   ·simp only [Act.put, List.setIfInBounds_toArray, List.set_cons_zero, List.set_cons_succ, i64_w, i32_w]
    rfl
   refine pure_ (i := 7) (N := some 41) (v := ?_) (a' := ?_) #[true, false, true, false, false, true, false, true, false, false, false, false] rfl rfl (any_of HT_.out (by kernel_rfl)) (fun _ _ _ h => h) (Or.inl ⟨by rfl, ?_⟩) ?_ ?_
   rotate_left
   ·intro w'
    go_simp
    with_reducible rfl
   rotate_left
   ·simp only [Act.put, List.setIfInBounds_toArray, List.set_cons_zero, List.set_cons_succ, i64_w, i32_w]
    rfl
   refine take_ (i := 1) (N := some 35) (v := ?_) (a' := ?_) #[true, true, true, false, false, true, false, true, false, false, false, false] rfl rfl (take_ofW HT_.out HW_.out (by kernel_rfl)) (fun _ _ _ h => h) (Or.inl ⟨by rfl, ?_⟩) hHeld ?_ ?_
   rotate_left
   ·rintro w' ⟨s0, s1, s2, s3, s4, s5, s6, s7, s8, s9, s10, s11, s12, s13, s14, s15⟩
    go_simp
    with_reducible rfl
   rotate_left
   ·simp only [Act.put, List.setIfInBounds_toArray, List.set_cons_zero, List.set_cons_succ, i64_w, i32_w]
    rfl
   refine pure_ (i := 3) (N := some 37) (v := ?_) (a' := ?_) #[true, true, true, true, false, true, false, true, false, false, false, false] rfl rfl (any_of HT_.out (by kernel_rfl)) (fun _ _ _ h => h) (Or.inl ⟨by rfl, ?_⟩) ?_ ?_
   rotate_left
   ·intro w'
    go_simp
    with_reducible rfl
   rotate_left
   ·simp only [Act.put, List.setIfInBounds_toArray, List.set_cons_zero, List.set_cons_succ, i64_w, i32_w]
    rfl
   refine take_ (i := 4) (N := some 38) (v := ?_) (a' := ?_) #[true, true, true, true, true, true, false, true, false, false, false, false] rfl rfl (take_ofW HT_.out HW_.out (by kernel_rfl)) (fun _ _ _ h => h) (Or.inl ⟨by rfl, ?_⟩) hHeld ?_ ?_
   rotate_left
   ·rintro w' ⟨s0, s1, s2, s3, s4, s5, s6, s7, s8, s9, s10, s11, s12, s13, s14, s15⟩
    go_simp
    with_reducible rfl
   rotate_left
   ·simp only [Act.put, List.setIfInBounds_toArray, List.set_cons_zero, List.set_cons_succ, i64_w, i32_w]
    rfl
   refine take_ (i := 6) (N := some 40) (v := ?_) (a' := ?_) #[true, true, true, true, true, true, true, true, false, false, false, false] rfl rfl (take_ofW HT_.out HW_.out (by kernel_rfl)) (fun _ _ _ h => h) (Or.inl ⟨by rfl, ?_⟩) hHeld ?_ ?_
   rotate_left
   ·rintro w' ⟨s0, s1, s2, s3, s4, s5, s6, s7, s8, s9, s10, s11, s12, s13, s14, s15⟩
    go_simp
    with_reducible rfl
   rotate_left
   ·simp only [Act.put, List.setIfInBounds_toArray, List.set_cons_zero, List.set_cons_succ, i64_w, i32_w]
    rfl
   refine pure_ (i := 8) (N := some 42) (v := ?_) (a' := ?_) #[true, true, true, true, true, true, true, true, true, false, false, false] rfl rfl (any_of HT_.out (by kernel_rfl)) (fun _ _ _ h => h) (Or.inl ⟨by rfl, ?_⟩) ?_ ?_
   rotate_left
   ·intro w'
    go_simp
    with_reducible rfl
   rotate_left
   ·simp only [Act.put, List.setIfInBounds_toArray, List.set_cons_zero, List.set_cons_succ, i64_w, i32_w]
    rfl
   refine take_ (i := 9) (N := some 43) (v := ?_) (a' := ?_) #[true, true, true, true, true, true, true, true, true, true, false, false] rfl rfl (take_ofW HT_.out HW_.out (by kernel_rfl)) (fun _ _ _ h => h) (Or.inl ⟨by rfl, ?_⟩) hHeld ?_ ?_
   rotate_left
   ·rintro w' ⟨s0, s1, s2, s3, s4, s5, s6, s7, s8, s9, s10, s11, s12, s13, s14, s15⟩
    go_simp
    with_reducible rfl
   rotate_left
   ·simp only [Act.put, List.setIfInBounds_toArray, List.set_cons_zero, List.set_cons_succ, i64_w, i32_w]
    rfl
   refine one_ (i := 10) (N := some 44) #[true, true, true, true, true, true, true, true, true, true, true, false] rfl rfl (one_of HT_.out (by kernel_rfl)) (by decide) (fun K hK => ?_)
   refine goes_ Tryd.func70 (by kernel_rfl) rfl #[.agg #[.bool x.f0, .int .i64 x.f1.f0, .int .i64 x.f1.f1, .int .u32 x.f1.f2.f0, .int .i64 x.f1.f2.f1, .int .i64 x.f1.f3, .int .i64 x.f1.f4], .agg #[.bool y.f0, .int .i64 y.f1.f0, .int .i64 y.f1.f1, .int .u32 y.f1.f2.f0, .int .i64 y.f1.f2.f1, .int .i64 y.f1.f3, .int .i64 y.f1.f4]] (by rfl) rfl rfl (by (try simp only [List.map_toArray, List.map_cons, List.map_nil]); first | done | rfl) ?_
   with_reducible refine (crossbucklaw25_sameChange.calls x.f0 x.f1.f0 x.f1.f1 x.f1.f2.f0 x.f1.f2.f1 x.f1.f3 x.f1.f4 y.f0 y.f1.f0 y.f1.f1 y.f1.f2.f0 y.f1.f2.f1 y.f1.f3 y.f1.f4 true _ HSX.out).mono ?_
   rintro e wz ⟨rfl, hz⟩
   refine ⟨_, rfl, ?_⟩
   have BZ := Aside0.mk (below_step BD.out hz)
   refine hK.out _ _ ⟨pw_cell_below hz HA0.out, pw_cell_below hz HA1.out, pw_cell_below hz HA2.out, pw_cell_below hz HA3.out, pw_cell_below hz HA4.out, pw_cell_below hz HA5.out, pw_cell_below hz HA6.out, pw_cell_below hz HA7.out, pw_cell_below hz HA8.out, pw_cell_below hz HA9.out, pw_cell_below hz HA10.out, pw_cell_below hz HA11.out, pw_cell_below hz HA12.out, pw_cell_below hz HA13.out, pw_cell_below hz HA14.out, pw_cell_below hz HA15.out⟩ (fun hHeld => ?_)
   clear hK K
   refine norm_ (a' := ?_) ?_ ?_
   rotate_left
   ·show Act.put _ (some 44) _ = _
    simp only [Act.put, List.setIfInBounds_toArray, List.set_cons_zero, List.set_cons_succ, i64_w, i32_w]
    rfl
   refine pure_ (i := 11) (N := some 45) (v := ?_) (a' := ?_) #[true, true, true, true, true, true, true, true, true, true, true, true] rfl rfl (any_of HT_.out (by kernel_rfl)) (fun _ _ _ h => h) (Or.inl ⟨by rfl, ?_⟩) ?_ ?_
   rotate_left
   ·intro w'
    go_simp
    with_reducible rfl
   rotate_left
   ·simp only [Act.put, List.setIfInBounds_toArray, List.set_cons_zero, List.set_cons_succ, i64_w, i32_w]
    rfl
   refine done_ (done_of HT_.out (by kernel_rfl)) ?_
   go_wp2
   go_roundg (l.length - (i + 1))
   case measure => have := HI.out; have := HLT.out; omega
   case rel => exact ⟨i + 1, ii + 1, by have := HLT.out; omega, by rw [wrap64_id _ (by have := HII.out; omega) (by have := HII.out; have := HLT.out; have := HL.out; omega)], ⟨by have := HII.out; omega⟩, BZ⟩
  ·have hcn : decide (ii < (l.length : Int)) = false := decide_eq_false (by have := HII.out; omega)
   go_wp2
   go_ret
   exact ⟨rfl, below_step B3.out BL.out⟩


open Go.Proofs.YtloclimoffhbhaaDoor.Scr Go.Proofs.YtloclimoffhbhaaDoor.Facts Go.Proofs.YtloclimoffhbhaaDoor.Bits
set_option maxHeartbeats 2000000 in
set_option maxRecDepth 100000 in
theorem calls_many (kA : Nat) (a0 a2 a3 a4 a5 a6 a7 a8 a9 a10 a11 a12 a13 a14 : Int) (A : Option Addr) (c : Nat) (l : List S46) (w : World) (hG : Hand.Good true true w) (hC : Kd.C k46 w A l.length l) (hc : l.length ≤ c) (h : 40 < l.length) (haw : crossbucklaw25_awake.f kA = some true) :
  Calls Tryd.prog 17 #[.agg #[.int .i64 a0, .slice A l.length c, .int .i64 a2, .int .i64 a3, .int .i64 a4, .int .u32 a5, .int .i64 a6, .int .u32 a7, .int .i64 a8, .int .i64 a9, .int .u16 a10, .int .u16 a11, .int .u16 a12, .int .u16 a13, .int .i64 a14]] w fun e w' => e = .returned (.bool true) ∧ Below w.heap.size w w' := by
 have HG := Aside0.mk hG
 have HC := Aside0.mk hC
 have HK := Aside0.mk hc
 have HAW := Aside0.mk haw
 have B0 := Aside0.mk (Below.refl w.heap.size w)
 have q0 : decide (40 < l.length) = true := decide_eq_true (by omega)
 have q1 : decide ((40 : Int) < (l.length : Int)) = true := decide_eq_true (by omega)
 clear h hG hC hc haw
 go_enter Tryd.func17, Tryd.ntmps17
 go_wp2_with (first
  | ((with_reducible refine gate_dst (N := 1) rfl ?_); refine box_event ?hg (N := 1) ?hd (cs := #[.int .i64 a0, .slice A l.length c, .int .i64 a2, .int .i64 a3, .int .i64 a4, .int .u32 a5, .int .i64 a6, .int .u32 a7, .int .i64 a8, .int .i64 a9, .int .u16 a10, .int .u16 a11, .int .u16 a12, .int .u16 a13, .int .i64 a14]) (t := 115) ?hr ?_; (case hd => rfl); (case hg => rfl); (case hr => first | (go_simp; done) | (go_simp; rfl)); intro g1 hg w1 hbox hb; have X1 := Aside0.mk hbox; have B1 := Aside0.mk (below_step B0.out hb); have G1 := Aside0.mk (show w.heap.size ≤ g1 by rw [hg]; exact below_size B0.out); have zz := cz15 X1.out; clear hg hbox hb)
  | (go_at_call 21; (with_reducible refine (crossbucklaw25_awake.calls kA true _ (Hand.Good.below true false HG.out B1.out rfl rfl) HAW.out).mono ?_); rintro e w2 ⟨rfl, hb⟩; have B2 := Aside0.mk (below_step B1.out hb); clear zz; have X2 := Aside0.mk (blk_below X1.out hb); have zz := cz15 X2.out; clear hb))
 go_ret
 exact ⟨rfl, B2.out⟩
set_option maxHeartbeats 2000000 in
set_option maxRecDepth 100000 in
theorem calls_wrong (kA kR : Nat) (a0 a2 a3 a4 a5 a6 a7 a8 a9 a10 a11 a12 a13 a14 : Int) (A : Option Addr) (c : Nat) (l : List S46) (w : World) (hG : Hand.Good true true w) (hC : Kd.C k46 w A l.length l) (hc : l.length ≤ c) (h : l.length ≤ 40) (hR : crossbuckref25_Right.f kR a0 l a2 a3 a4 a5 a6 a7 a8 a9 a10 a11 a12 a13 a14 = some false) (haw : crossbucklaw25_awake.f kA = some true) :
  Calls Tryd.prog 17 #[.agg #[.int .i64 a0, .slice A l.length c, .int .i64 a2, .int .i64 a3, .int .i64 a4, .int .u32 a5, .int .i64 a6, .int .u32 a7, .int .i64 a8, .int .i64 a9, .int .u16 a10, .int .u16 a11, .int .u16 a12, .int .u16 a13, .int .i64 a14]] w fun e w' => e = .returned (.bool true) ∧ Below w.heap.size w w' := by
 have HG := Aside0.mk hG
 have HC := Aside0.mk hC
 have HK := Aside0.mk hc
 have HAW := Aside0.mk haw
 have B0 := Aside0.mk (Below.refl w.heap.size w)
 have HR := Aside0.mk hR
 have q0 : decide (40 < l.length) = false := decide_eq_false (by omega)
 have q1 : decide ((40 : Int) < (l.length : Int)) = false := decide_eq_false (by omega)
 clear h hG hC hc haw hR
 go_enter Tryd.func17, Tryd.ntmps17
 go_wp2_with (first
  | ((with_reducible refine gate_dst (N := 1) rfl ?_); refine box_event ?hg (N := 1) ?hd (cs := #[.int .i64 a0, .slice A l.length c, .int .i64 a2, .int .i64 a3, .int .i64 a4, .int .u32 a5, .int .i64 a6, .int .u32 a7, .int .i64 a8, .int .i64 a9, .int .u16 a10, .int .u16 a11, .int .u16 a12, .int .u16 a13, .int .i64 a14]) (t := 115) ?hr ?_; (case hd => rfl); (case hg => rfl); (case hr => first | (go_simp; done) | (go_simp; rfl)); intro g1 hg w1 hbox hb; have X1 := Aside0.mk hbox; have B1 := Aside0.mk (below_step B0.out hb); have G1 := Aside0.mk (show w.heap.size ≤ g1 by rw [hg]; exact below_size B0.out); have zz := cz15 X1.out; clear hg hbox hb)
  | (go_at_call 68; (with_reducible refine (crossbuckref25_Right.calls kR a0 A c l a2 a3 a4 a5 a6 a7 a8 a9 a10 a11 a12 a13 a14 false _ (Kd.C_below HC.out B1.out) HK.out HR.out).mono ?_); rintro e w2 ⟨rfl, hb⟩; have B2 := Aside0.mk (below_step B1.out hb); clear zz; have X2 := Aside0.mk (blk_below X1.out hb); have zz := cz15 X2.out; clear hb)
  | (go_at_call 21; (with_reducible refine (crossbucklaw25_awake.calls kA true _ (Hand.Good.below true false HG.out B2.out rfl rfl) HAW.out).mono ?_); rintro e w3 ⟨rfl, hb⟩; have B3 := Aside0.mk (below_step B2.out hb); clear zz; have X3 := Aside0.mk (blk_below X2.out hb); have zz := cz15 X3.out; clear hb))
 go_ret
 exact ⟨rfl, B3.out⟩
set_option maxHeartbeats 2000000 in
set_option maxRecDepth 100000 in
theorem calls_right (kA kR kF : Nat) (a0 a2 a3 a4 a5 a6 a7 a8 a9 a10 a11 a12 a13 a14 : Int) (A : Option Addr) (c : Nat) (l : List S46) (v : Value) (s : ByteArray) (P : Value → World → Prop) (w : World) (hG : Hand.Good true true w) (hC : Kd.C k46 w A l.length l) (hc : l.length ≤ c) (h : l.length ≤ 40) (hR : crossbuckref25_Right.f kR a0 l a2 a3 a4 a5 a6 a7 a8 a9 a10 a11 a12 a13 a14 = some true) (haw : crossbucklaw25_awake.f kA = some true)
  (hF : crossbuckref25_Call.f kF a0 l a2 a3 a4 a5 a6 a7 a8 a9 a10 a11 a12 a13 a14 = some s)
  (hT : ∀ w1, Below w.heap.size w w1 → Calls Tryd.prog 71 #[.agg #[.int .i64 a0, .slice A l.length c, .int .i64 a2, .int .i64 a3, .int .i64 a4, .int .u32 a5, .int .i64 a6, .int .u32 a7, .int .i64 a8, .int .i64 a9, .int .u16 a10, .int .u16 a11, .int .u16 a12, .int .u16 a13, .int .i64 a14]] w1 fun e w' => e = .returned v ∧ Below w1.heap.size w1 w')
  (hP : ∀ w1, Below w.heap.size w w1 → Calls Tryd.prog 27 #[v] w1 fun e w' => e = .returned (.string s) ∧ Below w1.heap.size w1 w')
  (hCa : ∀ w1, Below w.heap.size w w1 → Calls Tryd.prog 26 #[.string s] w1 fun e w' => ∃ v2, P v2 w' ∧ e = .returned (.tuple #[v2, .int .i64 0]) ∧ Below w1.heap.size w1 w')
  (hI : ∀ v2 w1 w2, P v2 w1 → Below w1.heap.size w1 w2 → Below w.heap.size w w2 → Calls Tryd.prog 73 #[v2, .agg #[.int .i64 a0, .slice A l.length c, .int .i64 a2, .int .i64 a3, .int .i64 a4, .int .u32 a5, .int .i64 a6, .int .u32 a7, .int .i64 a8, .int .i64 a9, .int .u16 a10, .int .u16 a11, .int .u16 a12, .int .u16 a13, .int .i64 a14]] w2 fun e w' => e = .returned (.bool true) ∧ Below w2.heap.size w2 w') :
  Calls Tryd.prog 17 #[.agg #[.int .i64 a0, .slice A l.length c, .int .i64 a2, .int .i64 a3, .int .i64 a4, .int .u32 a5, .int .i64 a6, .int .u32 a7, .int .i64 a8, .int .i64 a9, .int .u16 a10, .int .u16 a11, .int .u16 a12, .int .u16 a13, .int .i64 a14]] w fun e w' => e = .returned (.bool true) ∧ Below w.heap.size w w' := by
 have HG := Aside0.mk hG
 have HC := Aside0.mk hC
 have HK := Aside0.mk hc
 have HAW := Aside0.mk haw
 have B0 := Aside0.mk (Below.refl w.heap.size w)
 have HR := Aside0.mk hR
 have HF := Aside0.mk hF
 have HT := Aside0.mk hT
 have HP := Aside0.mk hP
 have HCA := Aside0.mk hCa
 have HI := Aside0.mk hI
 have q0 : decide (40 < l.length) = false := decide_eq_false (by omega)
 have q1 : decide ((40 : Int) < (l.length : Int)) = false := decide_eq_false (by omega)
 clear h hG hC hc haw hR hF hT hP hCa hI
 go_enter Tryd.func17, Tryd.ntmps17
 go_wp2_with (first
  | ((with_reducible refine gate_dst (N := 1) rfl ?_); refine box_event ?hg (N := 1) ?hd (cs := #[.int .i64 a0, .slice A l.length c, .int .i64 a2, .int .i64 a3, .int .i64 a4, .int .u32 a5, .int .i64 a6, .int .u32 a7, .int .i64 a8, .int .i64 a9, .int .u16 a10, .int .u16 a11, .int .u16 a12, .int .u16 a13, .int .i64 a14]) (t := 115) ?hr ?_; (case hd => rfl); (case hg => rfl); (case hr => first | (go_simp; done) | (go_simp; rfl)); intro g1 hg w1 hbox hb; have X1 := Aside0.mk hbox; have B1 := Aside0.mk (below_step B0.out hb); have G1 := Aside0.mk (show w.heap.size ≤ g1 by rw [hg]; exact below_size B0.out); have zz := cz15 X1.out; clear hg hbox hb)
  | (go_at_call 68; (with_reducible refine (crossbuckref25_Right.calls kR a0 A c l a2 a3 a4 a5 a6 a7 a8 a9 a10 a11 a12 a13 a14 true _ (Kd.C_below HC.out B1.out) HK.out HR.out).mono ?_); rintro e w2 ⟨rfl, hb⟩; have B2 := Aside0.mk (below_step B1.out hb); clear zz; have X2 := Aside0.mk (blk_below X1.out hb); have zz := cz15 X2.out; clear hb)
  | (go_at_call 71; (with_reducible refine (HT.out _ B2.out).mono ?_); rintro e w3 ⟨rfl, hb⟩; have B3 := Aside0.mk (below_step B2.out hb); clear zz; have X3 := Aside0.mk (blk_below X2.out hb); have zz := cz15 X3.out; clear hb)
  | (go_at_call 27; (with_reducible refine (HP.out _ B3.out).mono ?_); rintro e w4 ⟨rfl, hb⟩; have B4 := Aside0.mk (below_step B3.out hb); clear zz; have X4 := Aside0.mk (blk_below X3.out hb); have zz := cz15 X4.out; clear hb)
  | (go_at_call 26; (with_reducible refine (HCA.out _ B4.out).mono ?_); rintro e w5 ⟨v2, hp2, rfl, hb⟩; have P2 := Aside0.mk hp2; have BP := Aside0.mk (Below.refl w5.heap.size w5); have B5 := Aside0.mk (below_step B4.out hb); clear zz; have X5 := Aside0.mk (blk_below X4.out hb); have zz := cz15 X5.out; clear hb hp2)
  | (go_at_call 21; (with_reducible refine (crossbucklaw25_awake.calls kA true _ (Hand.Good.below true false HG.out B5.out rfl rfl) HAW.out).mono ?_); rintro e w6 ⟨rfl, hb⟩; have B6 := Aside0.mk (below_step B5.out hb); clear zz; have X6 := Aside0.mk (blk_below X5.out hb); have zz := cz15 X6.out; have BP6 := Aside0.mk hb; clear hb)
  | (go_at_call 72; (with_reducible refine (crossbuckref25_Call.calls kF a0 A c l a2 a3 a4 a5 a6 a7 a8 a9 a10 a11 a12 a13 a14 s _ (Kd.C_below HC.out B6.out) HK.out HF.out).mono ?_); rintro e w7 ⟨rfl, hb⟩; have B7 := Aside0.mk (below_step B6.out hb); have BP7 := Aside0.mk (below_step BP6.out hb); clear zz; have X7 := Aside0.mk (blk_below X6.out hb); have zz := cz15 X7.out; clear hb)
  | (go_at_call 73; (with_reducible refine (HI.out v2 w5 _ P2.out BP7.out B7.out).mono ?_); rintro e w8 ⟨rfl, hb⟩; have B8 := Aside0.mk (below_step B7.out hb); clear zz; clear hb))
 go_ret
 exact ⟨by simp, B8.out⟩


open Go.Proofs.YtloclimoffhbhaaDoor.Scr Go.Proofs.YtloclimoffhbhaaDoor.Facts Go.Proofs.YtloclimoffhbhaaDoor.Bits
theorem kindW_T : ∀ m : Nat, kindW m = kindT m
 | 0 => rfl
 | 1 => rfl
 | 2 => rfl
 | 3 => rfl
 | 4 => rfl
 | _ + 5 => rfl
theorem pin_cut : strings_Cut.f ⟨#[112, 105, 110]⟩ ⟨#[32]⟩ = some (⟨#[112, 105, 110]⟩, ⟨#[]⟩, false) := by decide +kernel
theorem close_cut : strings_Cut.f ⟨#[99, 108, 111, 115, 101]⟩ ⟨#[32]⟩ = some (⟨#[99, 108, 111, 115, 101]⟩, ⟨#[]⟩, false) := by decide +kernel
section
variable (kA kR : Nat) (A : Option Addr) (c : Nat) (l : List S46) (a2 a3 a4 a5 a6 a7 a8 a9 a10 a11 a12 a13 a14 : Int) (w : World)
theorem calls_pin (hG : Hand.Good true true w) (hC : Kd.C k46 w A l.length l) (hc : l.length ≤ c) (h : l.length ≤ 40) (hR : crossbuckref25_Right.f kR 2 l a2 a3 a4 a5 a6 a7 a8 a9 a10 a11 a12 a13 a14 = some true) (haw : crossbucklaw25_awake.f kA = some true) :
  Calls Tryd.prog 17 #[.agg #[.int .i64 2, .slice A l.length c, .int .i64 a2, .int .i64 a3, .int .i64 a4, .int .u32 a5, .int .i64 a6, .int .u32 a7, .int .i64 a8, .int .i64 a9, .int .u16 a10, .int .u16 a11, .int .u16 a12, .int .u16 a13, .int .i64 a14]] w fun e w' => e = .returned (.bool true) ∧ Below w.heap.size w w' := by
 refine calls_right kA kR 0 2 a2 a3 a4 a5 a6 a7 a8 a9 a10 a11 a12 a13 a14 A c l (.iface 149 (.agg #[])) ⟨#[112, 105, 110]⟩ (fun v w => v = .iface 149 (.agg #[])) w hG hC hc h hR haw rfl ?_ ?_ ?_ ?_
 ·exact fun w1 _ => to2 A l.length c a2 a3 a4 a5 a6 a7 a8 a9 a10 a11 a12 a13 a14 w1
 ·exact fun w1 _ => print_pin w1
 ·intro w1 hb
  refine (call_pin ⟨#[112, 105, 110]⟩ ⟨#[]⟩ w1 (Hand.Good.below true false hG hb rfl rfl) pin_cut (toList_B _)).mono ?_
  rintro e w2 ⟨rfl, hb2⟩
  exact ⟨_, rfl, rfl, hb2⟩
 ·rintro v2 w1 w2 rfl _ _
  exact is_pin A l.length c a2 a3 a4 a5 a6 a7 a8 a9 a10 a11 a12 a13 a14 w2
theorem calls_close (hG : Hand.Good true true w) (hC : Kd.C k46 w A l.length l) (hc : l.length ≤ c) (h : l.length ≤ 40) (hR : crossbuckref25_Right.f kR 4 l a2 a3 a4 a5 a6 a7 a8 a9 a10 a11 a12 a13 a14 = some true) (haw : crossbucklaw25_awake.f kA = some true) :
  Calls Tryd.prog 17 #[.agg #[.int .i64 4, .slice A l.length c, .int .i64 a2, .int .i64 a3, .int .i64 a4, .int .u32 a5, .int .i64 a6, .int .u32 a7, .int .i64 a8, .int .i64 a9, .int .u16 a10, .int .u16 a11, .int .u16 a12, .int .u16 a13, .int .i64 a14]] w fun e w' => e = .returned (.bool true) ∧ Below w.heap.size w w' := by
 refine calls_right kA kR 0 4 a2 a3 a4 a5 a6 a7 a8 a9 a10 a11 a12 a13 a14 A c l (.iface 150 (.agg #[])) ⟨#[99, 108, 111, 115, 101]⟩ (fun v w => v = .iface 150 (.agg #[])) w hG hC hc h hR haw rfl ?_ ?_ ?_ ?_
 ·exact fun w1 _ => to4 A l.length c a2 a3 a4 a5 a6 a7 a8 a9 a10 a11 a12 a13 a14 w1
 ·exact fun w1 _ => print_close w1
 ·intro w1 hb
  refine (call_close ⟨#[99, 108, 111, 115, 101]⟩ ⟨#[]⟩ w1 (Hand.Good.below true false hG hb rfl rfl) close_cut (toList_B _)).mono ?_
  rintro e w2 ⟨rfl, hb2⟩
  exact ⟨_, rfl, rfl, hb2⟩
 ·rintro v2 w1 w2 rfl _ _
  exact is_close A l.length c a2 a3 a4 a5 a6 a7 a8 a9 a10 a11 a12 a13 a14 w2
theorem calls_unpin (hG : Hand.Good true true w) (hC : Kd.C k46 w A l.length l) (hc : l.length ≤ c) (h : l.length ≤ 40) (hs : small a14) (hR : crossbuckref25_Right.f kR 3 l a2 a3 a4 a5 a6 a7 a8 a9 a10 a11 a12 a13 a14 = some true) (haw : crossbucklaw25_awake.f kA = some true) :
  Calls Tryd.prog 17 #[.agg #[.int .i64 3, .slice A l.length c, .int .i64 a2, .int .i64 a3, .int .i64 a4, .int .u32 a5, .int .i64 a6, .int .u32 a7, .int .i64 a8, .int .i64 a9, .int .u16 a10, .int .u16 a11, .int .u16 a12, .int .u16 a13, .int .i64 a14]] w fun e w' => e = .returned (.bool true) ∧ Below w.heap.size w w' := by
 have hl : (D a14.toNat).length ≤ 8 := D_len7 (by have := hs.2; omega)
 have hsz : (B (D a14.toNat)).size ≤ 1000 := by rw [B_size]; omega
 have hcut : strings_Cut.f (⟨#[117, 110, 112, 105, 110, 32]⟩ ++ B (D a14.toNat)) ⟨#[32]⟩ = some (B [117, 110, 112, 105, 110], B (D a14.toNat), true) :=
  cut_mid 32 [117, 110, 112, 105, 110] (D a14.toNat) (by decide) (by simp only [List.length_append, List.length_cons, List.length_nil]; omega)
 obtain ⟨kF, hF⟩ := digS hs
 have hF' : crossbuckref25_n.f kF a14 = some (B (D a14.toNat)) := hF kF (Nat.le_refl _)
 refine calls_right kA kR kF 3 a2 a3 a4 a5 a6 a7 a8 a9 a10 a11 a12 a13 a14 A c l (.iface 147 (.agg #[.int .i64 a14])) (⟨#[117, 110, 112, 105, 110, 32]⟩ ++ B (D a14.toNat)) (fun v w => v = .iface 147 (.agg #[.int .i64 a14])) w hG hC hc h hR haw ?_ ?_ ?_ ?_ ?_
 ·unfold crossbuckref25_Call.f
  rw [if_neg (by decide), if_neg (by decide), if_neg (by decide), if_pos rfl, hF', Option.bind_some, if_pos (by rw [B_size]; omega)]
 ·exact fun w1 _ => to3 A l.length c a2 a3 a4 a5 a6 a7 a8 a9 a10 a11 a12 a13 a14 w1
 ·exact fun w1 hb => print_unpin a14 _ w1 (Hand.Good.below false true hG hb rfl rfl) (itoaS hs) hsz
 ·intro w1 hb
  refine (call_unpin _ (B [117, 110, 112, 105, 110]) (B (D a14.toNat)) a14 w1 (Hand.Good.below true false hG hb rfl rfl) hcut (toList_B _) (numS hs hs.2)).mono ?_
  rintro e w2 ⟨rfl, hb2⟩
  exact ⟨_, rfl, rfl, hb2⟩
 ·rintro v2 w1 w2 rfl _ _
  exact is_unpin A l.length c a2 a3 a4 a5 a6 a7 a8 a9 a10 a11 a12 a13 a14 w2
end


open Go.Proofs.YtloclimoffhbhaaDoor.Scr Go.Proofs.YtloclimoffhbhaaDoor.Facts Go.Proofs.YtloclimoffhbhaaDoor.Bits
theorem calls_ask0 (kA kR : Nat) (A : Option Addr) (c : Nat) (l : List S46) (a3 a4 a5 a6 a7 a8 a9 a10 a11 a12 a13 a14 : Int) (w : World) (hG : Hand.Good true true w) (hK : Kinds w) (hC : Kd.C k46 w A l.length l) (hc : l.length ≤ c) (h : l.length ≤ 40) (h3 : small a3) (h4 : small a4) (hbf : BdF a5 a6 a7 a8 a9 a10 a11 a12 a13) (hrf : rightF a5 a6 a7 a8 a9 a10 a11 a12 a13 = true)
  (hR : crossbuckref25_Right.f kR 1 l 0 a3 a4 a5 a6 a7 a8 a9 a10 a11 a12 a13 a14 = some true) (haw : crossbucklaw25_awake.f kA = some true) :
  Calls Tryd.prog 17 #[.agg #[.int .i64 1, .slice A l.length c, .int .i64 0, .int .i64 a3, .int .i64 a4, .int .u32 a5, .int .i64 a6, .int .u32 a7, .int .i64 a8, .int .i64 a9, .int .u16 a10, .int .u16 a11, .int .u16 a12, .int .u16 a13, .int .i64 a14]] w fun e w' => e = .returned (.bool true) ∧ Below w.heap.size w w' := by
 obtain ⟨⟨K1, hp⟩, hrp, ⟨K2, hpa⟩, hlen⟩ := fT_laws hbf hrf
 obtain ⟨K3, hq⟩ := refQ_ev (m := 0) (tu := a4) (by decide) h3 (fun _ => h4) hlen hrp
 obtain ⟨K4, hn⟩ := numbers_ev [a3, a4] (by simp) (by intro n hn; simp at hn; rcases hn with rfl | rfl <;> assumption)
 have hp' : filter_Print.f K1 a5 a6 a7 a8 a9 a10 a11 a12 a13 = _ := hp K1 (Nat.le_refl _)
 have hpa' : filter_Parse.f K2 _ = _ := hpa K2 (Nat.le_refl _)
 have hq' : crossbuckref25_Query.f K3 0 a3 a4 a5 a6 a7 a8 a9 a10 a11 a12 a13 = _ := hq K3 (Nat.le_refl _)
 have hn' : script_numbers.f K4 _ = _ := hn K4 (Nat.le_refl _)
 refine calls_right kA kR K3 1 0 a3 a4 a5 a6 a7 a8 a9 a10 a11 a12 a13 a14 A c l _ (B (qT 0 a3 a4 a5 a6 a7 a8 a9 a10 a11 a12 a13)) (fun v w => v = .iface 145 (.agg #[.int .i64 0, .int .i64 a3, .int .i64 a4, .int .u32 a5, .int .i64 a6, .int .u32 a7, .int .i64 a8, .int .i64 a9, .int .u16 a10, .int .u16 a11, .int .u16 a12, .int .u16 a13])) w hG hC hc h hR haw ?_ (fun w1 _ => to1 A l.length c 0 a3 a4 a5 a6 a7 a8 a9 a10 a11 a12 a13 a14 w1) ?_ ?_ ?_
 ·unfold crossbuckref25_Call.f
  rw [if_neg (by decide), if_pos rfl, hq', Option.bind_some]
 ·intro w1 hb
  exact print_ask0 K1 a3 a4 a5 a6 a7 a8 a9 a10 a11 a12 a13 _ _ _ _ w1 (Hand.Good.below false true hG hb rfl rfl) (hK.below hb) (itoaS h3) (itoaS h4) hp' (q_join0 h3 h4 hlen)
 ·intro w1 hb
  refine (call_ask _ (B [97, 115, 107]) _ 0 a3 a4 a5 a6 a7 a8 a9 a10 a11 a12 a13 w1 (Hand.Good.below true false hG hb rfl rfl) (q_cut h3 (fun _ => h4) hlen) (toList_B _) (fun w2 hb2 => ?_)).mono ?_
  ·exact query0 K4 K2 _ _ a3 a4 _ a5 a6 a7 a8 a9 a10 a11 a12 a13 w2 (Hand.Good.below true false (Hand.Good.below true false hG hb rfl rfl) hb2 rfl rfl) ((hK.below hb).below hb2) (q_split0 h3 h4 hlen) rfl rfl hn' (fW_join hlen) hpa'
  ·rintro e w2 ⟨rfl, hb2⟩
   exact ⟨_, rfl, rfl, hb2⟩
 ·rintro v2 w1 w2 rfl _ _
  exact is_ask0 A l.length c 0 a3 a4 a5 a6 a7 a8 a9 a10 a11 a12 a13 a14 w2
theorem calls_ask (kA kR : Nat) (A : Option Addr) (c : Nat) (l : List S46) (m : Nat) (a3 a4 a5 a6 a7 a8 a9 a10 a11 a12 a13 a14 : Int) (w : World) (hG : Hand.Good true true w) (hK : Kinds w) (hC : Kd.C k46 w A l.length l) (hc : l.length ≤ c) (h : l.length ≤ 40) (h0 : 0 < m) (h6 : m < 6) (h3 : small a3) (hbf : BdF a5 a6 a7 a8 a9 a10 a11 a12 a13) (hrf : rightF a5 a6 a7 a8 a9 a10 a11 a12 a13 = true)
  (hR : crossbuckref25_Right.f kR 1 l (m : Int) a3 a4 a5 a6 a7 a8 a9 a10 a11 a12 a13 a14 = some true) (haw : crossbucklaw25_awake.f kA = some true) :
  Calls Tryd.prog 17 #[.agg #[.int .i64 1, .slice A l.length c, .int .i64 (m : Int), .int .i64 a3, .int .i64 a4, .int .u32 a5, .int .i64 a6, .int .u32 a7, .int .i64 a8, .int .i64 a9, .int .u16 a10, .int .u16 a11, .int .u16 a12, .int .u16 a13, .int .i64 a14]] w fun e w' => e = .returned (.bool true) ∧ Below w.heap.size w w' := by
 obtain ⟨⟨K1, hp⟩, hrp, ⟨K2, hpa⟩, hlen⟩ := fT_laws hbf hrf
 obtain ⟨K3, hq⟩ := refQ_ev (m := m) (tu := a4) h6 h3 (fun h => absurd h (by omega)) hlen hrp
 obtain ⟨K4, hn⟩ := numbers_ev [a3] (by simp) (by intro n hn; simp at hn; rcases hn with rfl; assumption)
 have hp' : filter_Print.f K1 a5 a6 a7 a8 a9 a10 a11 a12 a13 = _ := hp K1 (Nat.le_refl _)
 have hpa' : filter_Parse.f K2 _ = _ := hpa K2 (Nat.le_refl _)
 have hq' : crossbuckref25_Query.f K3 (m : Int) a3 a4 a5 a6 a7 a8 a9 a10 a11 a12 a13 = _ := hq K3 (Nat.le_refl _)
 have hn' : script_numbers.f K4 _ = _ := hn K4 (Nat.le_refl _)
 refine calls_right kA kR K3 1 (m : Int) a3 a4 a5 a6 a7 a8 a9 a10 a11 a12 a13 a14 A c l _ (B (qT m a3 a4 a5 a6 a7 a8 a9 a10 a11 a12 a13)) (fun v w => v = .iface 145 (.agg #[.int .i64 (m : Int), .int .i64 a3, .int .i64 0, .int .u32 a5, .int .i64 a6, .int .u32 a7, .int .i64 a8, .int .i64 a9, .int .u16 a10, .int .u16 a11, .int .u16 a12, .int .u16 a13])) w hG hC hc h hR haw ?_ (fun w1 _ => to1 A l.length c (m : Int) a3 a4 a5 a6 a7 a8 a9 a10 a11 a12 a13 a14 w1) ?_ ?_ ?_
 ·unfold crossbuckref25_Call.f
  rw [if_neg (by decide), if_pos rfl, hq', Option.bind_some]
 ·intro w1 hb
  exact print_ask K1 m a3 a4 a5 a6 a7 a8 a9 a10 a11 a12 a13 _ _ _ w1 (Hand.Good.below false true hG hb rfl rfl) (hK.below hb) (itoaS h3) h0 h6 hp' (by rw [kindW_T]; exact q_joinS (by omega) h3 hlen)
 ·intro w1 hb
  refine (call_ask _ (B [97, 115, 107]) _ (m : Int) a3 0 a5 a6 a7 a8 a9 a10 a11 a12 a13 w1 (Hand.Good.below true false hG hb rfl rfl) (q_cut h3 (fun h => absurd h (by omega)) hlen) (toList_B _) (fun w2 hb2 => ?_)).mono ?_
  ·exact queryS K4 K2 _ _ m a3 _ a5 a6 a7 a8 a9 a10 a11 a12 a13 w2 (Hand.Good.below true false (Hand.Good.below true false hG hb rfl rfl) hb2 rfl rfl) ((hK.below hb).below hb2) (q_splitS (by omega) h3 hlen) h0 h6 (by rw [kindW_T]; rfl) rfl hn' (fW_join hlen) hpa'
  ·rintro e w2 ⟨rfl, hb2⟩
   exact ⟨_, rfl, rfl, hb2⟩
 ·rintro v2 w1 w2 rfl _ _
  exact is_ask A l.length c (m : Int) a3 a4 a5 a6 a7 a8 a9 a10 a11 a12 a13 a14 w2 (by omega)


open Go.Proofs.YtloclimoffhbhaaDoor.Scr Go.Proofs.YtloclimoffhbhaaDoor.Facts Go.Proofs.YtloclimoffhbhaaDoor.Bits
theorem same_back (x : S46) : sameF (backC x) x = some true := by
 unfold sameF crossbucklaw25_sameChange.f backC
 by_cases h : x.f0 = true
 ·rw [if_pos h]
  simp [h]
 ·rw [if_neg h]
  simp
theorem same_rd (l : List S46) (ii : Int) (p : 0 ≤ ii) (q : ii < (l.length : Int)) : sameF (rd_T46 (l.map backC) ii) (rd_T46 l ii) = some true := by
 obtain ⟨i, rfl⟩ := Int.eq_ofNat_of_zero_le p
 have h : i < l.length := by omega
 rw [rd46 h, rd46 (by rw [List.length_map]; exact h), List.getElem_map]
 exact same_back _
theorem calls_batch (kA kR : Nat) (ad : Addr) (c : Nat) (l : List S46) (a2 a3 a4 a5 a6 a7 a8 a9 a10 a11 a12 a13 a14 : Int) (w : World) (hG : Hand.Good true true w) (hC : Kd.C k46 w (some ad) l.length l) (hc : l.length ≤ c) (h0 : 0 < l.length) (h : l.length ≤ 40) (hb : ∀ q ∈ l, bdC q) (hr : ∀ q ∈ l, rightC q = true)
  (hR : crossbuckref25_Right.f kR 0 l a2 a3 a4 a5 a6 a7 a8 a9 a10 a11 a12 a13 a14 = some true) (haw : crossbucklaw25_awake.f kA = some true) :
  Calls Tryd.prog 17 #[.agg #[.int .i64 0, .slice (some ad) l.length c, .int .i64 a2, .int .i64 a3, .int .i64 a4, .int .u32 a5, .int .i64 a6, .int .u32 a7, .int .i64 a8, .int .i64 a9, .int .u16 a10, .int .u16 a11, .int .u16 a12, .int .u16 a13, .int .i64 a14]] w fun e w' => e = .returned (.bool true) ∧ Below w.heap.size w w' := by
 obtain ⟨K1, hF⟩ := refCall_ev l h h0 hb hr a2 a3 a4 a5 a6 a7 a8 a9 a10 a11 a12 a13 a14
 obtain ⟨K2, hp⟩ := ev_all (P := fun _ => True) (g := fun q k => prC k q = some (B (chT q))) l (fun q hq => print_ev (hb q hq) (hr q hq))
 have hch : Ev (fun k => script_changes.f k (B (joinS (l.map chT)))) (l.map backC, 0) := by
  cases l with
  | nil => simp at h0
  | cons x l => exact changes_ev x l (by simp at h; omega) hb hr
 obtain ⟨K3, hch⟩ := hch
 have hch' : script_changes.f K3 (B (joinS (l.map chT))) = some (l.map backC, 0) := hch K3 (Nat.le_refl _)
 have hjl := joinS_len (l.map chT) (fun x hx => by obtain ⟨y, hy, rfl⟩ := List.mem_map.1 hx; exact chT_len (hb y hy) (hr y hy))
 rw [List.length_map] at hjl
 have hcut : strings_Cut.f (B ([98, 97, 116, 99, 104, 32] ++ joinS (l.map chT))) ⟨#[32]⟩ = some (B [98, 97, 116, 99, 104], B (joinS (l.map chT)), true) :=
  cut_mid 32 [98, 97, 116, 99, 104] (joinS (l.map chT)) (by decide) (by simp only [List.length_append, List.length_cons, List.length_nil]; omega)
 have hs : (⟨#[98, 97, 116, 99, 104, 32]⟩ : ByteArray) ++ B (joinS (l.map chT)) = B ([98, 97, 116, 99, 104, 32] ++ joinS (l.map chT)) := by rw [← B_add]; rfl
 refine calls_right kA kR K1 0 a2 a3 a4 a5 a6 a7 a8 a9 a10 a11 a12 a13 a14 (some ad) c l _ (B ([98, 97, 116, 99, 104, 32] ++ joinS (l.map chT))) (fun v w => ∃ A1 c1, v = .iface 122 (.agg #[.slice (some A1) l.length c1]) ∧ Kd.C k46 w (some A1) l.length (l.map backC)) w hG hC hc h hR haw (hF K1 (Nat.le_refl _)) (fun w1 _ => to0 (some ad) l.length c a2 a3 a4 a5 a6 a7 a8 a9 a10 a11 a12 a13 a14 w1) ?_ ?_ ?_
 ·intro w1 hb1
  rw [← hs]
  refine printB K2 (some ad) c l ((l.map chT).map B) _ w1 (Hand.Good.below false true hG hb1 rfl rfl) (Kd.C_below hC hb1) (by omega) (by rw [List.length_map, List.length_map]) (fun i h1 h2 => ?_) (join_semi _ (by omega)) (by rw [B_size]; omega)
  rw [List.getElem_map, List.getElem_map]
  exact hp K2 (Nat.le_refl _) _ (List.getElem_mem h1)
 ·intro w1 hb1
  refine (crossbucklaw25_awake.batch_ K3 _ _ _ (l.map backC) w1 (Hand.Good.below true false hG hb1 rfl rfl) hcut (toList_B _) hch').mono ?_
  rintro e w2 ⟨v, rfl, hR2, hb2⟩
  obtain ⟨A1, c1, rfl⟩ := Kd.R_slice hR2
  have hC2 := (Kd.R_reads' hR2).2.2
  rw [List.length_map] at hC2
  obtain ⟨ad1, rfl, _⟩ := hC2.2.2 h0
  rw [List.length_map]
  exact ⟨_, ⟨ad1, c1, rfl, hC2⟩, rfl, hb2⟩
 ·rintro v2 w1 w2 ⟨A1, c1, rfl, hC2⟩ hb1 hb2
  exact is_batch_some A1 ad c1 c (l.map backC) l a2 a3 a4 a5 a6 a7 a8 a9 a10 a11 a12 a13 a14 w2 (Kd.C_below hC2 hb1) (Kd.C_below hC hb2) (by omega) (same_rd l)


open Go.Proofs.YtloclimoffhbhaaDoor.Scr Go.Proofs.YtloclimoffhbhaaDoor.Facts Go.Proofs.YtloclimoffhbhaaDoor.Bits
/-! ### crossbucklaw25_ScriptCalls: function 17 (by hand) -/
theorem scriptCalls_at (a0 : Int) (A : Option Addr) (c : Nat) (l : List S46) (a2 a3 a4 a5 a6 a7 a8 a9 a10 a11 a12 a13 a14 : Int) (w : World) (hC : Kd.C k46 w A l.length l) (hc : l.length ≤ c) (hG : Hand.Good true true w) (hK : Kinds w) (hb : ∀ q ∈ l, bdC q) (hbf : BdF a5 a6 a7 a8 a9 a10 a11 a12 a13) :
  Calls Tryd.prog 17 #[.agg #[.int .i64 a0, .slice A l.length c, .int .i64 a2, .int .i64 a3, .int .i64 a4, .int .u32 a5, .int .i64 a6, .int .u32 a7, .int .i64 a8, .int .i64 a9, .int .u16 a10, .int .u16 a11, .int .u16 a12, .int .u16 a13, .int .i64 a14]] w fun e w' => e = .returned (.bool true) ∧ Below w.heap.size w w' := by
 obtain ⟨kA, hA⟩ := awake25_ev.rounds
 by_cases h40 : 40 < l.length
 ·exact calls_many kA a0 a2 a3 a4 a5 a6 a7 a8 a9 a10 a11 a12 a13 a14 A c l w hG hC hc h40 hA
 by_cases h0 : a0 = 0
 ·subst h0
  obtain ⟨kR, hR⟩ := (rightL_ev l (by omega) hb a2 a3 a4 a5 a6 a7 a8 a9 a10 a11 a12 a13 a14).rounds
  cases hv : (l.all rightC && decide (0 < l.length)) with
  | false => rw [hv] at hR; exact calls_wrong kA kR 0 a2 a3 a4 a5 a6 a7 a8 a9 a10 a11 a12 a13 a14 A c l w hG hC hc (by omega) hR hA
  | true =>
   rw [hv] at hR
   rw [Bool.and_eq_true, decide_eq_true_eq] at hv
   obtain ⟨ad, rfl, _⟩ := hC.2.2 hv.2
   exact calls_batch kA kR ad c l a2 a3 a4 a5 a6 a7 a8 a9 a10 a11 a12 a13 a14 w hG hC hc hv.2 (by omega) hb (List.all_eq_true.1 hv.1) hR hA
 obtain ⟨kR, hR⟩ := (rightQ_ev l (a2 := a2) (a3 := a3) (a4 := a4) (f1 := a6) (f3 := a8) (f4 := a9) (f5 := a10) (f6 := a11) (f7 := a12) (f8 := a13) (a14 := a14) h0 hbf.a.1 hbf.a.2 hbf.b.1 hbf.b.2).rounds
 cases hv : rightQ a0 a2 a3 a4 a5 a6 a7 a8 a9 a10 a11 a12 a13 a14 with
 | false => rw [hv] at hR; exact calls_wrong kA kR a0 a2 a3 a4 a5 a6 a7 a8 a9 a10 a11 a12 a13 a14 A c l w hG hC hc (by omega) hR hA
 | true =>
  rw [hv] at hR
  unfold rightQ at hv
  by_cases h1 : a0 = 1
  ·rw [if_pos h1] at hv
   simp only [Bool.and_eq_true, Bool.or_eq_true, decide_eq_true_eq] at hv
   obtain ⟨⟨⟨⟨m0, m5⟩, s3⟩, s4⟩, hrf⟩ := hv
   subst h1
   obtain ⟨m, rfl⟩ := Int.eq_ofNat_of_zero_le m0
   by_cases hm : m = 0
   ·subst hm
    exact calls_ask0 kA kR A c l a3 a4 a5 a6 a7 a8 a9 a10 a11 a12 a13 a14 w hG hK hC hc (by omega) s3 (s4.resolve_left (by simp)) hbf hrf hR hA
   ·exact calls_ask kA kR A c l m a3 a4 a5 a6 a7 a8 a9 a10 a11 a12 a13 a14 w hG hK hC hc (by omega) (by omega) (by omega) s3 hbf hrf hR hA
  ·rw [if_neg h1] at hv
   simp only [Bool.and_eq_true, Bool.or_eq_true, decide_eq_true_eq, Bool.not_eq_true', decide_eq_false_iff_not] at hv
   obtain ⟨⟨n2, n4⟩, hn⟩ := hv
   rcases (show a0 = 2 ∨ a0 = 3 ∨ a0 = 4 by omega) with rfl | rfl | rfl
   ·exact calls_pin kA kR A c l a2 a3 a4 a5 a6 a7 a8 a9 a10 a11 a12 a13 a14 w hG hC hc (by omega) hR hA
   ·exact calls_unpin kA kR A c l a2 a3 a4 a5 a6 a7 a8 a9 a10 a11 a12 a13 a14 w hG hC hc (by omega) (hn.resolve_left (by omega)) hR hA
   ·exact calls_close kA kR A c l a2 a3 a4 a5 a6 a7 a8 a9 a10 a11 a12 a13 a14 w hG hC hc (by omega) hR hA


open Go.Proofs.YtloclimoffhbhaaDoor.Scr Go.Proofs.YtloclimoffhbhaaDoor.Facts Go.Proofs.YtloclimoffhbhaaDoor.Bits
def bdFB (a5 a7 a10 a11 a12 a13 : Int) : Bool := decide (0 ≤ a5 ∧ a5 < 4294967296) && decide (0 ≤ a7 ∧ a7 < 4294967296) && decide (0 ≤ a10 ∧ a10 ≤ 65535) && decide (0 ≤ a11 ∧ a11 ≤ 65535) && decide (0 ≤ a12 ∧ a12 ≤ 65535) && decide (0 ≤ a13 ∧ a13 ≤ 65535)
theorem bdFB_iff {a5 a6 a7 a8 a9 a10 a11 a12 a13 : Int} : bdFB a5 a7 a10 a11 a12 a13 = true ↔ BdF a5 a6 a7 a8 a9 a10 a11 a12 a13 := by
 unfold bdFB
 simp only [Bool.and_eq_true, decide_eq_true_eq]
 exact ⟨fun ⟨⟨⟨⟨⟨a, b⟩, c⟩, d⟩, e⟩, f⟩ => ⟨a, b, c, d, e, f⟩, fun h => ⟨⟨⟨⟨⟨h.a, h.b⟩, h.p5⟩, h.p6⟩, h.p7⟩, h.p8⟩⟩
def crossbucklaw25_ScriptCalls.f (a0 : Int) (l : List S46) (a2 a3 a4 a5 a6 a7 a8 a9 a10 a11 a12 a13 a14 : Int) : Option Bool := if (l.all bdB && bdFB a5 a7 a10 a11 a12 a13) = true then some true else none
theorem crossbucklaw25_ScriptCalls.calls (a0 : Int) (A : Option Addr) (c : Nat) (l : List S46) (a2 a3 a4 a5 a6 a7 a8 a9 a10 a11 a12 a13 a14 : Int) (r : Bool) (w : World) (hr0 : Kd.C k46 w A l.length l) (hc0 : l.length ≤ c) (hG : Hand.Good true true w) (hK : Kinds w) (h : crossbucklaw25_ScriptCalls.f a0 l a2 a3 a4 a5 a6 a7 a8 a9 a10 a11 a12 a13 a14 = some r) :
  Calls Tryd.prog 17 #[.agg #[.int .i64 a0, .slice A l.length c, .int .i64 a2, .int .i64 a3, .int .i64 a4, .int .u32 a5, .int .i64 a6, .int .u32 a7, .int .i64 a8, .int .i64 a9, .int .u16 a10, .int .u16 a11, .int .u16 a12, .int .u16 a13, .int .i64 a14]] w fun e w' => e = .returned (.bool r) ∧ Below w.heap.size w w' := by
 unfold crossbucklaw25_ScriptCalls.f at h
 by_cases hb' : (l.all bdB && bdFB a5 a7 a10 a11 a12 a13) = true
 case neg => rw [if_neg hb'] at h; cases h
 rw [if_pos hb'] at h
 obtain rfl := Option.some.inj h
 rw [Bool.and_eq_true] at hb'
 exact scriptCalls_at a0 A c l a2 a3 a4 a5 a6 a7 a8 a9 a10 a11 a12 a13 a14 w hr0 hc0 hG hK (fun q hq => bdB_iff.1 (List.all_eq_true.1 hb'.1 q hq)) (bdFB_iff.1 hb'.2)

end Go.Proofs.YtloclimoffhbhaaDoor.PSca
